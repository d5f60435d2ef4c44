/- Part 3. -/
import Derived.Test.YtebcagekopgdhaaGreatDoorY02
import Derived.Laws.CopyRow
import Derived.Maps.RangeWalk
set_option linter.unusedVariables false
set_option maxRecDepth 100000
set_option maxHeartbeats 40000000
namespace Go.Wk
open Go.RowKit
variable {p:Addr}{b c:Bool}{a z:Int}{kd:IntKind}{l:List Oper}{cs:List Value}{e id j m s t:Nat}{o oi:Oper}{i x y:Operand}{A:Option Addr}{dst:Option Nat}{k:TK}{yt:TypeId}{v:Value}
section
variable {N:Nat->Prop} {P:Program} {ops:Array Oper} {Q:Exit->Act->World->Prop} {T:Nat->Bool}
def Uk(N:Nat->Prop)(P:Program)(ops:Array Oper)(Q:Exit->Act->World->Prop)(k:Nat)(o:Oper)(K:Act->World->Prop)(a:Act)(w:World): Prop :=
 match k with
 | 0=>∃ v,YieldsIf P ops (GrN N w) o v a/\K (a.put o.dst v) w
 | 1=>if Region.wanted o (yielded ops a.tmps) then o.wp P a w (λa' w'=>GrN N w w'/\K a' w') (QF Q) else K (a.put o.dst undef) w
 | _=>if Region.wanted o (yielded ops a.tmps) then o.wp P a w K (QF Q) else K (a.put o.dst undef) w
def Xs(N:Nat->Prop)(P:Program)(ops:Array Oper)(Q:Exit->Act->World->Prop): List (Nat×Oper)->Act->World->Prop
 | [],a,w=>Q .normal a w
 | p::r,a,w=>Uk N P ops Q p.1 p.2 (Xs N P ops Q r) a w
def Yn(N:Nat->Prop)(P:Program)(ops:Array Oper)(Q:Exit->Act->World->Prop)(T:Nat->Bool): Nat->Array Bool->Act->World->Prop
 | 0,listed,a,w=>Region.ready .any ops listed=[]/\Q .normal a w
 | fuel+1,listed,a,w=>
  (Region.ready .any ops listed=[]->Q .normal a w) /\
   ∀ i∈Region.ready .any ops listed,wpOp P ops (QF Q) i (λa' w'=>(T i=false->GrN N w w')/\Yn N P ops Q T fuel (listed.setIfInBounds i true) a' w') a w
theorem Jbs: ∀ (fuel:Nat) (listed:Array Bool) (a:Act) (w:World),Yn N P ops Q T fuel listed a w->wpAny P .any ops Q fuel listed a w
 | 0,_,_,_,h=>h
 | fuel+1,_,_,_,h=>⟨h.1,λi hi=>wpOp_mono (λa' w' h'=>Jbs fuel _ a' w' h'.2) (Jjx (h.2 i hi))⟩
theorem Jlm(S:World->World->Prop)(hS0:∀ w,S w w)(hSt:∀ {a b c},S a b->S b c->S a c){i:Nat}(hi:ops[i]?=some oi)(hsel:∀ (j:Nat) (o:Oper) cs b,ops[j]?=some o->o.op≠.select cs b)(hSx:∀ listed j,Closed ops listed->i∈Region.ready .any ops listed->j∈Region.ready .any ops listed->∀ w w',(T j=false->GrN N w w')->S w w'):
  ∀ (fuel:Nat) (listed:Array Bool) (a:Act) (w:World),Closed ops listed ->
   (∀ j oj,ops[j]?=some oj->j≠i->listed.getD j true=false->(∀ e∈oj.after,Region.binds .any e=true->e.on≠i)->oi.apart ops oj=true) ->
   i∈Region.ready .any ops listed->YieldsIf P ops (S w) oi v a ->
   Yn N P ops Q T fuel (listed.setIfInBounds i true) (a.put oi.dst v) w->Yn N P ops Q T (fuel+1) listed a w:=by
 intro fuel;induction fuel with
 | zero=>
  intro listed a w U _ G hy H;refine ⟨λh=>(by rw [h]at G;cases G),λj hj=>?_⟩;by_cases hji:j=i
  .subst hji;exact hy.wpOp hi (hS0 w) ⟨λ_=>GrN.refl N w,H⟩
  .have:=ready_mono hj hji;rw [H.1]at this;cases this
 | succ fuel ih=>
  intro listed a w U u G hy H;refine ⟨λh=>(by rw [h]at G;cases G),λj hj=>?_⟩;by_cases hji:j=i
  .subst hji;exact hy.wpOp hi (hS0 w) ⟨λ_=>GrN.refl N w,H⟩
  .obtain ⟨J,oj,O,a3⟩:=mem_ready.1 hj;have Z:=H.2 j (ready_mono hj hji);have a2:∀ e∈oj.after,Region.binds .any e=true->e.on≠i:=λe he hb a7=>by
    have Z:=a3 e he hb;have h0:=(mem_ready.1 G).1;rw [a7]at Z;rcases Nat.lt_or_ge i listed.size with h'|h'
    .simp [h']at h0 Z;rw [h0]at Z;cases Z
    .simp [Array.getElem?_eq_none h']at Z
   have h2:=wpOp_putIf O (u j oj O hji J a2) (λcs b=>hsel i oi cs b hi) (λcs b=>hsel j oj cs b O) (λc a w h=>h) hy Z;have C:∀ k ok,ops[k]?=some ok->k≠i->(listed.setIfInBounds j true).getD k true=false ->
     (∀ e∈ok.after,Region.binds .any e=true->e.on≠i)->oi.apart ops ok=true:=λk ok hk a6 a1 a5=>by
    refine u k ok hk a6 ?_ a5;by_cases hjk:j=k
    .subst hjk;exact J
    .rw [getD_set_ne true hjk]at a1;exact a1
   refine wpOp_mono (λa' w' h3=>⟨h3.2.1,ih (listed.setIfInBounds j true) a' w' (U.step hj) C (ready_mono G (Ne.symm hji)) ?_ ?_⟩) h2
   .exact h3.1.imp (λ⟨h4,h5⟩=>⟨h4,λa4 hx=>h5 a4 (hSt (hSx listed j U G hj w w' h3.2.1) hx)⟩) id
   .rw [Array.setIfInBounds_comm _ _ hji];exact h3.2.2
theorem Jll(hsel:Region.noSelect ops=true)(F:Nat): ∀ (s:List (Nat×Nat)) (listed:Array Bool) (a:Act) (w:World),Closed ops listed->(∀ p∈s,Nat.ble p.1 2=true)->(∀ p∈s,p.2<ops.size)->(∀ p∈s,(p.1 == 2)=T p.2) ->
  (∀ t,T t=true->t<ops.size->∀ p∈s,p.1=0->Gz ops F t p.2=true)->Qr ops s listed=true->Xs N P ops Q (Je ops.toList s) a w->Yn N P ops Q T s.length listed a w
 | [],listed,a,w,_,_,_,_,_,hB,h=>⟨by simpa [Qr] using hB,h⟩
 | (k,i)::r,listed,a,w,hcl,hk,hlt,hKT,hR,hB,h=>by
  have hi:i<ops.size:=hlt _ (mC ..);have ho:ops[i]?=some ops[i]:=Array.getElem?_eq_getElem hi;have hn:nth ops.toList i=some ops[i]:=by rw [Xk];simp [hi]
  have hTi:=hKT _ (mC ..);have hk0:=hk _ (mC ..);simp only at hTi hk0;have hrec:Closed ops (listed.setIfInBounds i true)->Qr ops r (listed.setIfInBounds i true)=true->∀ a w,Xs N P ops Q (Je ops.toList r) a w->Yn N P ops Q T r.length (listed.setIfInBounds i true) a w:=λhc' hB' a w h'=>
   Jll hsel F r _ a w hc' (λp hp=>hk p (List.mem_cons_of_mem _ hp)) (λp hp=>hlt p (List.mem_cons_of_mem _ hp)) (λp hp=>hKT p (List.mem_cons_of_mem _ hp)) (λt ht htl p hp=>hR t ht htl p (List.mem_cons_of_mem _ hp)) hB' h'
  have one:Qr ops r (listed.setIfInBounds i true)=true->Region.ready .any ops listed=[i]->(T i=false->if Region.wanted ops[i] (yielded ops a.tmps) then ops[i].wp P a w (λa' w'=>GrN N w w'/\Xs N P ops Q (Je ops.toList r) a' w') (QF Q) else Xs N P ops Q (Je ops.toList r) (a.put ops[i].dst undef) w) ->
    (T i=true->if Region.wanted ops[i] (yielded ops a.tmps) then ops[i].wp P a w (Xs N P ops Q (Je ops.toList r)) (QF Q) else Xs N P ops Q (Je ops.toList r) (a.put ops[i].dst undef) w)->Yn N P ops Q T (r.length+1) listed a w:=λhB' hr hf ht=>by
   have hcl':Closed ops (listed.setIfInBounds i true):=hcl.step (by rw [hr];exact List.mem_singleton.2 rfl);refine ⟨λh0=>(by rw [hr]at h0;cases h0),λj hj=>?_⟩;rw [hr]at hj;obtain rfl:j=i:=by simpa using hj
   unfold wpOp;simp only [ho];cases hT:T j with
   | false=>
    have h:=hf hT;split
    .rename_i hw;simp only [hw,if_true]at h;exact .inl (Oper.wp_mono (λa' w' h'=>⟨λ_=>h'.1,hrec hcl' hB' _ _ h'.2⟩) h)
    .rename_i hw;simp only [hw]at h;exact ⟨λ_=>GrN.refl N w,hrec hcl' hB' _ _ h⟩
   | true=>
    have h:=ht hT;split
    .rename_i hw;simp only [hw,if_true]at h;exact .inl (Oper.wp_mono (λa' w' h'=>⟨λh0=>(by cases h0),hrec hcl' hB' _ _ h'⟩) h)
    .rename_i hw;simp only [hw]at h;exact ⟨λ_=>GrN.refl N w,hrec hcl' hB' _ _ h⟩
  match k,hTi,hk0,hR,hB,h with
  | 0,hTi,_,hR,hB,h=>
   simp only [Qr,Bool.and_eq_true]at hB;obtain ⟨⟨hr,hf⟩,hB'⟩:=hB;have hr':i∈Region.ready .any ops listed:=by simpa using hr
   simp only [Je,hn,Xs,Uk]at h;obtain ⟨v,hy,h⟩:=h;refine Jlm (GrN N) (GrN.refl N) (λh k=>GrN.trans h k) ho (Region.noSelect_spec hsel) ?_ r.length listed a w hcl (Region.free_spec ho hf) hr' hy (hrec (hcl.step hr') hB' _ _ h);intro listed' j hcl' hri hrj w w' hx;cases hT:T j with
   | false=>exact hx hT
   | true=>
    obtain ⟨_,oj,hoj,_⟩:=mem_ready.1 hrj;have h1:=Jvn hcl' F j i oj hoj (Jvm hoj hrj) (hR j hT (Array.getElem?_eq_some_iff.1 hoj).1 _ (mC ..) rfl);have h0:=(mem_ready.1 hri).1;rcases Nat.lt_or_ge i listed'.size with h'|h'
    .simp [h']at h0 h1;rw [h0]at h1;cases h1
    .simp [Array.getElem?_eq_none h']at h1
  | 1,hTi,_,hR,hB,h=>
   simp only [Qr,Bool.and_eq_true,beq_iff_eq]at hB;simp only [Je,hn,Xs,Uk]at h;refine one hB.2 hB.1 (λ_=>h) (λht=>?_);rw [<-hTi]at ht;cases ht
  | 2,hTi,_,hR,hB,h=>
   simp only [Qr,Bool.and_eq_true,beq_iff_eq]at hB;simp only [Je,hn,Xs,Uk]at h;refine one hB.2 hB.1 (λht=>?_) (λ_=>h);rw [<-hTi]at ht;cases ht
  | k+3,_,hk0,_,_,_=>simp at hk0
def Jcr(ops:Array Oper)(F:Nat)(s:List (Nat×Nat)): Bool :=
 Region.noSelect ops && (s.length == ops.size) && (s.all λp=>Nat.ble p.1 2) && (s.all λp=>Nat.blt p.2 ops.size) && (s.all λp=>(p.1 == 2) == Gq s p.2) &&
 ((List.range ops.size).all λt=>!Gq s t || s.all λp=>p.1 != 0 || Gz ops F t p.2) && Qr ops s (Array.replicate ops.size false)
end
section
variable {N:Nat->Prop} {P:Program} {n:Nat} {al al':AL} {w:World} {Q:Exit->Act->World->Prop} {ops:Array Oper} {rest:List (Nat×Oper)} {drest:List (Nat×Oper)}
variable {d ty:Nat} {op:Op} {pos:String} {aft:Array Edge} {tt:TT}
def WN(N:Nat->Prop)(P:Program)(n:Nat)(ops:Array Oper)(Q:Exit->Act->World->Prop)(l:List (Nat×Oper))(al:AL)(w:World): Prop:=∀ a,Fr n al a->Xs N P ops Q l a w
theorem Qwz(N:Nat->Prop)(F:Nat)(s:List (Nat×Nat))(hm:P.follows .mixedOrders=true)(hB:Jcr l.toArray F s=true)(h:WN N P n l.toArray Q (Je l s) al w.drew): WC P n (.region id l.toArray true) Q al w:=by
 intro a U;simp only [Jcr,Bool.and_eq_true,beq_iff_eq,List.all_eq_true,List.mem_range,Bool.or_eq_true,Bool.not_eq_true',bne_iff_ne]at hB;obtain ⟨⟨⟨⟨⟨⟨h1,O⟩,h3⟩,h4⟩,h5⟩,h6⟩,Z⟩:=hB;refine wp_region_any hm ?_;rw [<-O];refine Jbs (T:=Gq s) _ _ _ _ (Jll (N:=N) h1 F s _ a _ ?_ (λp u=>h3 p u) (λp u=>?_) (λp u=>?_) (λt ht G p u h0=>?_) (by rw [O];exact Z) ?_)
 .intro k o ho J e he hb;exfalso
  simp only [Array.getD_eq_getD_getElem?,Array.getElem?_replicate]at J;split at J<;>cases J
 .have:=h4 p u;have C:p.2+1<=l.toArray.size:=by simpa [Nat.blt] using this
  omega
 .simpa using h5 p u
 .rcases h6 t G with C|C
  .rw [ht]at C;cases C
  .rcases C p u with h''|h''
   .exact absurd h0 h''
   .exact h''
 .have:=h a U;simpa using this
theorem drN[h:Tab P tt](N:Nat->Prop)(F:Nat)(s:List (Nat×Nat))(hB:Jcr l.toArray F s=true)(k:WN N P n l.toArray Q (Je l s) al w.drew): WC P n (.region id l.toArray true) Q al w:=Qwz N F s h.mixed hB k
def YldN(N:Nat->Prop)(P:Program)(n:Nat)(al:AL)(w:World)(o:Oper)(v:Value): Prop:=∀ w',GrN N w w'->∀ a,Fr n al a->(execOp a.eval o).run P w'=.ok (.value v) w'
theorem nnil_(h:QX n Q .normal al w): WN N P n ops Q [] al w:=λa o=>h a o
theorem ny_(hy:YldN N P n al w ⟨some d,op,ty,pos,aft,none⟩ v)(hd:Nat.blt d n=true)(k:WN N P n ops Q rest ((d,v)::al) w): WN N P n ops Q ((0,⟨some d,op,ty,pos,aft,none⟩)::rest) al w:=λa u=>by
 have o:d<n:=by (have:d+1<=n:=by simpa [Nat.blt] using hd);(omega)
 exact ⟨v,.inl ⟨rfl,λw' C=>hy w' C a u⟩,k _ (u.put o v)⟩
theorem np_{tt:TT}(hT:TOk P tt)(hv:pv tt (ev al) op=some v)(hd:Nat.blt d n=true)(k:WN N P n ops Q rest ((d,v)::al) w): WN N P n ops Q ((0,⟨some d,op,ty,pos,aft,none⟩)::rest) al w :=
 ny_ (λw' _ a C=>Gs w' hT (λx u o=>C.ev o) hv) hd k
theorem npn_{tt:TT}(hT:TOk P tt)(hv:pv tt (ev al) op=some v)(k:WN N P n ops Q rest al w): WN N P n ops Q ((0,⟨none,op,ty,pos,aft,none⟩)::rest) al w:=λa C=>
 ⟨v,.inl ⟨rfl,λw' o=>Gs w' hT (λx u o=>C.ev o) hv⟩,k _ C⟩
theorem Qgr{kd:Nat}(hj:Zr ops j=some s)(hs:lk al s=some (.bool b))(k:WN N P n ops Q ((kd,⟨dst,op,ty,pos,aft,none⟩)::rest) al w):
  WN N P n ops Q ((kd,⟨dst,op,ty,pos,aft,some (j,b)⟩)::rest) al w:=λa G=>by
 have h:=k a G;have J:=Jjw (ops:=ops) G hj hs;have C:Region.wanted (⟨dst,op,ty,pos,aft,none⟩:Oper) (yielded ops a.tmps)=true:=rfl;have u:Region.wanted (⟨dst,op,ty,pos,aft,some (j,b)⟩:Oper) (yielded ops a.tmps)=true:=by simp [Region.wanted,J]
 unfold Xs Uk at h ⊢;match kd,h with
 | 0,h=>
  obtain ⟨v,o,O⟩:=h;refine ⟨v,?_,O⟩;rcases o with o|o
  .exact .inl ⟨u,o.2⟩
  .exact absurd o.1 (by rw [C];simp)
 | 1,h=>simp only [C,if_true]at h;simp only [u,if_true];exact h
 | k+2,h=>simp only [C,if_true]at h;simp only [u,if_true];exact h
theorem Qgm{kd:Nat}(hj:Zr ops j=some s)(hs:lk al s=some (.bool b))(hne:(b == c)=false)(hd:Nat.blt d n=true)(k:WN N P n ops Q rest ((d,undef)::al) w):
  WN N P n ops Q ((kd,⟨some d,op,ty,pos,aft,some (j,c)⟩)::rest) al w:=λa G=>by
 have o:d<n:=by (have:d+1<=n:=by simpa [Nat.blt] using hd);(omega)
 have J:=Jjw (ops:=ops) G hj hs;have C:Region.wanted (⟨some d,op,ty,pos,aft,some (j,c)⟩:Oper) (yielded ops a.tmps)=false:=by
  simp [Region.wanted,J];simpa using hne
 have u:=k _ (G.put o undef);unfold Xs Uk;match kd with
 | 0=>exact ⟨undef,.inr ⟨C,rfl⟩,u⟩
 | 1=>simp only [C];exact u
 | m+2=>simp only [C];exact u
theorem ν9{kd:Nat}(k:WN N P n ops Q drest ((d,undef)::al) w)(hj:Zr ops j=some s:=by rfl)(hs:lk al s=some undef:=by rfl)(hd:Nat.blt d n=true:=by rfl):
  WN N P n ops Q ((kd,⟨some d,op,ty,pos,aft,some (j,c)⟩)::drest) al w:=λa G=>by
 have o:d<n:=by (have:d+1<=n:=by simpa [Nat.blt] using hd);(omega)
 have J:=Jbn (ops:=ops) G hj hs;have C:Region.wanted (⟨some d,op,ty,pos,aft,some (j,c)⟩:Oper) (yielded ops a.tmps)=false:=by simp [Region.wanted,J]
 have u:=k _ (G.put o undef);unfold Xs Uk;match kd with
 | 0=>exact ⟨undef,.inr ⟨C,rfl⟩,u⟩
 | 1=>simp only [C];exact u
 | m+2=>simp only [C];exact u
theorem ν4[h:Tab P tt](k:WN N P n ops Q drest ((d,v)::al) w)(hv:pv tt (ev al) op=some v:=by rfl)(hd:Nat.blt d n=true:=by rfl): WN N P n ops Q ((0,⟨some d,op,ty,pos,aft,none⟩)::drest) al w:=np_ h.ok hv hd k
theorem ν5(h:QX n Q .normal al w): WN N P n ops Q [] al w:=nnil_ h
theorem ν6{kd:Nat}(k:WN N P n ops Q ((kd,⟨dst,op,ty,pos,aft,none⟩)::drest) al w)(hj:Zr ops j=some s:=by rfl)(hs:lk al s=some (.bool b):=by rfl): WN N P n ops Q ((kd,⟨dst,op,ty,pos,aft,some (j,b)⟩)::drest) al w:=Qgr hj hs k
theorem ν7{kd:Nat}(k:WN N P n ops Q drest ((d,undef)::al) w)(hj:Zr ops j=some s:=by rfl)(hs:lk al s=some (.bool b):=by rfl)(hne:(b == c)=false:=by rfl)(hd:Nat.blt d n=true:=by rfl):
  WN N P n ops Q ((kd,⟨some d,op,ty,pos,aft,some (j,c)⟩)::drest) al w:=Qgm hj hs hne hd k
theorem ν8[h:Tab P tt](k:WN N P n ops Q drest al w)(hv:pv tt (ev al) op=some v:=by rfl): WN N P n ops Q ((0,⟨none,op,ty,pos,aft,none⟩)::drest) al w:=npn_ h.ok hv k
theorem nadd_{t:TypeId}{b:Int}(hx:ev al x=some (.int .i64 a))(hy:ev al y=some (.int .i64 b))(hc:-9223372036854775808<=a+b/\a+b<=9223372036854775807)(hd:Nat.blt d n=true)(k:WN N P n ops Q rest ((d,.int .i64 (a+b))::al) w): WN N P n ops Q ((0,⟨some d,.binOp .add t x y yt,ty,pos,aft,none⟩)::rest) al w:=by
 have e:IntKind.i64.wrap (a+b)=a+b:=by rw [IntKind.wrap_i64];omega
 exact np_ (tt:=[]) trivial (v:=.int .i64 (a+b)) (by simp only [pv,hx,hy,bop,if_true,e]) hd k
theorem nsub_{t:TypeId}{b:Int}(hx:ev al x=some (.int .i64 a))(hy:ev al y=some (.int .i64 b))(hc:-9223372036854775808<=a-b/\a-b<=9223372036854775807)(hd:Nat.blt d n=true)(k:WN N P n ops Q rest ((d,.int .i64 (a-b))::al) w): WN N P n ops Q ((0,⟨some d,.binOp .sub t x y yt,ty,pos,aft,none⟩)::rest) al w:=by
 have e:IntKind.i64.wrap (a-b)=a-b:=by rw [IntKind.wrap_i64];omega
 exact np_ (tt:=[]) trivial (v:=.int .i64 (a-b)) (by simp only [pv,hx,hy,bop,if_true,e]) hd k
theorem ν1{t:TypeId}{b:Int}(k:WN N P n ops Q drest ((d,.int .i64 (a+b))::al) w)(hx:ev al x=some (.int .i64 a):=by rfl)(hy:ev al y=some (.int .i64 b):=by rfl)(hd:Nat.blt d n=true:=by rfl)(hc:-9223372036854775808<=a+b/\a+b<=9223372036854775807:=by omega):
  WN N P n ops Q ((0,⟨some d,.binOp .add t x y yt,ty,pos,aft,none⟩)::drest) al w:=nadd_ hx hy hc hd k
theorem ν2{t:TypeId}{b:Int}(k:WN N P n ops Q drest ((d,.int .i64 (a-b))::al) w)(hx:ev al x=some (.int .i64 a):=by rfl)(hy:ev al y=some (.int .i64 b):=by rfl)(hd:Nat.blt d n=true:=by rfl)(hc:-9223372036854775808<=a-b/\a-b<=9223372036854775807:=by omega):
  WN N P n ops Q ((0,⟨some d,.binOp .sub t x y yt,ty,pos,aft,none⟩)::drest) al w:=nsub_ hx hy hc hd k
theorem nload(hT:TOk P tt)(ht:tk tt t=some k)(hk:Vn k.desc=true)(hx:ev al x=some (.pointer (some p)))(hc:∀ w',GrN N w w'->w'.cell? p=some v)(hd:Nat.blt d n=true)(kk:WN N P n ops Q rest ((d,v)::al) w): WN N P n ops Q ((0,⟨some d,.load t x,ty,pos,aft,none⟩)::rest) al w :=
 ny_ (λw' o a u=>by simp [execOp,u.ev hx,Instr.loadAt,Instr.sureAddr,Jpf (w:=w') hT ht hk (hc w' o)]) hd kk
theorem Qgp(hT:TOk P tt)(ht:tk tt t=some k)(hk:k.desc=.invalid)(hl:k.size=cs.length)(hx:ev al x=some (.pointer (some p)))(hc:∀ w',GrN N w w'->∀ j u,cs[j]?=some u->w'.cell? (p.add j)=some u)(hd:Nat.blt d n=true)(kk:WN N P n ops Q rest ((d,.agg cs.toArray)::al) w): WN N P n ops Q ((0,⟨some d,.load t x,ty,pos,aft,none⟩)::rest) al w :=
 ny_ (λw' o a C=>by simp [execOp,C.ev hx,Instr.loadAt,Instr.sureAddr,Ip (w:=w') hT ht hk hl (hc w' o)]) hd kk
theorem Jsg(hT:TOk P tt){sz:Nat}{c:Nat}(q:Nat)(j:Nat)(ht:tk tt t=some k)(hk:k.desc=.slice e)(hz:k.esz=sz)(hx:ev al x=some (.slice A m c))(hi:ev al i=some (.int kd z))(hr:Rd w sz A m cs)(hj:z=(j:Int))(hlt:j<m)(h0:0<sz)(hq:j*sz=q)(hd:Nat.blt d n=true)(kk:WN N P n ops Q rest ((d,.pointer (some (adr A q)))::al) w): WN N P n ops Q ((0,⟨some d,.indexAddr t x i,ty,pos,aft,none⟩)::rest) al w:=by
 obtain ⟨u,C⟩:=Kl hT ht hk hz;obtain ⟨O,rfl,J⟩:=hr.isome om h0;subst hj;subst hq;refine ny_ (λw' G a o=>?_) hd kk;simp [execOp,o.ev hx,o.ev hi,Instr.indexAt,asIntOf,run_underlying u,Vk w' C,adr];intro h;omega
theorem Qgq(hT:TOk P tt){c:Nat}(j:Nat)(ht:tk tt t=some k)(hk:k.desc=.slice e)(hz:k.esz=1)(hx:ev al x=some (.slice A m c))(hi:ev al i=some (.int kd z))(hr:Rd w 1 A m cs)(hj:z=(j:Int))(hlt:j<m)(hd:Nat.blt d n=true)(kk:WN N P n ops Q rest ((d,.pointer (some (adr A j)))::al) w): WN N P n ops Q ((0,⟨some d,.indexAddr t x i,ty,pos,aft,none⟩)::rest) al w :=
 Jsg hT j j ht hk hz hx hi hr hj hlt om om hd kk
theorem nld[h:Tab P tt](hc:∀ w',GrN N w w'->w'.cell? p=some v)(kk:WN N P n ops Q drest ((d,v)::al) w)(ht:tk tt t=some k:=by rfl)(hk:Vn k.desc=true:=by rfl)(hx:ev al x=some (.pointer (some p)):=by rfl)(hd:Nat.blt d n=true:=by rfl): WN N P n ops Q ((0,⟨some d,.load t x,ty,pos,aft,none⟩)::drest) al w:=nload h.ok ht hk hx hc hd kk
theorem Xw[h:Tab P tt](hc:∀ w',GrN N w w'->∀ j u,cs[j]?=some u->w'.cell? (p.add j)=some u)(kk:WN N P n ops Q drest ((d,.agg cs.toArray)::al) w)(ht:tk tt t=some k:=by rfl)(hk:k.desc=.invalid:=by rfl)(hl:k.size=cs.length:=by rfl)(hx:ev al x=some (.pointer (some p)):=by rfl)(hd:Nat.blt d n=true:=by rfl): WN N P n ops Q ((0,⟨some d,.load t x,ty,pos,aft,none⟩)::drest) al w:=Qgp h.ok ht hk hl hx hc hd kk
theorem nix[h:Tab P tt]{c:Nat}(j:Nat)(hr:Rd w 1 A m cs)(hlt:j<m)(kk:WN N P n ops Q drest ((d,.pointer (some (adr A j)))::al) w)(ht:tk tt t=some k:=by rfl)(hk:k.desc=.slice e:=by rfl)(hz:k.esz=1:=by rfl)(hx:ev al x=some (.slice A m c):=by rfl)(hi:ev al i=some (.int kd z):=by rfl)(hj:z=(j:Int):=by first|rfl|omega)(hd:Nat.blt d n=true:=by rfl):
  WN N P n ops Q ((0,⟨some d,.indexAddr t x i,ty,pos,aft,none⟩)::drest) al w:=Qgq h.ok j ht hk hz hx hi hr hj hlt hd kk
theorem Vr[h:Tab P tt]{c:Nat}(sz j:Nat)(hr:Rd w sz A m cs)(hlt:j<m)(kk:WN N P n ops Q drest ((d,.pointer (some (adr A (j*sz))))::al) w)(ht:tk tt t=some k:=by rfl)(hk:k.desc=.slice e:=by rfl)(hz:k.esz=sz:=by rfl)(hx:ev al x=some (.slice A m c):=by rfl)(hi:ev al i=some (.int kd z):=by rfl)(hj:z=(j:Int):=by first|rfl|omega)(h0:0<sz:=by omega)(hd:Nat.blt d n=true:=by rfl):
  WN N P n ops Q ((0,⟨some d,.indexAddr t x i,ty,pos,aft,none⟩)::drest) al w:=Jsg h.ok (j*sz) j ht hk hz hx hi hr hj hlt h0 rfl hd kk
def toN(N:Nat->Prop)(P:Program)(ops:Array Oper)(Q:Exit->Act->World->Prop)(w0:World)(rest:List (Nat×Oper)): Exit->Act->World->Prop
 | .normal,a,w=>GrN N w0 w/\Xs N P ops Q rest a w
 | _,_,_=>False
theorem Js{w0:World}(hx:GrN N w0 w)(h:WN N P n ops Q drest al w): QX n (toN N P ops Q w0 drest) .normal al w:=λa o=>⟨hx,h a o⟩
theorem nop(h:WL P n ops (toN N P ops Q w drest) [o] al w): WN N P n ops Q ((1,o)::drest) al w:=λa J=>by
 have u:=h a J;unfold wpList at u;unfold Xs Uk;simp only;have C:¬ LetsOut (toN N P ops Q w drest):=by rintro ⟨a,w,h⟩;exact h
 split
 .rename_i hw;simp only [hw,if_true]at u;rcases u with u|⟨_,u⟩
  .refine Oper.wp_mono (K:=wpList P ops (toN N P ops Q w drest) []) (λU w' O=>O) ?_;unfold Oper.wp at u ⊢;exact Yc (Q:=toN N P ops Q w drest) (λc a w G=>G.elim) (λG=>absurd G C) u
  .exact absurd u C
 .rename_i hw;simp only [hw]at u;exact u.2
def toT(N:Nat->Prop)(P:Program)(ops:Array Oper)(Q:Exit->Act->World->Prop)(rest:List (Nat×Oper)): Exit->Act->World->Prop
 | .normal,a,w=>Xs N P ops Q rest a w
 | _,_,_=>False
theorem Gw(h:WN N P n ops Q drest al w): QX n (toT N P ops Q drest) .normal al w:=h
theorem Xd(h:WL P n ops (toT N P ops Q drest) [o] al w): WN N P n ops Q ((2,o)::drest) al w:=λa J=>by
 have u:=h a J;unfold wpList at u;unfold Xs Uk;simp only;have C:¬ LetsOut (toT N P ops Q drest):=by rintro ⟨a,w,h⟩;exact h
 split
 .rename_i hw;simp only [hw,if_true]at u;rcases u with u|⟨_,u⟩
  .refine Oper.wp_mono (K:=Xs N P ops Q drest) (λU w' O=>O) ?_;unfold Oper.wp at u ⊢;exact Yc (Q:=toT N P ops Q drest) (λc a w G=>G.elim) (λG=>absurd G C) u
  .exact absurd u C
 .rename_i hw;simp only [hw]at u;exact u
theorem Jm(hc:w.cell? p=some v)(hn:¬ N p.block): ∀ w',GrN N w w'->w'.cell? p=some v:=λw' o=>by
 rw [<-hc];exact World.cell?_of_block (o.block _ (World.block_lt_of_cell? w p hc) hn)
end
end Go.Wk
namespace Go.Wk
theorem ρn{p q:Prop}(h:p)(t:Hold p->q:=by intro h;(repeat first|refine ν1 ?_|refine ν2 ?_|refine ν4 ?_|refine ν5 ?_|refine ν6 ?_|refine ν7 ?_|refine ν9 ?_|refine ν8 ?_|refine χ1 ?_|refine χ2 ?_|refine χ3 ?_|refine χ4 ?_|refine χ5 ?_|refine χ6 ?_|refine χ7 ?_);exact h.of): q:=t ⟨h⟩
end Go.Wk
namespace Go.Proofs.YtebcagekopgdhaaGreatDoor
open Go.RowKit Pl Go.Wk
attribute [local irreducible] WC WL QX WD WDB WP
variable {cs xs xs':List Value}{base c d g k l s t:Nat}{fs fs':Nat->List Nat}{M:Nat->Prop}{vs vs':Nat->Row}{fv vv:Nat->Value}{A:Option Addr}{a b x:Row}{v' v4 va vb vx:Value}{w w4:World}
structure TriB(w:World)(base:Nat)(A:Option Addr)(d:Nat)(vv fv:Nat->Value)(vs:Nat->Row)(fs:Nat->List Nat): Prop where
 lev:w.ownsRow base 297 2 (.slice A d d) d (Zd d vv fv)
 vals:Fam w base 47 3 d vv (λl=>(vs l).length) (λl=>Jd (vs l))
 fst:Fam w base 3 1 d fv (λl=>(fs l).length) (λl=>Jt (nz (fs l)))
section
variable {w w':World} {base:Nat} {A:Option Addr} {d:Nat} {vv fv:Nat->Value} {vs:Nat->Row} {fs:Nat->List Nat}
theorem TriB.ext(h:TriB w base A d vv fv vs fs)(hx:Ext w w'): TriB w' base A d vv fv vs fs:=⟨Jk h.lev hx,h.vals.ext hx,h.fst.ext hx⟩
theorem TriB.vform(h:TriB w base A d vv fv vs fs)(hl:l<d): ∃ B c,vv l=.slice B (vs l).length c/\(vs l).length<=c/\Rd w 3 B (vs l).length (Jd (vs l)):=by
 obtain ⟨B,c,e,o,_⟩:=Jv (h.vals.own l hl);refine ⟨B,c,e,o,?_⟩;have:=h.vals.own l hl;rw [e]at this;exact Rd.own this
theorem TriB.fform(h:TriB w base A d vv fv vs fs)(hl:l<d): ∃ B c,fv l=.slice B (fs l).length c/\(fs l).length<=c/\Rd w 1 B (fs l).length (Jt (nz (fs l))):=by
 obtain ⟨B,c,e,o,_⟩:=Jv (h.fst.own l hl);refine ⟨B,c,e,o,?_⟩;have:=h.fst.own l hl;rw [e]at this;exact Rd.own this
theorem TriB.rd(h:TriB w base A d vv fv vs fs): Rd w 2 A d (Zd d vv fv):=Rd.own h.lev
theorem TriB.v(h:TriB w base A d vv fv vs fs)(hl:l<d): w.cell? (adr A (l*2))=some (vv l):=h.rd.cell (Kk d vv fv hl).1
theorem TriB.v0(h:TriB w base A d vv fv vs fs)(hl:l<d): w.cell? ((adr A (l*2)).add 0)=some (vv l):=by rw [add_zero];exact h.v hl
theorem TriB.f1(h:TriB w base A d vv fv vs fs)(hl:l<d): w.cell? ((adr A (l*2)).add 1)=some (fv l):=by rw [Xg];exact h.rd.cell (Kk d vv fv hl).2
end
theorem Jcb{li:Int}(hR:Rd w 2 A d (Zd d vv fv))(hv:∀ l,l<d->∃ B c,vv l=.slice B (vs l).length c)(hli:li=(l:Int))(hd:d<=32):
  Ret Tryz.prog 215 [.agg #[.slice A d c],.int .i64 li] w λu w'=>u=.int .i64 (if l<d then (vs l).length else 0:Nat)/\Ext w w':=by
 subst hli;refine Jz Tryz.func215 Tryz.ntmps215 rfl kr rfl ?_;refine ρ ?_;refine bx ?_;intro O b o Z J;refine ρ ?_;refine ld (J.at (i:=0) rfl) ?_;refine ρ ?_;refine ci (λh=>?_) (λh=>?_)
 .refine ρ ?_;refine Jj ⟨?_,o⟩;rw [if_neg (by have:=oT h;omega)];rfl
 have G:l<d:=by have:=oF h;omega
 have C:=hR.ext o;obtain ⟨B,c',e⟩:=hv l G;refine ρ ?_;refine ld (J.at (i:=0) rfl) ?_;refine ρ ?_;refine ixq 2 l C G ?_;have U:O.cell? ((adr A (l*2)).add 0)=some (vv l):=by rw [add_zero];exact C.cell (Kk d vv fv G).1
 refine ρ ?_;refine ld U ?_;rw [e];refine ρ ?_;refine Jj ⟨?_,o⟩;rw [if_pos G]
theorem Qvz(ha:RowV w va a)(hb:RowV w vb b)(hlen:a=[]∨a.length=b.length): Ret Tryz.prog 214 [va,vb] w λu w'=>u=.int .i64 (shr a b:Int)/\Ext w w':=by
 obtain ⟨A,ac,rfl,a8,a7,a2⟩:=ha;obtain ⟨B,bc,rfl,a6,a5,a1⟩:=hb;refine Jz Tryz.func214 Tryz.ntmps214 rfl kr rfl ?_;refine ρ ?_;refine Qd (fun (k:Nat)=>[(0,.slice A a.length ac),(1,.slice B b.length bc),(5,.int .i64 (k:Int))]) (λk w'=>Ext w w'/\k<=a.length/\k<=b.length/\shr a b=k+shr (a.drop k) (b.drop k)) (λk=>a.length-k) 0 sB ⟨Ext.refl w,Nat.zero_le _,Nat.zero_le _,by simp⟩ ?_;rintro k w1 ⟨hx,a4,a3,he⟩;refine ρ ?_;refine Xa (fun (t:Bool)=>[(0,.slice A a.length ac),(1,.slice B b.length bc),(5,.int .i64 (k:Int)),(21,.bool t)]) (λt w'=>Ext w w'/\(t=true->k<a.length/\k<b.length/\a.getD k V0=b.getD k V0)/\(t=false->shr (a.drop k) (b.drop k)=0)) ?_ ?_
 .refine dr [(0,0),(0,1),(0,2),(0,3),(0,4),(0,5),(0,6),(0,7),(0,8),(0,9),(0,10),(0,11),(0,12),(1,13),(0,14),(0,15)] kr ?_;have G:=hx.drew;have U:RdR _ A a:=Rd.ext a2 G;have O:RdR _ B b:=Rd.ext a1 G;refine ρd ?_;refine dki 10 (λh=>?_) (λh=>?_)
  .have C:k<a.length:=by have:=oT h;omega
   have J:k<b.length:=by
    rcases hlen with h'|h'
    .rw [h']at C;simp at C
    .omega
   refine ρd ?_;refine Kw 3 k U C ?_;refine ρd ?_;refine Qz (λj u Z=>RdR.cell U C Z) ?_;refine ρd ?_;refine Kw 3 k O J ?_;refine ρd ?_;refine Qz (λj u Z=>RdR.cell O J Z) ?_;refine ρd ?_;refine dcl (Jqd (a.getD k V0) (b.getD k V0) _) ?_;rintro x w2 ⟨rfl,o⟩;refine ⟨o,?_⟩;refine ρd ?_;refine ρ ?_;refine Jb _ sB ⟨G.trans o,λh=>⟨C,J,cmp_V.zero _ _ (Xl h)⟩,λh=>?_⟩;rw [List.drop_eq_getElem_cons C,List.drop_eq_getElem_cons J,shr,if_neg];intro e;have:=Xm h;rw [Jp V0 a C,Jp V0 b J,e,Zh]at this;exact this rfl
  .refine ρd ?_;refine ρ ?_;refine Jb false sB ⟨G,λe=>(by cases e),λ_=>?_⟩;rw [List.drop_of_length_le (by have:=oF h;omega),Jck]
 rintro t w2 ⟨o,h1,h2⟩;refine ci (λh=>?_) (λh=>?_)
 .obtain ⟨C,J,e⟩:=h1 h;refine ρ ?_;refine Qw (k+1) sO ⟨o,om,om,?_⟩ om;rw [he,List.drop_eq_getElem_cons C,List.drop_eq_getElem_cons J,shr,if_pos (by rw [<-Jp V0 a C,<-Jp V0 b J];exact e)];omega
 .refine ρ ?_;refine Jj ⟨?_,o⟩;rw [he,h2 h];rfl
def Vy(A:Option Addr)(d:Nat)(vv fv:Nat->Value)(k:Nat): Prop:=(Value.slice A d d).ownBlock=some k∨∃ l,l<d/\((vv l).ownBlock=some k∨(fv l).ownBlock=some k)
theorem Jqt{e sz m base' e' sz' m':Nat}{v:Value}(h:w.ownsRow base e sz v m xs)(h':w.ownsRow base' e' sz' v' m' xs')(hne:Nat.beq e e'=false)(hg:v.ownBlock=some g): v'.ownBlock≠some g:=by
 have o:e≠e':=by intro C;subst C;simp at hne
 intro u;rcases h.2 with ⟨rfl,_⟩|⟨g1,cap,cur,rfl,_,hh,_⟩
 .simp [Value.ownBlock]at hg
 .rcases h'.2 with ⟨rfl,_⟩|⟨g2,cap',cur',rfl,_,hh',_⟩
  .simp [Value.ownBlock]at u
  .have J:g1=g:=by simpa [Value.ownBlock] using hg
   have G:g2=g:=by simpa [Value.ownBlock] using u
   subst J;subst G;rw [hh]at hh';injection hh' with hh'
   injection hh' with _ ht
   exact o ht
theorem TriB.box(h:TriB w base A d vv fv vs fs){b:Nat}(hB:Blk w b t cs)(h1:Nat.beq 297 t=false)(h2:Nat.beq 47 t=false)(h3:Nat.beq 3 t=false): ¬ Vy A d vv fv b:=by
 rintro (e|⟨l,o,e|e⟩)
 .exact hB.ne_own h.lev h1 e.symm
 .exact hB.ne_own (h.vals.own l o) h2 e.symm
 .exact hB.ne_own (h.fst.own l o) h3 e.symm
theorem TriB.congr(h:TriB w base A d vv fv vs fs)(h1:∀ l,l<d->vs' l=vs l)(h2:∀ l,l<d->fs' l=fs l): TriB w base A d vv fv vs' fs' :=
 ⟨h.lev,⟨λi hi=>by rw [h1 i hi];exact h.vals.own i hi,h.vals.dis⟩,⟨λi hi=>by rw [h2 i hi];exact h.fst.own i hi,h.fst.dis⟩⟩
theorem Qbv{p:Addr}(u:Value): w.grownBy (w.setCell p u) (some p.block):=⟨rfl,rfl,rfl,by simp [World.setCell],λk o hn=>Below.heap_setCell w p u k (λe=>hn (by rw [e]))⟩
theorem TriB.setV{vv fv : Nat → Value}{vs : Nat → Row}{fs : Nat → List Nat}{r : Row}(H : TriB w base A d vv fv vs fs)(lk : k < d)(ho : w4.ownsRow base 47 3 v4 r.length (Jd r))(hg : w.grownBy w4 (vv k).ownBlock)(hn : ∀ g, v4.ownBlock = some g → (vv k).ownBlock = some g ∨ w.heap.size ≤ g): w4.cell? ((adr A (k * 2)).add 0) = some (vv k) ∧ w4.frozen? ((adr A (k * 2)).add 0) = false ∧ v4.oneCell' = true ∧ TriB (w4.setCell ((adr A (k * 2)).add 0) v4) base A d (upd vv k v4) fv (upd vs k r) fs ∧
      w4.grownBy (w4.setCell ((adr A (k * 2)).add 0) v4) (Value.slice A d d).ownBlock := by
  have F4 := H.vals.upd lk ho hg hn
  have L4 := Zj H.lev (H.vals.own k lk) hg rfl
  have f4 := H.fst.other (H.vals.own k lk) hg rfl
  obtain ⟨s1, s2, s3, s4, s5⟩ := Zv L4 (q := k * 2) om v4
  rw [add_zero]
  have h1 : v4.oneCell' = true := by obtain ⟨B, c, e, _⟩ := Jv ho; rw [e]; rfl
  refine ⟨s1.trans (Kk d vv fv lk).1, s2, h1, ⟨?_, ?_, ?_⟩, s5⟩
  . rw [Qjl d vv fv lk] at s3; exact s3
  . have F5 := F4.other L4 s5 rfl
    refine ⟨fun i hi => ?_, F5.dis⟩
    have := F5.own i hi
    by_cases e : i = k
    . subst e; rw [Jg, Jg, Jg] at this; simp only [Jg]; exact this
    . rw [Jy _ _ e, Jy _ _ e, Jy _ _ e] at this; simp only [Jy _ _ e]; exact this
  . exact f4.other L4 s5 rfl
theorem TriB.setF{vv fv : Nat → Value}{vs : Nat → Row}{fs : Nat → List Nat}{r : List Nat}(H : TriB w base A d vv fv vs fs)(lk : k < d)(ho : w4.ownsRow base 3 1 v4 r.length (Jt (nz r)))(hg : w.grownBy w4 (fv k).ownBlock)(hn : ∀ g, v4.ownBlock = some g → (fv k).ownBlock = some g ∨ w.heap.size ≤ g): w4.cell? ((adr A (k * 2)).add 1) = some (fv k) ∧ w4.frozen? ((adr A (k * 2)).add 1) = false ∧ v4.oneCell' = true ∧ TriB (w4.setCell ((adr A (k * 2)).add 1) v4) base A d vv (upd fv k v4) vs (upd fs k r) ∧
      w4.grownBy (w4.setCell ((adr A (k * 2)).add 1) v4) (Value.slice A d d).ownBlock := by
  have F4 := H.fst.upd lk ho hg hn
  have L4 := Zj H.lev (H.fst.own k lk) hg rfl
  have f4 := H.vals.other (H.fst.own k lk) hg rfl
  obtain ⟨s1, s2, s3, s4, s5⟩ := Zv L4 (q := k * 2 + 1) om v4
  rw [Xg]
  have h1 : v4.oneCell' = true := by obtain ⟨B, c, e, _⟩ := Jv ho; rw [e]; rfl
  refine ⟨s1.trans (Kk d vv fv lk).2, s2, h1, ⟨?_, ?_, ?_⟩, s5⟩
  . rw [Qjk d vv fv lk] at s3; exact s3
  . exact f4.other L4 s5 rfl
  . have F5 := F4.other L4 s5 rfl
    refine ⟨fun i hi => ?_, F5.dis⟩
    have := F5.own i hi
    by_cases e : i = k
    . subst e; rw [Jg, Jg, Jg] at this; simp only [Jg]; exact this
    . rw [Jy _ _ e, Jy _ _ e, Jy _ _ e] at this; simp only [Jy _ _ e]; exact this
theorem Qgb(h:∀ j,Vy A d vv fv j->M j)(lk:k<d)(hn:∀ g,v4.ownBlock=some g->M g): ∀ j,Vy A d (upd vv k v4) fv j->M j:=by
 rintro j (e|⟨l,o,e|e⟩)
 .exact h j (.inl e)
 .by_cases el:l=k
  .subst el;rw [Jg]at e;exact hn j e
  .rw [Jy _ _ el]at e;exact h j (.inr ⟨l,o,.inl e⟩)
 .exact h j (.inr ⟨l,o,.inr e⟩)
theorem Jrx(h:∀ j,Vy A d vv fv j->M j)(lk:k<d)(hn:∀ g,v4.ownBlock=some g->M g): ∀ j,Vy A d vv (upd fv k v4) j->M j:=by
 rintro j (e|⟨l,o,e|e⟩)
 .exact h j (.inl e)
 .exact h j (.inr ⟨l,o,.inl e⟩)
 .by_cases el:l=k
  .subst el;rw [Jg]at e;exact hn j e
  .rw [Jy _ _ el]at e;exact h j (.inr ⟨l,o,.inr e⟩)
theorem Qsm(v:V)(w:World): (Instr.buildSlice 36 1 #[(0,v.val)]).run Tryz.prog w=.ok (.slice (some ⟨w.heap.size,0,none⟩) 1 1) (w.alloc (.cells v.cells.toArray 47)):=kr
theorem EVs: ElT Tryz.prog 36 47 3 32 (.agg #[.int .i64 0,.int .i64 0,.string ⟨#[]⟩]):=⟨Tryz.underlying36,info_parts kr,rfl,by decide⟩
theorem bs1Int'(z:Int)(w:World): (Instr.buildSlice 44 1 #[(0,.int .i64 z)]).run Tryz.prog w=.ok (.slice (some ⟨w.heap.size,0,none⟩) 1 1) (w.alloc (.cells [.int .i64 z].toArray 3)):=kr
theorem rowC_one'(v:V): Jd [v]=v.cells:=by simp [Jd]
theorem Qyd(H:TriB w base A d vv fv vs fs)(hx:Off (Vy A d vv fv) w (λu=>RowV u vx x))(hlen:x.length=d)(hd:d<=32)(hs:s<=d)(hbase:base<=w.heap.size)(hsm:∀ l,l<d->(vs l).length<=1000000/\(fs l).length<=1000000):
  Ret Tryz.prog 213 [.agg #[.slice A d d],vx,.int .i64 (s:Int)] w λu w'=>∃ vv' fv',TriB w' base A d vv' fv' (λl=>if s<=l then vs l++[x.getD l V0] else vs l) (λl=>if s<=l then fs l++[if l+1<d then (vs (l+1)).length else 0] else fs l) /\
   GrN (Vy A d vv fv) w w'/\∀ j,Vy A d vv' fv' j->Vy A d vv fv j∨w.heap.size<=j:=by
 obtain ⟨X,xc,b1,bd,bc,bb⟩:=hx.here;subst b1;refine Jz Tryz.func213 Tryz.ntmps213 rfl kr rfl ?_;refine ρ ?_;refine bx ?_;intro w1 b C hb hB;obtain ⟨M,hM⟩:∃ M:Nat->Prop,M=λj=>Vy A d vv fv j∨w.heap.size<=j/\j≠b:=⟨_,rfl⟩;have ab:¬ M b:=by
  rw [hM];rintro (G|G)
  .exact (H.ext C).box hB rfl rfl rfl G
  .exact G.2 rfl
 have aj:Off M w1 (λu=>RowV u (.slice X x.length xc) x):=λu hg=>hx u ⟨hg.os.trans C.os,hg.tape.trans C.tape,hg.output.trans C.output,Nat.le_trans C.size hg.size,λk hk hn=>(hg.block k (nM hk C.size) (λe=>by rw [hM]at e;rcases e with e|e;exact hn e;omega)).trans (C.block k hk)⟩;refine ρ ?_;refine Xt (fun (k:Nat) (vv' fv':Nat->Value)=>[(1,.slice X x.length xc),(3,.pointer (some ⟨b,0,none⟩)),(6,.int .i64 (k:Int))])
  (λk vv' fv' w'=>s<=k/\k<=d/\TriB w' base A d vv' fv' (λl=>if s<=l/\l<k then vs l++[x.getD l V0] else vs l) (λl=>if s<=l/\l<k then fs l++[if l+1<d then (vs (l+1)).length else 0] else fs l)/\GrN M w1 w'/\∀ j,Vy A d vv' fv' j->M j) (λk _ _=>d-k) s vv fv sB
  ⟨Nat.le_refl _,hs,?_,GrN.refl _ _,λj hj=>by rw [hM];exact .inl hj⟩ ?_
 .have e1:(λl=>if s<=l/\l<s then vs l++[x.getD l V0] else vs l)=vs:=by funext l;rw [if_neg om]
  have e2:(λl=>if s<=l/\l<s then fs l++[if l+1<d then (vs (l+1)).length else 0] else fs l)=fs:=by funext l;rw [if_neg om]
  rw [e1,e2];exact H.ext C
 rintro k vv' fv' w2 ⟨bh,bg,H2,a2,a8⟩;refine ρ ?_;refine ci (λh=>?_) (λh=>?_)
 .have lk:k<d:=by have:=oT h;omega
  have lx:k<x.length:=om
  have be:=hsm k lk;clear h;obtain ⟨B,c,b2,b9,b4⟩:=H2.vform lk;obtain ⟨own,o⟩:∃ own,own=(vv' k).ownBlock:=⟨_,rfl⟩;have O:∀ j,own=some j->M j:=λj U=>a8 j (.inr ⟨k,lk,.inl (by rw [<-o];exact U)⟩);refine ρ ?_;refine Xa (fun (a6:Nat->Value)=>[(1,.slice X x.length xc),(3,.pointer (some ⟨b,0,none⟩)),(6,.int .i64 (k:Int))])
   (λa6 w5=>TriB w5 base A d a6 fv' (upd (λl=>if s<=l/\l<k then vs l++[x.getD l V0] else vs l) k (vs k++[x.getD k V0])) (λl=>if s<=l/\l<k then fs l++[if l+1<d then (vs (l+1)).length else 0] else fs l)/\GrN M w1 w5/\∀ j,Vy A d a6 fv' j->M j) ?_ ?_
  .refine drN (one own) 4 [(0,0),(0,1),(0,2),(0,3),(0,4),(0,5),(0,6),(0,7),(0,8),(0,9),(0,10),(0,11),(0,12),(1,13),(1,14),(0,15),(0,16),(2,17)] kr ?_;have a7:Ext w2 w2.drew:=(Ext.refl w2).drew;have a5:=H2.ext a7;have J:=a2.trans (GrN.ext a7);have ai:=Jc hB J ab;have ax:RdR w2.drew X x:=by
    obtain ⟨X',aw,e1,_,_,e4⟩:=aj _ J;injection e1 with e1 _ _;subst e1;exact e4
   have nb:¬ one own b:=λe=>ab (O b e);have nA:∀ ad,A=some ad->¬ one own ad.block:=λad e G=>by
    subst e;exact Jqt a5.lev (a5.vals.own k lk) rfl rfl (by rw [<-o];exact G)
   have ae:¬ one own (adr A (k*2)).block:=by
    obtain ⟨ad,e,_⟩:=a5.rd.isome om om;subst e;simp only [adr,Option.getD_some,Uo];exact nA ad rfl
   have ay:∀ w',GrN (one own) w2.drew w'->RdR w' X x:=λw' hg=>by
    obtain ⟨X',aw,e1,_,_,e4⟩:=aj _ (J.trans (hg.mono λj _ U=>O j U));injection e1 with e1 _ _;subst e1;exact e4
   refine ρn ?_;refine nld (Jm (ai.at (i:=0) rfl) nb) ?_;refine ρn ?_;refine nld (Jm (ai.at (i:=0) rfl) nb) ?_;refine ρn ?_;refine Vr 2 k a5.rd lk ?_;refine ρn ?_;refine nld (Jm (a5.v0 lk) (by rw [Uo];exact ae)) ?_;refine ρn ?_;refine Vr 3 k ax lx ?_;refine ρn ?_;refine Xw (cs:=(x.getD k V0).cells) (λw' hg j u hu=>RdR.cell (ay w' hg) lx hu) ?_;refine ρn ?_;refine nop ?_;refine bsl (Qsm (x.getD k V0)) ?_;intro w3 b3 a4 bj b6;refine ρ ?_;refine Js (GrN.ext a4) ?_;have H3:=a5.ext a4;have aq:=H3.vals.own k lk;rw [if_neg (show ¬ (s<=k/\k<k) by omega)]at aq;have bf:(vs k).length+1<=1000001:=om
   refine nop ?_;refine apb (base:=base) EVs aq (b6.rd (n:=1) rfl) (V.one _) (by unfold maxLen;omega) om (nL hbase (nL C.size (nL J.size a4.size))) ?_;intro v4 w4 ap aa av;refine ρ ?_;refine Js (GrN.by aa λj U=>by rw [<-o]at U;exact U) ?_;have er:Jd (vs k)++(x.getD k V0).cells=Jd (vs k++[x.getD k V0]):=by rw [Qcp,rowC_one']
   have el:(vs k).length+1=(vs k++[x.getD k V0]).length:=by simp
   rw [er,el]at ap;obtain ⟨c1,c2,c3,H5,af⟩:=H3.setV lk ap aa av;have bm:b<w2.drew.heap.size:=ai.lt;have L4:=Zj H3.lev (H3.vals.own k lk) aa rfl;refine ρn ?_;refine Vr 2 k (Rd.own L4) lk ?_;refine ρn ?_;refine Xd ?_;refine sto c1 c2 ?_ (hv:=c3);refine ρ ?_;have ag:∀ g,v4.ownBlock=some g->M g:=λg eg=>by
    rcases av g eg with G|G
    .exact O g (by rw [o];exact G)
    .rw [hM];exact .inr ⟨nL C.size (nL J.size (nL a4.size G)),λe=>by have:=a4.size;omega⟩
   refine Jb (upd vv' k v4) sB ⟨H5,?_,Qgb (M:=M) a8 lk ag⟩;exact ((J.trans (GrN.ext a4)).trans (GrN.by aa λj U=>O j (by rw [o];exact U))).trans (GrN.by af λj U=>a8 j (.inl U))
  clear O o b2 b9 b4 H2 a2 a8;rintro a6 w5 ⟨H5,af,ah⟩;obtain ⟨own,o⟩:∃ own,own=(fv' k).ownBlock:=⟨_,rfl⟩;have O:∀ j,own=some j->M j:=λj U=>ah j (.inr ⟨k,lk,.inr (by rw [<-o];exact U)⟩);refine drN (one own) 4 [(0,0),(0,1),(0,2),(0,3),(0,4),(0,5),(0,6),(0,7),(0,8),(0,9),(0,10),(0,11),(1,12),(1,13),(1,14),(0,15),(0,16),(2,17)] kr ?_;have a7:Ext w5 w5.drew:=(Ext.refl w5).drew;have a1:=H5.ext a7;have a3:=af.trans (GrN.ext a7);have ac:=Jc hB a3 ab;have nb:¬ one own b:=λe=>ab (O b e);have ae:¬ one own (adr A (k*2)).block:=by
   obtain ⟨ad,e,_⟩:=a1.rd.isome om om;subst e;simp only [adr,Option.getD_some,Uo];intro G;exact Jqt a1.lev (a1.fst.own k lk) rfl rfl (by rw [<-o];exact G)
  refine ρn ?_;refine nld (Jm (ac.at (i:=0) rfl) nb) ?_;refine ρn ?_;refine nld (Jm (ac.at (i:=0) rfl) nb) ?_;refine ρn ?_;refine Vr 2 k a1.rd lk ?_;refine ρn ?_;refine nld (Jm (a1.f1 lk) (by rw [Uo];exact ae)) ?_;refine ρn ?_;refine Xw (cs:=[.slice A d d]) (λw' hg j u hu=>(Jc ac hg nb).at hu) ?_;refine ρn ?_;refine nop ?_;refine cl (Jcb (l:=k+1) (li:=(k:Int)+1) a1.rd (λl hl=>by obtain ⟨B,c,e,_⟩:=a1.vform hl;exact ⟨B,c,e⟩) om hd) ?_;rintro u w6 ⟨rfl,am⟩;refine ρ ?_;refine Js (GrN.ext am) ?_;obtain ⟨nn,ar⟩:∃ nn:Nat,nn=if k+1<d then (vs (k+1)).length else 0:=⟨_,rfl⟩
  have ba:(if k+1<d then List.length (upd (λl=>if s<=l/\l<k then vs l++[x.getD l V0] else vs l) k (vs k++[x.getD k V0]) (k+1)) else 0)=nn:=by
   rw [ar,Jy _ _ om,if_neg (show ¬ (s<=k+1/\k+1<k) by omega)]
  rw [ba];refine nop ?_;refine bsl (bs1Int' (nn:Int)) ?_;intro w7 b7 ak bi b5;refine ρ ?_;refine Js (GrN.ext ak) ?_;have Z:=am.trans ak;have H7:=a1.ext Z;have ao:=H7.fst.own k lk;rw [if_neg (show ¬ (s<=k/\k<k) by omega)]at ao;refine nop ?_;refine apb (base:=base) EI ao (b5.rd (n:=1) rfl) (λu hu=>by rw [List.mem_singleton.1 hu];rfl) (by unfold maxLen;omega) om (nL hbase (nL C.size (nL a3.size Z.size))) ?_;intro v8 w8 an a9 au;refine ρ ?_;refine Js (GrN.by a9 λj U=>by rw [<-o]at U;exact U) ?_;have er:Jt (nz (fs k))++[.int .i64 (nn:Int)]=Jt (nz (fs k++[nn])):=by simp [Jt,nz]
  have el:(fs k).length+1=(fs k++[nn]).length:=by simp
  rw [er,el]at an;obtain ⟨c1,c2,c3,H9,b8⟩:=H7.setF lk an a9 au;have L8:=Zj H7.lev (H7.fst.own k lk) a9 rfl;refine ρn ?_;refine Vr 2 k (Rd.own L8) lk ?_;refine ρn ?_;refine Xd ?_;refine sto c1 c2 ?_ (hv:=c3);refine ρ ?_;have ag:∀ g,v8.ownBlock=some g->M g:=λg eg=>by
   rcases au g eg with G|G
   .exact O g (by rw [o];exact G)
   .rw [hM];exact .inr ⟨nL C.size (nL a3.size (nL Z.size G)),λe=>by have:=Z.size;have:=ac.lt;omega⟩
  refine Xj (k+1) a6 (upd fv' k v8) sO ⟨om,om,H9.congr (λl hl=>?_) (λl hl=>?_),?_,Jrx (M:=M) ah lk ag⟩ om
  .by_cases e:l=k
   .subst e;rw [Jg,if_pos om]
   .rw [Jy _ _ e];by_cases e2:s<=l/\l<k
    .rw [if_pos e2,if_pos om]
    .rw [if_neg e2,if_neg om]
  .by_cases e:l=k
   .subst e;rw [Jg,if_pos om,ar]
   .rw [Jy _ _ e];by_cases e2:s<=l/\l<k
    .rw [if_pos e2,if_pos om]
    .rw [if_neg e2,if_neg om]
  .exact ((a3.trans (GrN.ext Z)).trans (GrN.by a9 λj U=>O j (by rw [o];exact U))).trans (GrN.by b8 λj U=>ah j (.inl U))
 .have ek:k=d:=by have:=oF h;omega
  subst ek;refine ρ ?_;refine Gb ⟨vv',fv',H2.congr (λl hl=>?_) (λl hl=>?_),?_,λj hj=>?_⟩
  .by_cases e:s<=l
   .rw [if_pos e,if_pos ⟨e,hl⟩]
   .rw [if_neg e,if_neg (λG=>e G.1)]
  .by_cases e:s<=l
   .rw [if_pos e,if_pos (show s<=l/\l<k from ⟨e,hl⟩)]
   .rw [if_neg e,if_neg (λG=>e G.1)]
  .exact ⟨a2.os.trans C.os,a2.tape.trans C.tape,a2.output.trans C.output,Nat.le_trans C.size a2.size,λj hj hn=>(a2.block j (nM hj C.size) (λe=>by rw [hM]at e;rcases e with e|e;exact hn e;omega)).trans (C.block j hj)⟩
  .have:=a8 j hj;rw [hM]at this;exact this.imp id λG=>G.1
open Go.RowKit Pl Go.Wk
attribute [local irreducible] WN
variable {t:Int}{zs:List Int}{base c d n:Nat}{A:Option Addr}{w:World}
theorem Qmk(hR:Rd w 1 A n (Jt zs))(hn:zs.length=n)(hm:n<=1100000): Ret Tryz.prog 225 [.slice A n c,.int .i64 t] w λu w'=>w'=w/\∃ z,u=.int .i64 z/\(0<=z↔t∈zs):=by
 refine Jz Tryz.func225 Tryz.ntmps225 rfl kr rfl ?_;refine ρ ?_;refine Qd (fun (k:Nat)=>[(0,.slice A n c),(1,.int .i64 t),(7,.int .i64 (n:Int)),(8,.int .i64 (k:Int))]) (λk w'=>w'=w/\k<=n/\t ∉ zs.take k) (λk=>n-k) 0 sB ⟨rfl,Nat.zero_le _,by simp⟩ ?_;rintro k w' ⟨rfl,J,C⟩;refine ρ ?_;refine ci (λh=>?_) (λh=>?_)
 .have lk:k<n:=by have:=oT h;omega
  have o:k<zs.length:=om
  refine ρ ?_;refine ix k hR lk ?_;refine ρ ?_;refine ld (hR.cell (Jkh o)) ?_;refine ρ ?_;refine ci (λh=>?_) (λh=>?_)
  .refine ρ ?_;refine Jj ⟨rfl,(k:Int),rfl,⟨λ_=>?_,λ_=>om⟩⟩;rw [Xl h];exact getD_mem' 0 zs o
  .refine ρ ?_;refine Qw (k+1) sO ⟨rfl,om,?_⟩ om;rw [Qy 0 o,List.mem_append,List.mem_singleton];rintro (G|G)
   .exact C G
   .exact Xm h G
 .refine ρ ?_;refine Jj ⟨rfl,-1,rfl,⟨λe=>om,λe=>?_⟩⟩;rw [List.take_of_length_le (by have:=oF h;omega)]at C;exact absurd e C
theorem Qps(hR:Rd w 1 A n (Jt zs))(hn:zs.length=n)(hm:n<=1100000): Ret Tryz.prog 212 [.slice A n c,.int .i64 t] w λu w'=>w'=w/\∃ b:Bool,u=.bool b/\(b=true↔t∈zs):=by
 refine Jz Tryz.func212 Tryz.ntmps212 rfl kr rfl ?_;refine ρ ?_;refine cl (Qmk hR hn hm) ?_;rintro u w' ⟨rfl,z,rfl,o⟩;refine ρ ?_;exact Jj ⟨rfl,decide (0<=z),rfl,by rw [decide_eq_true_iff];exact o⟩
def TriV(w:World)(v:Value)(d:Nat)(rs:List Row): Prop:=∃ (A:Option Addr) (vv fv:Nat->Value) (fs:Nat->List Nat),v=.agg #[.slice A d d]/\Rd w 2 A d (Zd d vv fv)/\(∀ l,l<d->∃ B c,vv l=.slice B (lvl rs l).length c/\RdR w B (lvl rs l)) /\
 (∀ l,l<d->∃ B c,fv l=.slice B (fs l).length c/\Rd w 1 B (fs l).length (Jt (nz (fs l))))/\∀ l,l+1<d->Chl rs l (fs l)
theorem TriB.off{vv fv:Nat->Value}{rs:List Row}{fs:Nat->List Nat}{N:Nat->Prop}(h:TriB w base A d vv fv (lvl rs) fs)(hc:∀ l,l+1<d->Chl rs l (fs l))(hN:∀ j,Vy A d vv fv j->¬ N j): Off N w (λu=>TriV u (.agg #[.slice A d d]) d rs):=by
 intro u G;refine ⟨A,vv,fv,fs,rfl,Vv h.rd G (λ_ O e=>?_),λl o=>?_,λl o=>?_,hc⟩
 .subst e;exact hN _ (.inl rfl)
 .obtain ⟨B,c,e,_,C⟩:=h.vform o;refine ⟨B,c,e,Vv C G λ_ O J=>hN _ (.inr ⟨l,o,.inl ?_⟩)⟩;rw [e,J];rfl
 .obtain ⟨B,c,e,_,C⟩:=h.fform o;refine ⟨B,c,e,Vv C G λ_ O J=>hN _ (.inr ⟨l,o,.inr ?_⟩)⟩;rw [e,J];rfl
theorem Jbl: Qu Tryz.prog 285=some (.agg #[.slice none 0 0]):=kr
theorem Xjb(A:Option Addr)(n c:Nat)(w:World): (Instr.build 285 #[(0,.slice A n c)]).run Tryz.prog w=.ok (.agg #[.slice A n c]) w:=kr
theorem EL: ElT Tryz.prog 283 297 2 48 (.agg #[.slice none 0 0,.slice none 0 0]):=⟨Tryz.underlying283,info_parts kr,rfl,by decide⟩
theorem one1: ∀ u∈[Value.slice A n c],u.oneCell'=true:=by intro u o;rw [List.mem_singleton.1 o];rfl
theorem made2(d:Nat): (madeCells (Value.agg #[.slice none 0 0,.slice none 0 0]).cells (d*2)).toList=Zd d (λ_=>.slice none 0 0) (λ_=>.slice none 0 0):=by
 apply List.ext_getElem?
 intro k;have C:(Value.agg #[.slice none 0 0,.slice none 0 0]).cells = #[.slice none 0 0,.slice none 0 0]:=rfl;rw [C];by_cases hk:k<d*2
 .have u:=Kk d (λ_=>Value.slice none 0 0) (λ_=>Value.slice none 0 0) (l:=k / 2) om;have o:k % 2=0∨k % 2=1:=om
  rcases o with o|o
  .have e:k / 2*2=k:=om
   rw [e]at u;rw [u.1];simp only [madeCells,Array.getElem?_toList,Array.getElem?_map,Array.getElem?_range,hk,if_true,Option.map_some];have:k % (#[Value.slice none 0 0,.slice none 0 0]:Array Value).size=0:=o;rw [this];rfl
  .have e:k / 2*2+1=k:=om
   rw [e]at u;rw [u.2];simp only [madeCells,Array.getElem?_toList,Array.getElem?_map,Array.getElem?_range,hk,if_true,Option.map_some];have:k % (#[Value.slice none 0 0,.slice none 0 0]:Array Value).size=1:=o;rw [this];rfl
 .rw [List.getElem?_eq_none (by simp [madeCells];omega),List.getElem?_eq_none (by rw [Zx];omega)]
open Go.RowKit Pl Go.Wk
variable {ls rs:List Row}{d:Nat}{r x:Row}
theorem Qfc(h:r.length=d): pmR (List.range d) r=r:=by
 apply List.ext_getElem
 .simp [pmR,h]
 .intro i u o;simp [pmR,List.getD,List.getElem?_eq_getElem o]
theorem TriB.nil(w:World)(base:Nat){A:Option Addr}(hl:w.ownsRow base 297 2 (.slice A d d) d (Zd d (λ_=>.slice none 0 0) (λ_=>.slice none 0 0))): TriB w base A d (λ_=>.slice none 0 0) (λ_=>.slice none 0 0) (λ_=>[]) (λ_=>[]) :=
 ⟨hl,⟨λi hi=>Xo _ _ _ _,λi j g _ _ _ e=>by cases e⟩,⟨λi hi=>Xo _ _ _ _,λi j g _ _ _ e=>by cases e⟩⟩
theorem Jss(l:Nat): (lvl rs l).length<=rs.length:=by
 rw [Jxd];have:=Jkw (rs.map (List.take (l+1)));rw [List.length_map]at this;exact this
theorem Qbj: stp rs x<=x.length:=by
 unfold stp;split
 .exact (Jnq _ _).2
 .exact Nat.zero_le _
theorem Qyb{w:World}{v vc:Value}(hrel:RelV w v d ls)(hlt:Lt [] ls)(hlen:∀ r∈ls,r.length=d)(hc:IntsV w vc (nz (List.range d)))(hd:d<=32)(hbig:ls.length<=65536):
  Ret Tryz.prog 203 [v,vc] w λu w'=>Ext w w'/\∃ t,u=.tuple #[t,.int .i64 0]/\(∃ A,t=.agg #[.slice A d d])/\Off (λk=>k<w.heap.size) w' (λx=>TriV x t d ls):=by
 obtain ⟨C,cc,rfl,di,dh,cq⟩:=id hc;obtain ⟨rv,rfl,bp⟩:=id hrel;obtain ⟨ed,A0,c0,_,rfl,_⟩:=id bp;have ba:(nz (List.range d)).length=d:=by rw [Qq,List.length_range]
 rw [ba]at hc di dh cq ⊢;have d2:∀ {k:Nat},k<d->(List.range d).getD k 0=k:=fun {k} hk=>by simp [List.getD,hk]
 have bt:∀ {k:Nat},k<d->(Jt (nz (List.range d)))[k]?=some (.int .i64 (k:Int)):=fun {k} hk=>by
  have:=Xn (cs:=List.range d) (i:=k) (by rw [List.length_range];exact hk);rw [d2 hk]at this;exact this
 refine Jz Tryz.func203 Tryz.ntmps203 rfl kr rfl ?_;refine ρ ?_;refine bx ?_;intro w1 b1 cd eo e3;refine ρ ?_;refine alc Jbl ?_;intro w2 b2 cb dl d1;have c9:=cd.trans cb;refine ρ ?_;refine Qd (fun (k:Nat)=>[(1,.slice C d cc),(2,.pointer (some ⟨b1,0,none⟩)),(4,.pointer (some ⟨b2,0,none⟩)),(15,.slice C d cc),(16,.int .i64 (d:Int)),(17,.int .i64 (k:Int))]) (λk w'=>Ext w2 w'/\k<=d) (λk=>d-k) 0 sB ⟨Ext.refl _,Nat.zero_le _⟩ ?_;rintro k w3 ⟨ar,hk⟩;have a7:=c9.trans ar;have bj:=(e3.ext cb).ext ar;refine ρ ?_;refine ci (λh=>?_) (λh=>?_)
 .have lk:k<d:=by have:=oT h;omega
  have b3:=cq.ext a7;refine ρ ?_;refine ix k b3 lk ?_;refine ρ ?_;refine ld (b3.cell (bt lk)) ?_;refine ρ ?_;refine kf 24 ?_ ?_
  .exact dF om
  refine ρ ?_;refine ldW bj ?_;refine ρ ?_;refine cl (Jdg (hrel.ext a7)) ?_;rintro u w4 ⟨rfl,ao⟩;refine ρ ?_;refine cf ?_ ?_
  .exact dF om
  refine ρ ?_;refine slh k ?_;refine ρ ?_;have dn:Rd w4 1 C k (Jt ((nz (List.range d)).take k)):=by
   have:=(b3.ext ao).take (m:=k) om;rw [Nat.mul_one]at this;have e:Jt ((nz (List.range d)).take k)=(Jt (nz (List.range d))).take k:=by simp [Jt]
   rw [e];exact this
  refine cl (Qps (t:=(k:Int)) dn (by rw [List.length_take,ba];omega) om) ?_;rintro u w5 ⟨rfl,t,rfl,ht⟩;have de:t=false:=by
   cases t with
   | false=>rfl
   | true=>
    exfalso
    have hm:=ht.1 rfl;obtain ⟨i,hi,e⟩:=List.getElem_of_mem hm;rw [List.length_take,ba]at hi;have:((nz (List.range d)).take k)[i]'(by rw [List.length_take,ba];exact hi)=(i:Int):=by simp [nz]
    rw [this]at e;omega
  refine ρ ?_;refine cf de ?_;refine ρ ?_;exact Qw (k+1) sO ⟨ar.trans ao,om⟩ om
 clear h;have cj:ls.map (pmR (List.range d))=ls:=by
  conv=>rhs;rw [<-List.map_id ls]
  exact List.map_congr_left λr hr=>by rw [Qfc (hlen r hr)];rfl
 refine ρ ?_;refine ldW bj ?_;refine ρ ?_;refine cl (Jpp (cs:=List.range d) (hrel.ext a7) (hc.ext a7) hlen (λc hc=>List.mem_range.1 hc) (by rw [List.length_range];exact hd) hbig) ?_;rintro u w4 ⟨ao,pv,rfl,⟨pz,pB,pm,pd,rfl⟩,m,ch,eh,ef,dg⟩;have df:m=ls:=by
  have:=dg (.inr (by rw [cj];exact Gv hlt));rw [cj]at this;exact Im this.1 hlt this.2
 subst df;rw [List.length_range]at ch;have c8:=a7.trans ao;refine ρ ?_;refine alc Ux ?_;intro w5 b5 dd dk e1;refine ρ ?_;refine stb e1 ?_ (Vp (z:=pz) (A:=pB) (n:=pm) (c:=pd));intro w6 e0 em dc;have ac:Ext w4 w6:=dc w4 dd dk;have ap:=c8.trans ac;have dv:RelV w6 (.agg #[.int .i64 pz,.slice pB pm pd]) d m:=ch.here.ext ac;refine ρ ?_;refine mkn EL d om (by unfold maxLen;omega) ?_;intro w7 A db br hO;rw [made2]at br;refine ρ ?_;refine bld (Xjb A d d _) ?_;refine ρ ?_;refine alc Jbl ?_;intro w8 b8 da dj dz;refine ρ ?_;refine stb dz ?_ (one1 (A:=A) (n:=d) (c:=d));intro w9 dx ei d9;have aq:Ext w7 w9:=d9 w7 da dj;have G:=db.trans aq;have c7:=ap.trans G;have dm:=TriB.nil w9 w6.heap.size (Jk br aq);have cm:∀ j,(Value.slice A d d).ownBlock=some j->w6.heap.size<=j/\j<w7.heap.size:=by
  obtain ⟨_,_,_,_,hf⟩:=Jv br;exact hf
 refine ρ ?_;refine ldW (e0.ext G) ?_;refine ρ ?_;refine cl (Jdf (dv.ext G)) ?_;rintro u an ⟨J,b9⟩;obtain ⟨ps,R,rc,ck,rfl,e8,e7,dt,dq⟩:=b9;have ee:ps.length=m.length:=by rw [ck,List.length_map]
 generalize hn:ps.length=n at *
 have aw:∀ i,m.getD i []=(ps.getD i z0).2:=λi=>by rw [ck];exact Jxg
 have bn:=c7.trans J;obtain ⟨Ar,b7⟩:∃ Ar:Nat->Prop,Ar=λj=>j<w9.heap.size∨an.heap.size<=j:=⟨_,rfl⟩;have du:Off Ar an (λu=>Rd u 1 R n (ps.map (·.1))):=dt.mono λj hj av=>by rw [b7]at av;omega
 have bu:∀ p∈ps,Off Ar an (λu=>RowV u p.1 p.2):=λp hp=>(dq p hp).mono λj hj av=>by rw [b7]at av;omega
 have a2:=dx.ext J;have d0:=(((((d1.ext ar).ext ao).ext ac).ext G).ext J);obtain ⟨M,hM⟩:∃ M:Nat->Prop,M=λj=>w6.heap.size<=j/\Ar j/\j≠b8:=⟨_,rfl⟩;have bv:∀ j,M j->Ar j:=λj hj=>by rw [hM]at hj;exact hj.2.1
 have b4:¬ M b8:=λe=>by rw [hM]at e;exact e.2.2 rfl
 have cv:¬ M b2:=λe=>by
  rw [hM]at e;have h1:=d1.lt;have h2:=ar.size;have h3:=ao.size;have h4:=ac.size;omega
 refine ρ ?_;refine Xt (fun (k:Nat) (vv fv:Nat->Value)=>[(4,.pointer (some ⟨b2,0,none⟩)),(10,.pointer (some ⟨b8,0,none⟩)),(11,if k=0 then .slice none 0 0 else (ps.getD (k-1) z0).1),(53,.slice R n rc),(54,.int .i64 (n:Int)),(55,.int .i64 (k:Int))])
  (λk vv fv w'=>k<=n/\(∃ fs,TriB w' w6.heap.size A d vv fv (lvl (m.take k)) fs/\(∀ l,l<d->(fs l).length=(lvl (m.take k) l).length)/\∀ l,l+1<d->Fst (m.take k) l (fs l))/\GrN M an w'/\∀ j,Vy A d vv fv j->M j) (λk _ _=>n-k) 0 (λ_=>.slice none 0 0) (λ_=>.slice none 0 0) sB
  ⟨Nat.zero_le _,⟨λ_=>[],(dm.ext J).congr (λl U=>rfl) (λl U=>rfl),λl U=>rfl,λl U=>Fst.nil l⟩,GrN.refl _ _,λj hj=>?_⟩ ?_
 .rcases hj with e|⟨l,_,e|e⟩
  .have:=cm j e;rw [hM];refine ⟨this.1,by rw [b7];exact .inl (nM this.2 aq.size),λe2=>?_⟩;subst e2;omega
  .cases e
  .cases e
 rintro k vv fv a3 ⟨hk,⟨fs,bz,ay,aj⟩,a1,a9⟩;have a6:GrN Ar an a3:=a1.mono λj _ hj=>bv j hj;refine ρ ?_;refine ci (λh=>?_) (λh=>?_)
 .have lk:k<n:=by have:=oT h;omega
  have c6:k<m.length:=om
  clear h;have bi:=du a3 a6;have cr:RowV a3 (ps.getD k z0).1 (m.getD k []):=by rw [aw];exact bu _ (Vg hn lk) a3 a6
  have ca:(m.getD k []).length=d:=hlen _ (getD_mem' [] m c6);have cx:∃ y,RowV a3 (if k=0 then .slice none 0 0 else (ps.getD (k-1) z0).1) y/\(y=[]∨y.length=(m.getD k []).length)/\shr y (m.getD k [])=stp (m.take k) (m.getD k []):=by
   by_cases e:k=0
   .subst e;rw [if_pos rfl];exact ⟨[],RowV.nil _ _ _,.inl rfl,by rw [Jck];rfl⟩
   .rw [if_neg e];have d5:k-1<n:=om
    refine ⟨m.getD (k-1) [],by rw [aw];exact bu _ (Vg hn d5) a3 a6,.inr (by rw [ca];exact hlen _ (getD_mem' [] m om)),?_⟩;have e2:(m.take k).getLast?=some (m.getD (k-1) []):=by
     rw [List.getLast?_eq_getElem?,List.length_take,Nat.min_eq_left om,List.getElem?_take,if_pos om,Jp [] m om,List.getElem?_eq_getElem om]
    unfold stp;rw [e2]
  obtain ⟨y,d8,d7,d6⟩:=cx;have au:m.take (k+1)=m.take k++[m.getD k []]:=Qy [] c6;have ag:Lt [] (m.take k++[m.getD k []]):=by rw [<-au];exact List.Pairwise.sublist (List.take_sublist _ _) hlt
  have a4:∀ r∈m.take k++[m.getD k []],r.length=d:=by rw [<-au];exact λr hr=>hlen r (List.mem_of_mem_take hr)
  refine ρ ?_;refine ix k bi lk ?_;refine ρ ?_;refine ld (Jqm bi hn lk) ?_;refine ρ ?_;refine drN (λ_=>False) 4 [(0,0),(0,1),(0,2),(0,3),(1,4),(2,5)] kr ?_;have aa:Ext a3 a3.drew:=(Ext.refl a3).drew;have bs:=a1.trans (GrN.ext aa);have ak:=Jc a2 bs b4;refine ρn ?_;refine Xw (cs:=[.slice A d d]) (λw' hg j u hu=>(Jc ak hg (λe=>e)).at hu) ?_;refine ρn ?_;refine nop ?_;refine cl (Qvz (d8.ext aa) (cr.ext aa) d7) ?_;rintro u am ⟨rfl,be⟩;refine ρ ?_;refine Js (GrN.ext be) ?_;rw [d6];have af:=aa.trans be;have bc:=bz.ext af;have o:=a1.trans (GrN.ext af);have bo:Off (Vy A d vv fv) am (λu=>RowV u (ps.getD k z0).1 (m.getD k [])):=λu hu=>by
   rw [aw];exact bu _ (Vg hn lk) u ((o.mono λj _ hj=>bv j hj).trans (hu.mono λj _ hj=>bv j (a9 j hj)))
  refine Xd ?_;refine cl (Qyd (s:=stp (m.take k) (m.getD k [])) bc bo ca hd (by have:=Qbj (rs:=m.take k) (x:=m.getD k []);omega) ?_ ?_) ?_
  .have h1:=G.size;have h2:=J.size;have h3:=o.size;omega
  .intro l U;have h1:=Jss (rs:=m.take k) l;rw [List.length_take]at h1;have h2:=ay l U;omega
  rintro u c4 ⟨d3,ab,e6,ax,cw⟩;refine ρ ?_;refine Xj (k+1) d3 ab (by repeat' (first|exact Sub.nil|refine Sub.cons (by first|rfl|(refine congrArg (λz=>some (Value.int .i64 z)) ?_;omega)|(rw [if_neg (Nat.succ_ne_zero k)];rfl)) ?_)) ⟨om,⟨_,e6.congr (vs':=lvl (m.take (k+1))) (λl U=>?_) (λl U=>rfl),λl U=>?_,λl U=>?_⟩,o.trans (ax.mono λj _ hj=>a9 j hj),λj hj=>?_⟩ om
  .rw [au,Jsr ag a4 U];by_cases e:stp (m.take k) (m.getD k [])<=l
   .rw [if_pos e,if_neg om]
   .rw [if_neg e,if_pos om]
  .rw [au,Jsr ag a4 U];by_cases e:stp (m.take k) (m.getD k [])<=l
   .rw [if_pos e,if_neg (show ¬ l+1<=stp (m.take k) (m.getD k []) by omega),List.length_append,List.length_append,ay l U];rfl
   .rw [if_neg e,if_pos om];exact ay l U
  .rw [au];by_cases e:stp (m.take k) (m.getD k [])<=l
   .rw [if_pos e,if_pos U,Jxd];exact (aj l U).more ag a4 e
   .rw [if_neg e];exact (aj l U).keep ag a4 om
  .rcases cw j hj with h'|h'
   .exact a9 j h'
   .rw [hM];have h1:=G.size;have h2:=J.size;have h3:=o.size;have h4:=a2.lt;exact ⟨om,by rw [b7];exact .inr om,om⟩
 .have ek:k=n:=by have:=oF h;omega
  subst ek;rw [List.take_of_length_le om]at bz ay aj;have ak:=Jc a2 a1 b4;refine ρ ?_;refine ld (ak.at (i:=0) rfl) ?_;refine ρ ?_;refine Ja (fun (k:Nat) (fv:Nat->Value)=>[(4,.pointer (some ⟨b2,0,none⟩)),(10,.pointer (some ⟨b8,0,none⟩)),(69,.int .i64 (d:Int)),(70,.int .i64 (k:Int))])
   (λq ab w'=>q<=d/\TriB w' w6.heap.size A d vv ab (lvl m) (λl=>if l<q then fs l++[if l+1<d then (lvl m (l+1)).length else 0] else fs l)/\GrN M an w'/\∀ j,Vy A d vv ab j->M j) (λq _=>d-q) 0 fv sB
   ⟨Nat.zero_le _,bz.congr (λl U=>rfl) (λl U=>by rw [if_neg om]),a1,a9⟩ ?_
  clear ak a9 a6 a1;rintro q ab am ⟨hq,bc,o,ai⟩;refine ρ ?_;refine ci (λh=>?_) (λh=>?_)
  .have lq:q<d:=by have:=oT h;omega
   clear h;have e9:=ay q lq;have en:=Jss (rs:=m) q;obtain ⟨own,a8⟩:∃ own,own=(ab q).ownBlock:=⟨_,rfl⟩;have bq:∀ j,own=some j->M j:=λj ej=>ai j (.inr ⟨q,lq,.inr (by rw [<-a8];exact ej)⟩);refine ρ ?_;refine drN (one own) 4 [(0,0),(0,1),(0,2),(0,3),(0,4),(0,5),(0,6),(0,7),(0,8),(0,9),(0,10),(0,11),(1,12),(1,13),(1,14),(0,15),(0,16),(2,17)] kr ?_;have aa:Ext am am.drew:=(Ext.refl am).drew;have O:=bc.ext aa;have a5:=o.trans (GrN.ext aa);have b6:=Jc a2 a5 b4;have nb:¬ one own b8:=λe=>b4 (bq b8 e);have d4:¬ one own (adr A (q*2)).block:=by
    obtain ⟨ad,e,_⟩:=O.rd.isome om om;subst e;simp only [adr,Option.getD_some,Uo];intro h';exact Jqt O.lev (O.fst.own q lq) rfl rfl (by rw [<-a8];exact h')
   refine ρn ?_;refine nld (Jm (b6.at (i:=0) rfl) nb) ?_;refine ρn ?_;refine nld (Jm (b6.at (i:=0) rfl) nb) ?_;refine ρn ?_;refine Vr 2 q O.rd lq ?_;refine ρn ?_;refine nld (Jm (O.f1 lq) (by rw [Uo];exact d4)) ?_;refine ρn ?_;refine Xw (cs:=[.slice A d d]) (λw' hg j u hu=>(Jc b6 hg nb).at hu) ?_;refine ρn ?_;refine nop ?_;refine cl (Jcb (l:=q+1) (li:=(q:Int)+1) O.rd (λl U=>by obtain ⟨B,c,e,_⟩:=O.vform U;exact ⟨B,c,e⟩) om hd) ?_;rintro u c4 ⟨rfl,ae⟩;refine ρ ?_;refine Js (GrN.ext ae) ?_;obtain ⟨nn,cg⟩:∃ nn:Nat,nn=if q+1<d then (lvl m (q+1)).length else 0:=⟨_,rfl⟩
   rw [<-cg];refine nop ?_;refine bsl (bs1Int' (nn:Int)) ?_;intro ec ep bd ea cn;refine ρ ?_;refine Js (GrN.ext bd) ?_;have Z:=ae.trans bd;have bb:=O.ext Z;have bg:=bb.fst.own q lq;rw [if_neg (show ¬ q<q by omega)]at bg;refine nop ?_;refine apb (base:=w6.heap.size) EI bg (cn.rd (n:=1) rfl) (λu hu=>by rw [List.mem_singleton.1 hu];rfl) (by unfold maxLen;omega) om ?_ ?_
   .have h1:=G.size;have h2:=J.size;have h3:=a5.size;have h4:=Z.size;omega
   intro c5 eb bf ah bh;refine ρ ?_;refine Js (GrN.by ah λj ej=>by rw [<-a8]at ej;exact ej) ?_;have er:Jt (nz (fs q))++[.int .i64 (nn:Int)]=Jt (nz (fs q++[nn])):=by simp [Jt,nz]
   have el:(fs q).length+1=(fs q++[nn]).length:=by simp
   rw [er,el]at bf;obtain ⟨c1,c2,c3,e5,co⟩:=bb.setF lq bf ah bh;have e4:=Zj bb.lev (bb.fst.own q lq) ah rfl;refine ρn ?_;refine Vr 2 q (Rd.own e4) lq ?_;refine ρn ?_;refine Xd ?_;refine sto c1 c2 ?_ (hv:=c3);refine ρ ?_;have dw:∀ g,c5.ownBlock=some g->M g:=λg eg=>by
    rcases bh g eg with h'|h'
    .exact bq g (by rw [a8];exact h')
    .rw [hM];have h1:=G.size;have h2:=J.size;have h3:=a5.size;have h4:=Z.size;have h5:=a2.lt;exact ⟨om,by rw [b7];exact .inr om,om⟩
   refine Jl (q+1) (upd ab q c5) sO ⟨om,e5.congr (λl U=>rfl) (λl U=>?_),?_,Jrx (M:=M) ai lq dw⟩ om
   .by_cases e:l=q
    .subst e;rw [Jg,if_pos (show l<l+1 by omega),cg]
    .rw [Jy _ _ e];by_cases e2:l<q
     .rw [if_pos e2,if_pos (show l<q+1 by omega)]
     .rw [if_neg e2,if_neg (show ¬ l<q+1 by omega)]
   .exact ((a5.trans (GrN.ext Z)).trans (GrN.by ah λj ej=>bq j (by rw [a8];exact ej))).trans (GrN.by co λj ej=>ai j (.inl ej))
  .have eq:q=d:=by have:=oF h;omega
   subst eq;have cy:=Jc a2 o b4;have cz:=Jc d0 o cv;refine ρ ?_;refine ldW cy ?_;refine ρ ?_;refine stb cz ?_ (one1 (A:=A) (n:=q) (c:=q));intro c4 bw ax ae;refine ρ ?_;have bm:Ext w am:=o.old bn λj hj=>by rw [hM]at hj;exact nL ap.size hj.1
   refine Zf bw ⟨ae w bm (nL cd.size dl),_,rfl,⟨A,rfl⟩,?_⟩;have ce:=bc.off (N:=λj=>j<w.heap.size∨j=b2) (λl U=>?_) (λj hj av=>?_)
   .refine (ce.grown ax (λj ej=>.inr (by injection ej with ej;exact ej.symm))).mono λj _ hj=>.inl hj
   .rw [if_pos (show l<q by omega),if_pos U,Jxd];exact (aj l U).close
   .have h1:=ai j hj;rcases av with h'|h'
    .rw [hM]at h1;have:=ap.size;omega
    .subst h';exact cv h1
end Go.Proofs.YtebcagekopgdhaaGreatDoor
namespace Go.Wk
open Go.RowKit
variable {a:Act}{cs us:List Value}{g j m n o:Nat}{i x y:Operand}{p:Option Addr}{k:TK}{e t t2:TypeId}{u v:Value}{w:World}
section
variable {N:Nat->Prop} {P:Program} {n:Nat} {al:AL} {w:World} {Q:Exit->Act->World->Prop} {ops:Array Oper} {rest:List Oper} {drest:List (Nat×Oper)}
variable {d ty:Nat} {op:Op} {pos:String} {aft:Array Edge} {tt:TT}
theorem Jpc(hT:TOk P tt)(ht:tk tt t=some k)(hk:k.desc=.pointer e)(ha:Fr n al a)(hx:ev al x=some (.pointer p))(dst:Option Nat)(w:World):
  (execOp a.eval ⟨dst,.binOp .eql t x (.const (.pointer none)) t2,ty,pos,aft,none⟩).run P w=.ok (.value (.bool p.isNone)) w:=by
 have o:=Vm hT ht hk rfl;have h:∀ d:Nat,(Op.equalIn (d+1) t (.pointer p) (.pointer none)).run P w=.ok p.isNone w:=λd=>by cases p<;>simp [Op.equalIn,run_underlying o]
 have u:a.eval (.const (.pointer none))=.pointer none:=rfl;simp [execOp,ha.ev hx,u,eqGuard,binOp,Op.equal,Op.maxDepth,h 9999]
theorem Jpb(hT:TOk P tt)(ht:tk tt t=some k)(hk:k.desc=.pointer e)(ha:Fr n al a)(hx:ev al x=some (.pointer p))(dst:Option Nat)(w:World):
  (execOp a.eval ⟨dst,.binOp .neq t x (.const (.pointer none)) t2,ty,pos,aft,none⟩).run P w=.ok (.value (.bool (!p.isNone))) w:=by
 have o:=Vm hT ht hk rfl;have h:∀ d:Nat,(Op.equalIn (d+1) t (.pointer p) (.pointer none)).run P w=.ok p.isNone w:=λd=>by cases p<;>simp [Op.equalIn,run_underlying o]
 have u:a.eval (.const (.pointer none))=.pointer none:=rfl;simp [execOp,ha.ev hx,u,eqGuard,binOp,Op.equal,Op.maxDepth,h 9999]
theorem pnl[h:Tab P tt](kk:WL P n ops Q rest ((d,.bool p.isNone)::al) w)(ht:tk tt t=some k:=by rfl)(hk:k.desc=.pointer e:=by rfl)(hx:ev al x=some (.pointer p):=by rfl)(hd:Nat.blt d n=true:=by rfl):
  WL P n ops Q (⟨some d,.binOp .eql t x (.const (.pointer none)) t2,ty,pos,aft,none⟩::rest) al w:=wop hd (λa o=>Jpc h.ok ht hk o hx (some d) w) kk
theorem dpnl[h:Tab P tt](kk:WD P n ops Q drest ((d,.bool p.isNone)::al) w)(ht:tk tt t=some k:=by rfl)(hk:k.desc=.pointer e:=by rfl)(hx:ev al x=some (.pointer p):=by rfl)(hd:Nat.blt d n=true:=by rfl):
  WD P n ops Q ((0,⟨some d,.binOp .eql t x (.const (.pointer none)) t2,ty,pos,aft,none⟩)::drest) al w:=dy (λw' _ a o=>Jpc h.ok ht hk o hx (some d) w') hd kk
theorem pnn[h:Tab P tt](kk:WL P n ops Q rest ((d,.bool (!p.isNone))::al) w)(ht:tk tt t=some k:=by rfl)(hk:k.desc=.pointer e:=by rfl)(hx:ev al x=some (.pointer p):=by rfl)(hd:Nat.blt d n=true:=by rfl):
  WL P n ops Q (⟨some d,.binOp .neq t x (.const (.pointer none)) t2,ty,pos,aft,none⟩::rest) al w:=wop hd (λa o=>Jpb h.ok ht hk o hx (some d) w) kk
theorem dpnn[h:Tab P tt](kk:WD P n ops Q drest ((d,.bool (!p.isNone))::al) w)(ht:tk tt t=some k:=by rfl)(hk:k.desc=.pointer e:=by rfl)(hx:ev al x=some (.pointer p):=by rfl)(hd:Nat.blt d n=true:=by rfl):
  WD P n ops Q ((0,⟨some d,.binOp .neq t x (.const (.pointer none)) t2,ty,pos,aft,none⟩)::drest) al w:=dy (λw' _ a o=>Jpb h.ok ht hk o hx (some d) w') hd kk
theorem nixa[h:Tab P tt]{t e:Nat}{p:Addr}{kd:IntKind}{z:Int}(j:Nat)(hlt:j<m)(kk:WN N P n ops Q drest ((d,.pointer (some (p.add (j*k.esz))))::al) w)(ht:tk tt t=some k:=by rfl)(hk:k.desc=.array m e:=by rfl)(hx:ev al x=some (.pointer (some p)):=by rfl)(hi:ev al i=some (.int kd z):=by rfl)(hj:z=(j:Int):=by first|rfl|omega)(hd:Nat.blt d n=true:=by rfl): WN N P n ops Q ((0,⟨some d,.indexAddr t x i,ty,pos,aft,none⟩)::drest) al w :=
 ny_ (λw' _ a o=>Jcw h.ok j ht hk hlt o hx hi hj (some d) w') hd kk
theorem stB[h:Tab P tt]{t bt:Nat}{p:Addr}(hb:Blk w g bt cs)(ho:o+us.length<=cs.length)(h1:∀ u∈us,u.oneCell'=true)(kk:∀ w1,Blk w1 g bt (cs.take o++us++cs.drop (o+us.length))->w.grownBy w1 (some g)->WL P n ops Q rest al w1)(ht:tk tt t=some k:=by rfl)(hk:k.desc=.invalid:=by rfl)(hs:k.size=us.length:=by rfl)(hx:ev al x=some (.pointer (some p)):=by rfl)(hp:p=⟨g,o,none⟩:=by rfl)(hy:ev al y=some (.agg us.toArray):=by rfl):
  WL P n ops Q (⟨none,.store t x y,ty,pos,aft,none⟩::rest) al w:=by
 subst hp;have O:=Jjh w g (cs.take o++us++cs.drop (o+us.length)).toArray;have C:=run_storeCells_at (P:=P) g o bt us 0 cs.toArray w hb (by simpa using ho) h1;simp only [Nat.add_zero]at C;refine Iz (λa J=>?_) (kk (w.setRow g (cs.take o++us++cs.drop (o+us.length)).toArray) (setRow_heap w g _ _ _ _ hb) O);have G:=Vk w (Jql h.ok ht hk w).2;simp [execOp,J.ev hx,J.ev hy,Instr.storeAt,Instr.sureAddr,storeVar,Value.cells,G,hs,C]
end
theorem Jlt{P:Program}{al:AL}{Q Q':Exit->Act->World->Prop}{ops:Array Oper}{α β:Type}{d:Code}{l:List Oper}(fr:α->β->AL)(I:α->β->World->Prop)(h1:WL P n ops (Exit.then (λa w=>∃ x y,Fr n (fr x y) a/\I x y w) Q) l al w)(h2:∀ x y w,I x y w->WC P n d Q' (fr x y) w): WL P n ops (Exit.then (d.wp P Q') Q) l al w:=by
 intro a u;refine Jwr ?_ l a w (h1 a u);intro e J w' o;cases e with
 | normal=>obtain ⟨x,y,G,C⟩:=o;exact h2 x y w' C J G
 | exit id=>exact o
 | goto l=>exact o
 | ret=>exact o
 | panic c=>exact o
 | outgrown=>exact o
theorem seg2(h:o+2<=cs.length): cs.take o++[u,v]++cs.drop (o+2)=(cs.set o u).set (o+1) v:=by
 apply List.ext_getElem?
 intro i;rw [List.getElem?_set,List.getElem?_set,List.append_assoc];rcases Nat.lt_trichotomy i o with hi|hi|hi
 .rw [List.getElem?_append_left (by rw [List.length_take];omega),List.getElem?_take,if_pos hi,if_neg om,if_neg om]
 .subst hi;rw [List.getElem?_append_right (by rw [List.length_take];omega),List.length_take,Nat.min_eq_left om,Nat.sub_self,if_neg om,if_pos rfl,if_pos om];rfl
 .rw [List.getElem?_append_right (by rw [List.length_take];omega),List.length_take,Nat.min_eq_left om];by_cases e:i=o+1
  .subst e;rw [Nat.add_sub_cancel_left,if_pos rfl,if_pos (by rw [List.length_set];omega)];rfl
  .rw [if_neg om,if_neg om,List.getElem?_append_right (by simp;omega),List.getElem?_drop];congr 1
   simp;omega
theorem Blk.sub(h:Blk w g t cs){i:Nat}(hv:cs[i+j]?=some v): w.cell? ((⟨g,i,none⟩:Addr).add j)=some v:=by rw [Vo,h.cell];exact hv
end Go.Wk
namespace Go.Proofs.YtebcagekopgdhaaGreatDoor
open Go.RowKit Pl Go.Wk
attribute [local irreducible] WC WL QX WD WDB WP WN
variable {d k:Nat}
def itC(A:Option Addr)(d L p e:Nat)(f h:Nat->Nat)(st:Int): List Value:=[.slice A d d,.int .i64 (L:Int),.int .i64 (p:Int),.int .i64 (e:Int)]++Zd 32 (λk=>.int .i64 (f k:Int)) (λk=>.int .i64 (h k:Int))++[.int .i64 st]
theorem Jyh(A:Option Addr)(d L p e:Nat)(f h:Nat->Nat)(st:Int): (itC A d L p e f h st).length=69:=by
 simp only [itC,List.length_append,Zx];rfl
theorem Jfx(A:Option Addr)(d L p e:Nat)(f h:Nat->Nat)(st:Int): (itC A d L p e f h st)[68]?=some (.int .i64 st):=by
 unfold itC;rw [List.getElem?_append_right (by rw [List.length_append,Zx];simp),List.length_append,Zx];rfl
theorem Qlz(A:Option Addr)(d L p e:Nat)(f h:Nat->Nat)(st st':Int): (itC A d L p e f h st).set 68 (.int .i64 st')=itC A d L p e f h st':=by
 unfold itC;rw [List.set_append_right _ _ (by rw [List.length_append,Zx];simp),List.length_append,Zx];rfl
theorem Qmc(A:Option Addr)(d L p e:Nat)(f h:Nat->Nat)(st:Int)(hk:k<32): (itC A d L p e f h st)[4+k*2]?=some (.int .i64 (f k:Int))/\(itC A d L p e f h st)[4+k*2+1]?=some (.int .i64 (h k:Int)):=by
 have o:=Kk 32 (λk=>.int .i64 (f k:Int)) (λk=>.int .i64 (h k:Int)) hk;unfold itC;constructor
 .rw [List.getElem?_append_left (by rw [List.length_append,Zx];simp;omega),List.getElem?_append_right (by simp)];rw [show 4+k*2 - [Value.slice A d d,.int .i64 (L:Int),.int .i64 (p:Int),.int .i64 (e:Int)].length=k*2 by simp];exact o.1
 .rw [List.getElem?_append_left (by rw [List.length_append,Zx];simp;omega),List.getElem?_append_right (by simp;omega)];rw [show 4+k*2+1 - [Value.slice A d d,.int .i64 (L:Int),.int .i64 (p:Int),.int .i64 (e:Int)].length=k*2+1 by simp;omega];exact o.2
theorem Jml(f:Nat->Nat)(k x:Nat): (λj=>Value.int .i64 ((upd f k x j:Nat):Int))=upd (λj=>Value.int .i64 (f j:Int)) k (.int .i64 (x:Int)):=by
 funext j;unfold upd;split<;>rfl
theorem Qmb(A:Option Addr)(d L p e:Nat)(f h:Nat->Nat)(st:Int)(hk:k<32)(x y:Nat): ((itC A d L p e f h st).set (4+k*2) (.int .i64 (x:Int))).set (4+k*2+1) (.int .i64 (y:Int))=itC A d L p e (upd f k x) (upd h k y) st:=by
 unfold itC;have u:∀ (X:List Value),([Value.slice A d d,.int .i64 (L:Int),.int .i64 (p:Int),.int .i64 (e:Int)]++X).set (4+k*2) (.int .i64 (x:Int))=[Value.slice A d d,.int .i64 (L:Int),.int .i64 (p:Int),.int .i64 (e:Int)]++X.set (k*2) (.int .i64 (x:Int)):=λX=>by
  rw [List.set_append_right _ _ (by simp)];congr 2;simp
 have o:∀ (X:List Value),([Value.slice A d d,.int .i64 (L:Int),.int .i64 (p:Int),.int .i64 (e:Int)]++X).set (4+k*2+1) (.int .i64 (y:Int))=[Value.slice A d d,.int .i64 (L:Int),.int .i64 (p:Int),.int .i64 (e:Int)]++X.set (k*2+1) (.int .i64 (y:Int)):=λX=>by
  rw [List.set_append_right _ _ (by simp;omega)];congr 2;simp;omega
 rw [List.set_append_left _ _ (by rw [List.length_append,Zx];simp;omega),u,Qjl _ _ _ hk,List.set_append_left _ _ (by rw [List.length_append,Zx];simp;omega),o,Qjk _ _ _ hk,Jml,Jml]
abbrev ItB(w:World)(g:Nat)(A:Option Addr)(d L p e:Nat)(f h:Nat->Nat)(st:Int): Prop:=Blk w g 303 (itC A d L p e f h st)
def TriA(w:World)(A:Option Addr)(d:Nat)(rs:List Row): Prop:=∃ (vv fv:Nat->Value) (fs:Nat->List Nat),Rd w 2 A d (Zd d vv fv)/\(∀ l,l<d->∃ B c,vv l=.slice B (lvl rs l).length c/\RdR w B (lvl rs l)) /\
 (∀ l,l<d->∃ B c,fv l=.slice B (fs l).length c/\Rd w 1 B (fs l).length (Jt (nz (fs l))))/\∀ l,l+1<d->Chl rs l (fs l)
theorem TriV.a{w:World}{A:Option Addr}{rs:List Row}(h:TriV w (.agg #[.slice A d d]) d rs): TriA w A d rs:=by
 obtain ⟨C,vv,fv,fs,o,u⟩:=h;injection o with o
 have:Value.slice A d d=.slice C d d:=by simpa using o
 injection this with o
 subst o;exact ⟨vv,fv,fs,u⟩
theorem TriA.ext{w w':World}{A:Option Addr}{d:Nat}{rs:List Row}(h:TriA w A d rs)(hx:Ext w w'): TriA w' A d rs:=by
 obtain ⟨vv,fv,fs,O,J,G,C⟩:=h;refine ⟨vv,fv,fs,O.ext hx,λl u=>?_,λl u=>?_,C⟩
 .obtain ⟨B,c,e,o⟩:=J l u;exact ⟨B,c,e,Rd.ext o hx⟩
 .obtain ⟨B,c,e,o⟩:=G l u;exact ⟨B,c,e,o.ext hx⟩
section
variable {w:World} {g:Nat} {A:Option Addr} {d L p e:Nat} {f h:Nat->Nat} {st:Int}
theorem Jqw(hB:ItB w g A d L p e f h st): Ret Tryz.prog 226 [.pointer (some ⟨g,0,none⟩)] w λu w'=>u=.bool (decide (0<L/\p<e))/\Ext w w':=by
 refine Jz Tryz.func226 Tryz.ntmps226 rfl kr rfl ?_;refine ρ ?_;refine dr [(0,0),(0,1),(0,2),(0,3),(0,4),(0,5),(0,6),(0,7),(0,8),(0,9),(0,10),(0,11),(0,12),(0,13),(0,14),(0,15),(0,16),(0,17),(0,18),(0,19),(0,20),(0,21),(0,22)] kr ?_;have C:Ext w w.drew:=(Ext.refl w).drew;have o:=hB.ext C;refine ρd ?_;refine dpnn ?_;refine ρd ?_;refine dld (o.at (i:=1) rfl) ?_;refine ρd ?_;refine dki 12 (λG=>?_) (λG=>?_)
 .have J:0<L:=by have:=oT G;omega
  refine ρd ?_;refine dld (o.at (i:=2) rfl) ?_;refine ρd ?_;refine dld (o.at (i:=3) rfl) ?_;refine ρd ?_;refine ρ ?_;refine Jj ⟨?_,C⟩;congr 1
  exact decide_eq_decide.2 om
 .have J:¬ 0<L:=by have:=oF G;omega
  refine ρd ?_;refine ρ ?_;refine Jj ⟨?_,C⟩;congr 1
  exact (dF om).symm
end
open Go.RowKit Pl Go.Wk
variable {qi:Int}{j k q:Nat}
theorem Uu: Qu Tryz.prog 47=some V0.val:=kr
section
variable {w:World} {g:Nat} {A:Option Addr} {d L p e:Nat} {f h:Nat->Nat} {st:Int} {rs:List Row}
theorem Jtn(hB:ItB w g A d L p e f h st)(hT:TriA w A d rs)(hL:0<L)(hLd:L<=d)(hd:d<=32)(hq:q<(lvl rs (L-1)).length)(hqi:qi=(q:Int)): Ret Tryz.prog 229 [.pointer (some ⟨g,0,none⟩),.int .i64 qi] w λu w'=>u=((lvl rs (L-1)).getD q V0).val/\Ext w w':=by
 subst hqi;obtain ⟨vv,fv,fs,hR,hv,hf,hc⟩:=hT;have O:L-1<d:=om
 obtain ⟨B,c,a1,a3⟩:=hv (L-1) O;refine Jz Tryz.func229 Tryz.ntmps229 rfl kr rfl ?_;refine ρ ?_;refine alc (cs:=V0.cells) Uu ?_;intro w1 b Z hb a4;refine ρ ?_;refine drN (λ_=>False) 4 [(0,0),(0,1),(0,2),(0,3),(0,4),(0,5),(0,6),(0,7),(0,8),(0,9),(0,10),(0,11),(0,12),(0,13),(0,14),(0,15),(2,16)] kr ?_;have o:=Z.drew;have J:=hB.ext o;have G:=hR.ext o;have C:RdR _ B (lvl rs (L-1)):=Rd.ext a3 o;have a2:w1.drew.cell? ((adr A ((L-1)*2)).add 0)=some (vv (L-1)):=by rw [add_zero];exact G.cell (Kk d vv fv O).1
 refine ρn ?_;refine nld (Jm (J.at (i:=0) rfl) (λe=>e)) ?_;refine ρn ?_;refine nld (Jm (J.at (i:=1) rfl) (λe=>e)) ?_;refine ρn ?_;refine Vr 2 (L-1) G O ?_;refine ρn ?_;refine nld (Jm a2 (λe=>e)) ?_;rw [a1];refine ρn ?_;refine Vr 3 q C hq ?_;refine ρn ?_;refine Xw (cs:=((lvl rs (L-1)).getD q V0).cells) (λw' hg j u hu=>RdR.cell (Rd.ext C hg.toExt) hq hu) ?_;refine ρn ?_;refine Xd ?_;refine stb (cs':=((lvl rs (L-1)).getD q V0).cells) (a4.ext (Ext.refl w1).drew) ?_ (V.one _);intro w2 a5 a6 U;refine ρ ?_;exact Jjl a5 ⟨rfl,U w o hb⟩
theorem Jfv{v:V}(hB:ItB w g A d L p e f h st)(hT:Off (λk=>k=g) w (λu=>TriA u A d rs))(hL:0<L)(hLd:L<=d)(hd:d<=32)(hq:q<(lvl rs (L-1)).length)(hqi:qi=(q:Int)): Ret Tryz.prog 234 [.pointer (some ⟨g,0,none⟩),.int .i64 qi,v.val] w λu w'=>u=.bool (decide (cmpV ((lvl rs (L-1)).getD q V0) v<0))/\GrN (λk=>k=g) w w'/\∃ st',ItB w' g A d L p e f h st':=by
 refine Jz Tryz.func234 Tryz.ntmps234 rfl kr rfl ?_;refine ρ ?_;refine bx (cs:=v.cells) ?_;intro w1 b Z hb a4;have C:=hB.ext Z;refine ρ ?_;refine ld (C.at (i:=68) (Jfx _ _ _ _ _ _ _ _)) ?_;refine ρ ?_;have a5:w1.cell? ⟨g,0+68,none⟩=some (.int .i64 st):=by rw [C.cell];exact Jfx _ _ _ _ _ _ _ _
 refine sto a5 (C.frozen _) ?_;obtain ⟨st',a1⟩:∃ st':Int,st'=IntKind.i64.wrap (st+1):=⟨_,rfl⟩;rw [<-a1];have J:=C.set (0+68) (.int .i64 st');rw [show (0:Nat)+68=68 from rfl,Qlz]at J;have a2:GrN (λk=>k=g) w (w1.setCell ⟨g,68,none⟩ (.int .i64 st')):=(GrN.ext Z).trans (GrN.set _ rfl);have a3:Blk (w1.setCell ⟨g,68,none⟩ (.int .i64 st')) b 47 v.cells:=a4.far (by simp only;have:=hB.lt;omega) _;refine ρ ?_;generalize hw2:w1.setCell ⟨g,68,none⟩ (.int .i64 st')=w2 at *
 refine dr [(0,0),(0,1),(0,3),(1,2),(1,4),(0,5),(0,6)] kr ?_;have o:Ext w2 w2.drew:=(Ext.refl w2).drew;refine ρd ?_;refine Qz (cs:=v.cells) (λj u hu=>(a3.ext o).at hu) ?_;refine ρd ?_;refine dcl (Jtn (J.ext o) (hT _ (a2.trans (GrN.ext o))) hL hLd hd hq hqi) ?_;rintro u w3 ⟨rfl,U⟩;refine ⟨U,?_⟩;refine ρd ?_;refine dcl (Jqd _ v _) ?_;rintro u w4 ⟨rfl,O⟩;refine ⟨O,?_⟩;refine ρd ?_;refine ρ ?_;have G:=(o.trans U).trans O;exact Jj ⟨rfl,a2.trans (GrN.ext G),st',J.ext G⟩
theorem Jfw(hB:ItB w g A d L p e f h st)(hT:TriA w A d rs)(hLd:L<=d)(hd:d<=32)(he:0<L->e<=(lvl rs (L-1)).length): Ret Tryz.prog 219 [.pointer (some ⟨g,0,none⟩)] w λu w'=>Ext w w'/\∃ v:V,u=.tuple #[v.val,.bool (decide (0<L/\p<e))]/\(0<L/\p<e->v=(lvl rs (L-1)).getD p V0):=by
 refine Jz Tryz.func219 Tryz.ntmps219 rfl kr rfl ?_;refine ρ ?_;refine alc (cs:=V0.cells) Uu ?_;intro w1 b O hb Z;refine ρ ?_;refine cl (Jqw (hB.ext O)) ?_;rintro u w2 ⟨rfl,J⟩;have o:=O.trans J;refine ρ ?_;refine ci (λh1=>?_) (λh1=>?_)
 .have U:¬ (0<L/\p<e):=oF (by rw [Bool.not_eq_true']at h1;exact h1);refine ρ ?_;refine bld (v:=V0.val) kr ?_;refine ρ ?_;refine stb (cs':=V0.cells) (Z.ext J) ?_ (V.one _);intro w3 a4 a6 G;refine ρ ?_;refine Zf a4 ⟨G w o hb,V0,?_,λh'=>absurd h' U⟩;rw [decide_eq_false U];rfl
 .have C:0<L/\p<e:=oT (by rw [Bool.not_eq_false']at h1;exact h1);have a1:=hB.ext o;refine ρ ?_;refine ld (a1.at (i:=2) rfl) ?_;refine ρ ?_;refine cl (Jtn (q:=p) (qi:=(p:Int)) a1 (hT.ext o) C.1 hLd hd (by have:=he C.1;omega) rfl) ?_;rintro u w3 ⟨rfl,G⟩;refine ρ ?_;refine stb (cs':=((lvl rs (L-1)).getD p V0).cells) ((Z.ext J).ext G) ?_ (V.one _);intro w4 a3 a5 a2;refine ρ ?_;refine Zf a3 ⟨a2 w (o.trans G) hb,_,?_,λ_=>rfl⟩;rw [decide_eq_true C];rfl
theorem Qlx(hB:ItB w g A d L p e f h st)(hL:0<L)(hp:p<e)(hpe:e<=1000000): Ret Tryz.prog 218 [.pointer (some ⟨g,0,none⟩)] w λu w'=>u=.bool (decide (p+1<e))/\GrN (λk=>k=g) w w'/\ItB w' g A d L (p+1) e f h st:=by
 refine Jz Tryz.func218 Tryz.ntmps218 rfl kr rfl ?_;refine ρ ?_;refine cl (Jqw hB) ?_;rintro u Z ⟨rfl,G⟩;refine ρ ?_;refine cf ?_ ?_
 .simp [hL,hp]
 have o:=hB.ext G;refine ρ ?_;refine ld (o.at (i:=2) rfl) ?_;refine ρ ?_;refine sto (p:=⟨g,2,none⟩) (o.cell 2) (o.frozen _) ?_;have J:ItB (Z.setCell ⟨g,2,none⟩ (.int .i64 ((p:Int)+1))) g A d L (p+1) e f h st:=by
  have:=o.set 2 (.int .i64 ((p:Int)+1));exact this
 have O:GrN (λk=>k=g) w (Z.setCell ⟨g,2,none⟩ (.int .i64 ((p:Int)+1))):=(GrN.ext G).trans (GrN.set _ rfl);refine ρ ?_;refine cl (Jqw J) ?_;rintro u w3 ⟨rfl,C⟩;refine ρ ?_;refine Jj ⟨?_,O.trans (GrN.ext C),J.ext C⟩;congr 1
 exact decide_eq_decide.2 ⟨λU=>U.2,λU=>⟨hL,U⟩⟩
theorem Xqk(hB:ItB w g A d L p e f h st)(hk:k<32){u:Value}(hu:[Value.int .i64 (f k:Int),.int .i64 (h k:Int)][j]?=some u): w.cell? (((⟨g,0+4,none⟩:Addr).add (k*2)).add j)=some u:=by
 have o:=Qmc A d L p e f h st hk;rw [Vo,Vo,hB.cell];match j,hu with
 | 0,hu=>rw [<-hu];exact o.1
 | 1,hu=>rw [<-hu];exact o.2
 | j+2,hu=>simp at hu
theorem Qls(hB:ItB w g A d (L+1) p e f h st)(hL:L<32): Ret Tryz.prog 220 [.pointer (some ⟨g,0,none⟩)] w λu w'=>GrN (λk=>k=g) w w'/\ItB w' g A d L (f L) (h L) f h st:=by
 refine Jz Tryz.func220 Tryz.ntmps220 rfl kr rfl ?_;refine ρ ?_;refine pnl ?_;refine ρ ?_;refine ld (hB.at (i:=1) rfl) ?_;refine ρ ?_;refine ld (hB.at (i:=1) rfl) ?_;refine ρ ?_;refine sto (p:=⟨g,1,none⟩) (hB.cell 1) (hB.frozen _) ?_;have eL:((L+1:Nat):Int)-1=(L:Int):=om
 rw [eL];have a1:ItB (w.setCell ⟨g,1,none⟩ (.int .i64 (L:Int))) g A d L p e f h st:=hB.set 1 (.int .i64 (L:Int));have U:GrN (λk=>k=g) w (w.setCell ⟨g,1,none⟩ (.int .i64 (L:Int))):=GrN.set _ rfl;refine ρ ?_;generalize w.setCell ⟨g,1,none⟩ (.int .i64 (L:Int))=w2 at *
 refine drN (λ_=>False) 4 [(0,0),(0,1),(0,2),(0,3),(0,4),(0,5),(0,6),(0,7),(0,8),(0,9),(0,10),(0,11),(2,12)] kr ?_;have G:Ext w2 w2.drew:=(Ext.refl w2).drew;have C:=a1.ext G;refine ρn ?_;refine nld (Jm (C.at (i:=1) rfl) (λe=>e)) ?_;refine ρn ?_;refine nixa L hL ?_;refine ρn ?_;refine Xw (cs:=[.int .i64 (f L:Int),.int .i64 (h L:Int)]) (λw' hg j u J=>Xqk (Jc C hg (λe=>e)) hL J) ?_;refine ρn ?_;refine Xd ?_;refine stB (o:=2) (us:=[.int .i64 (f L:Int),.int .i64 (h L:Int)]) C (by rw [Jyh];simp) (λu J=>by simp at J;rcases J with rfl|rfl<;>rfl) ?_;intro w4 Z O;refine ρ ?_;exact Jj ⟨U.trans ((GrN.ext G).trans (GrN.by O λk e=>by injection e with e;exact e.symm)),Z⟩
theorem Qlt(hB:ItB w g A d L p e f h st): Ret Tryz.prog 206 [.pointer (some ⟨g,0,none⟩)] w λu w'=>u=.int .i64 st/\w'=w:=by
 refine Jz Tryz.func206 Tryz.ntmps206 rfl kr rfl ?_;refine ρ ?_;refine pnl ?_;refine ρ ?_;refine ld (hB.at (i:=68) (Jfx _ _ _ _ _ _ _ _)) ?_;refine ρ ?_;exact Jj ⟨rfl,rfl⟩
theorem Qtk(A:Option Addr)(d:Nat)(w:World): (Instr.build 303 #[(0,.agg #[.slice A d d])]).run Tryz.prog w=.ok (.agg (itC A d 0 0 0 (λ_=>0) (λ_=>0) 0).toArray) w:=kr
theorem Qyc(w:World): Ret Tryz.prog 204 [.agg #[.slice A d d]] w λu w'=>Ext w w'/\∃ g,u=.pointer (some ⟨g,0,none⟩)/\w.heap.size<=g/\ItB w' g A d 0 0 0 (λ_=>0) (λ_=>0) 0:=by
 refine Jz Tryz.func204 Tryz.ntmps204 rfl kr rfl ?_;refine ρ ?_;refine bx ?_;intro w1 b o hb O;refine ρ ?_;refine ldW O ?_;refine ρ ?_;refine bld (Qtk A d _) ?_;refine ρ ?_;refine bx (cs:=itC A d 0 0 0 (λ_=>0) (λ_=>0) 0) ?_;intro Z U C G J;refine ρ ?_;exact Jj ⟨o.trans C,U,rfl,Nat.le_trans o.size G,J⟩
end
open Go.RowKit Pl Go.Wk
section
variable {w:World} {g:Nat} {A:Option Addr} {d L p e:Nat} {f h:Nat->Nat} {st:Int} {rs:List Row}
theorem Qlv{v:V}(hB:ItB w g A d L p e f h st)(hT:Off (λk=>k=g) w (λu=>TriA u A d rs))(hL:0<L)(hLd:L<=d)(hd:d<=32)(hpe:p<e)(he:e<=(lvl rs (L-1)).length)(hm:e<=1000000)(hs:∀ i j,p<=i->i<j->j<e->cmpV ((lvl rs (L-1)).getD i V0) ((lvl rs (L-1)).getD j V0)<0):
  Ret Tryz.prog 228 [.pointer (some ⟨g,0,none⟩),v.val] w λu w'=>GrN (λk=>k=g) w w'/\∃ q st',u=.bool (decide (q<e))/\p<=q/\q<=e/\(∀ i,p<=i->i<q->cmpV ((lvl rs (L-1)).getD i V0) v<0)/\(q<e->¬ cmpV ((lvl rs (L-1)).getD q V0) v<0)/\ItB w' g A d L q e f h st':=by
 obtain ⟨val,b2⟩:∃ val:Nat->V,val=λi=>(lvl rs (L-1)).getD i V0:=⟨_,rfl⟩;have ab:∀ i,(lvl rs (L-1)).getD i V0=val i:=λi=>by rw [b2]
 simp only [ab]at hs ⊢;have below:∀ {o i:Nat},p<=i->i<=o->o<e->cmpV (val o) v<0->cmpV (val i) v<0:=fun {o i} J h2 h3 h4=>by
  by_cases e':i=o
  .subst e';exact h4
  .exact cmp_V.lt_trans (hs i o J om h3) h4
 refine Jz Tryz.func228 Tryz.ntmps228 rfl kr rfl ?_;refine ρ ?_;refine bx (cs:=v.cells) ?_;intro w1 b b1 hb bc;have ba:b≠g:=by have:=hB.lt;omega
 have ac:¬ (λk=>k=g) b:=ba;refine ρ ?_;refine cl (Jqw (hB.ext b1)) ?_;rintro u w2 ⟨rfl,ay⟩;have aj:=b1.trans ay;have bd:=hB.ext aj;have bb:GrN (λk=>k=g) w w2:=GrN.ext aj;refine ρ ?_;refine cf ?_ ?_
 .simp [hL,hpe]
 refine ρ ?_;refine drN (λ_=>False) 10 [(0,0),(0,1),(0,2),(0,3),(0,4),(0,5),(0,6),(2,7),(2,8)] kr ?_;have am:Ext w2 w2.drew:=(Ext.refl w2).drew;have aq:=bd.ext am;have a8:=(bc.ext ay).ext am;have ap:=bb.trans (GrN.ext am);refine ρn ?_;refine nld (Jm (aq.at (i:=2) rfl) (λe=>e)) ?_;refine ρn ?_;refine Xw (cs:=v.cells) (λw' hg j u hu=>(Jc a8 hg (λe=>e)).at hu) ?_;refine ρn ?_;refine Xd ?_;refine cl (Jfv (q:=p) (qi:=(p:Int)) aq (hT.gr ap) hL hLd hd om rfl) ?_;rintro u w4 ⟨rfl,ao,aw,ai⟩;have ak:=Jc a8 ao ac;have a5:=ap.trans ao;refine ρ ?_;refine Gw ?_;refine Xd ?_;refine ρ ?_;rw [ab];refine ci (λJ=>?_) (λJ=>?_)
 .have h2:¬ cmpV (val p) v<0:=by simpa using J
  refine ρ ?_;refine Jj ⟨a5,p,aw,by rw [decide_eq_true hpe],Nat.le_refl _,om,λi J h2=>om,λ_=>h2,ai⟩
 have h2:cmpV (val p) v<0:=by simpa using J
 clear J;refine ρ ?_;refine ld (ai.at (i:=2) rfl) ?_;refine ρ ?_;refine Xt (fun (o step:Nat) (st:Int)=>[(0,.pointer (some ⟨g,0,none⟩)),(3,.pointer (some ⟨b,0,none⟩)),(5,.int .i64 (o:Int)),(6,.int .i64 (step:Int))])
  (λo step st w'=>GrN (λk=>k=g) w w'/\ItB w' g A d L p e f h st/\Blk w' b 47 v.cells/\p<=o/\o<e/\cmpV (val o) v<0/\1<=step/\step<=2000000) (λo _ _=>e-o) p 1 aw sB
  ⟨a5,ai,ak,Nat.le_refl _,hpe,h2,Nat.le_refl _,om⟩ ?_
 clear ai ak a5 ao aq a8 ap;rintro o step b6 w5 ⟨af,ah,O,ad,b5,a2,b8,b7⟩;refine ρ ?_;refine ld (ah.at (i:=3) rfl) ?_;refine ρ ?_;refine Jlt (fun (t:Bool) (st:Int)=>[(0,.pointer (some ⟨g,0,none⟩)),(3,.pointer (some ⟨b,0,none⟩)),(5,.int .i64 (o:Int)),(6,.int .i64 (step:Int)),(42,.bool t)])
  (λt st w'=>GrN (λk=>k=g) w w'/\ItB w' g A d L p e f h st/\Blk w' b 47 v.cells/\(t=true->o+step<e/\cmpV (val (o+step)) v<0)/\(t=false->e<=o+step∨¬ cmpV (val (o+step)) v<0)) ?_ ?_
 .refine ki 35 (λJ=>?_) (λJ=>?_)
  .have h3:o+step<e:=by have:=oT J;omega
   refine ρ ?_;refine lds (cs:=v.cells) (λj u hu=>O.at hu) ?_;refine ρ ?_;refine cl (Jfv (q:=o+step) (qi:=(o:Int)+(step:Int)) ah (hT.gr af) hL hLd hd om om) ?_;rintro u w6 ⟨rfl,Z,aa,a1⟩;refine ρ ?_;rw [ab];refine Za _ aa sB ⟨af.trans Z,a1,Jc O Z ac,λh'=>⟨h3,of_decide_eq_true h'⟩,λh'=>.inr (oF h')⟩
  .refine ρ ?_;exact Za false b6 sB ⟨af,ah,O,λh'=>(by cases h'),λ_=>.inl (by have:=oF J;omega)⟩
 clear af ah O;rintro t aa w6 ⟨Z,a1,a7,b4,b3⟩;refine ci (λJ=>?_) (λJ=>?_)
 .obtain ⟨h3,h4⟩:=b4 J;refine ρ ?_;exact Xj (o+step) (step*2) aa sO ⟨Z,a1,a7,om,om,h4,om,om⟩ om
 have h3:=b3 J;clear b4 b3 J;refine ρ ?_;refine ld (a1.at (i:=3) rfl) ?_;refine ρ ?_;have b9:∃ hi:Nat,(if (e:Int)<(o:Int)+(step:Int) then (e:Int) else (o:Int)+(step:Int))=(hi:Int)/\o<hi/\hi<=e/\(hi<e->¬ cmpV (val hi) v<0):=by
  by_cases h4:e<o+step
  .exact ⟨e,by rw [if_pos om],b5,Nat.le_refl _,λh'=>om⟩
  .refine ⟨o+step,by rw [if_neg om];omega,om,om,λh'=>?_⟩;rcases h3 with h5|h5
   .omega
   .exact h5
 obtain ⟨hi,ar,an,a4,a3⟩:=b9;rw [ar];refine Xt (fun (o hi:Nat) (st:Int)=>[(0,.pointer (some ⟨g,0,none⟩)),(3,.pointer (some ⟨b,0,none⟩)),(5,.int .i64 (o:Int)),(7,.int .i64 (hi:Int))])
  (λo hi st w'=>GrN (λk=>k=g) w w'/\ItB w' g A d L p e f h st/\Blk w' b 47 v.cells/\p<=o/\cmpV (val o) v<0/\o<hi/\hi<=e/\(hi<e->¬ cmpV (val hi) v<0)) (λo hi _=>hi-o) o hi aa sB
  ⟨Z,a1,a7,ad,a2,an,a4,a3⟩ ?_
 clear Z a1 a7 ad b5 a2 b8 b7 h3 an a4 a3 ar;rintro C G av w7 ⟨ae,ag,a6,ad,a2,an,a4,a3⟩;refine ρ ?_;refine ci (λJ=>?_) (λJ=>?_)
 .have bf:C+1<G:=by have:=oT J;omega
  refine ρ ?_;refine qn (G-C) 2 ?_;refine ρ ?_;have be:C<C+(G-C) / 2/\C+(G-C) / 2<G:=om
  generalize hmm:(G-C) / 2=m at *
  refine lds (cs:=v.cells) (λj u hu=>a6.at hu) ?_;refine ρ ?_;refine cl (Jfv (q:=C+m) (qi:=(C:Int)+(m:Int)) ag (hT.gr ae) hL hLd hd om om) ?_;rintro u w8 ⟨rfl,U,au,a9⟩;refine ρ ?_;rw [ab];refine ci (λh2=>?_) (λh2=>?_)
  .refine ρ ?_;exact Xj (C+m) G au sO ⟨ae.trans U,a9,Jc a6 U ac,om,of_decide_eq_true h2,om,a4,a3⟩ om
  .refine ρ ?_;exact Xj C (C+m) au sO ⟨ae.trans U,a9,Jc a6 U ac,ad,a2,om,om,λ_=>oF h2⟩ om
 .have ar:G=C+1:=by have:=oF J;omega
  refine ρ ?_;refine sto (p:=⟨g,2,none⟩) (ag.cell 2) (ag.frozen _) ?_;have a9:ItB (w7.setCell ⟨g,2,none⟩ (.int .i64 (G:Int))) g A d L G e f h av:=ag.set 2 (.int .i64 (G:Int));have U:GrN (λk=>k=g) w (w7.setCell ⟨g,2,none⟩ (.int .i64 (G:Int))):=ae.trans (GrN.set _ rfl);refine ρ ?_;refine cl (Jqw a9) ?_;rintro u w9 ⟨rfl,ax⟩;refine ρ ?_;refine Jj ⟨U.trans (GrN.ext ax),G,av,?_,om,a4,λi J h2=>below J (show i<=C by omega) om a2,a3,a9.ext ax⟩;congr 1
  exact decide_eq_decide.2 ⟨λh'=>h'.2,λh'=>⟨hL,h'⟩⟩
end
open Go.RowKit Pl Go.Wk
variable {j:Nat}{u:Value}
theorem Qwh: Qu Tryz.prog 300=some (.agg #[.int .i64 0,.int .i64 0]):=kr
theorem Qzf(x y:Int)(w:World): (Instr.build 300 #[(0,.int .i64 x),(1,.int .i64 y)]).run Tryz.prog w=.ok (.agg #[.int .i64 x,.int .i64 y]) w:=kr
theorem Jvw{x y:Int}: ∀ u∈[Value.int .i64 x,.int .i64 y],u.oneCell'=true:=by intro u o;simp at o;rcases o with rfl|rfl<;>rfl
section
variable {w:World} {g:Nat} {A:Option Addr} {d L p e:Nat} {f h:Nat->Nat} {st:Int} {rs:List Row}
theorem Jmq(w:World): Ret Tryz.prog 227 [.agg #[.slice A d d]] w λu w'=>u=.int .i64 (d:Int)/\Ext w w':=by
 refine Jz Tryz.func227 Tryz.ntmps227 rfl kr rfl ?_;refine ρ ?_;refine bx ?_;intro G b o J C;refine ρ ?_;refine ld (C.at (i:=0) rfl) ?_;refine ρ ?_;exact Jj ⟨rfl,o⟩
def Yd(rs:List Row)(L p:Nat): Row:=if L=0 then [] else (pfx rs L).getD p []
theorem Jft(hB:ItB w g A d L p e f h st)(hu:[Value.slice A d d][j]?=some u): w.cell? (((⟨g,0,none⟩:Addr).add 0).add j)=some u:=by
 match j,hu with
 | 0,hu=>rw [add_zero,add_zero,hB.cell];exact hu
 | j+1,hu=>simp at hu
theorem it_at(hB:ItB w g A d L p e f h st)(hu:[Value.int .i64 (p:Int),.int .i64 (e:Int)][j]?=some u): w.cell? (((⟨g,0,none⟩:Addr).add 2).add j)=some u:=by
 match j,hu with
 | 0,hu=>rw [add_zero,Vo,hB.cell];exact hu
 | 1,hu=>rw [Vo,Vo,hB.cell];exact hu
 | j+2,hu=>simp at hu
theorem Qlw(hB:ItB w g A d L p e f h st)(hT:Off (λk=>k=g) w (λu=>TriA u A d rs))(hLd:L<d)(hd:d<=32)(hpe:0<L->p<e/\e<=(pfx rs L).length)(hrs:rs≠[])(hsrt:Srt [] rs)(hm:rs.length<=1000000)(hlen:∀ r∈rs,r.length=d):
  Ret Tryz.prog 216 [.pointer (some ⟨g,0,none⟩)] w λu w'=>u=.bool true/\GrN (λk=>k=g) w w'/\∃ lo hi,lo<hi/\hi<=(pfx rs (L+1)).length/\(∀ i,i<(pfx rs (L+1)).length->(((pfx rs (L+1)).getD i []).take L=Yd rs L p↔lo<=i/\i<hi))/\ItB w' g A d (L+1) lo hi (upd f L p) (upd h L e) st:=by
 refine Jz Tryz.func216 Tryz.ntmps216 rfl kr rfl ?_;refine ρ ?_;refine Qws [(0,.pointer (some ⟨g,0,none⟩)),(30,.bool false)] (λw'=>Ext w w') ?_ ?_
 .refine dr [(0,0),(0,1),(0,2),(0,3),(0,4),(0,5),(0,6),(0,7),(0,8),(0,9),(1,10),(0,11),(0,12),(0,13),(0,14),(0,15),(0,16),(0,17),(0,18),(0,19),(0,20),(0,21),(0,22),(1,23),(0,24),(0,25)] kr ?_;have O:Ext w w.drew:=(Ext.refl w).drew;have G:=hB.ext O;refine ρd ?_;refine dpnl ?_;refine ρd ?_;refine dld (G.at (i:=1) rfl) ?_;refine ρd ?_;have rest:∀ (al:AL) (w2:World),True:=λ_ _=>trivial;refine dki 13 (λh1=>?_) (λh1=>?_)
  .have C:0<L:=by have:=oT h1;omega
   refine ρd ?_;refine dcl (Jqw G) ?_;rintro u w2 ⟨rfl,Z⟩;refine ⟨Z,?_⟩;have av:=G.ext Z;refine ρd ?_;refine dkf 19 ?_ ?_
   .have:=hpe C;simp [C,this.1]
   refine ρd ?_;refine dld (av.at (i:=1) rfl) ?_;refine ρd ?_;refine Qz (cs:=[.slice A d d]) (λj u hu=>Jft av hu) ?_;refine ρd ?_;refine dcl (Jmq _) ?_;rintro u w3 ⟨rfl,U⟩;refine ⟨U,?_⟩;refine ρd ?_;refine ρ ?_;refine Jrd (Sub.cons rfl (Sub.cons ?_ Sub.nil)) ((O.trans Z).trans U);exact congrArg (λz=>some (Value.bool z)) (dF om)
  .have C:L=0:=by have:=oF h1;omega
   refine ρd ?_;refine dld (G.at (i:=1) rfl) ?_;refine ρd ?_;refine Qz (cs:=[.slice A d d]) (λj u hu=>Jft G hu) ?_;refine ρd ?_;refine dcl (Jmq _) ?_;rintro u w3 ⟨rfl,U⟩;refine ⟨U,?_⟩;refine ρd ?_;refine ρ ?_;refine Jrd (Sub.cons rfl (Sub.cons ?_ Sub.nil)) (O.trans U);exact congrArg (λz=>some (Value.bool z)) (dF om)
 intro w1 ab;have a3:=hB.ext ab;obtain ⟨vv,fv,fs,hR,hv,hf,hc⟩:=(hT.ext ab).here;have be:(pfx rs (L+1)).length<=1000000:=by
  have:=Jkw (rs.map (List.take (L+1)));rw [List.length_map]at this;exact nL this hm
 refine ρ ?_;refine lds (cs:=[.slice A d d]) (λj u hu=>Jft a3 hu) ?_;refine ρ ?_;refine cl (Jcb (l:=0) (vs:=lvl rs) hR (λl hl=>by obtain ⟨B,c,e,_⟩:=hv l hl;exact ⟨B,c,e⟩) rfl hd) ?_;rintro u w2 ⟨rfl,Z⟩;rw [if_pos (show 0<d by omega),Jxd];refine ρ ?_;refine bld (Qzf _ _ _) ?_;refine ρ ?_;refine alc Qwh ?_;intro w3 b U hb b7;refine ρ ?_;refine stb b7 ?_ (Jvw (x:=0) (y:=((pfx rs (0+1)).length:Int)));intro w4 a6 b2 ae;have a1:Ext w1 w4:=(Z.trans (ae w2 U hb));have au:=a3.ext a1;have ay:b≠g:=by have:=a3.lt;have:=Z.size;omega
 refine ρ ?_;refine ld (au.at (i:=1) rfl) ?_;refine ρ ?_;refine Ik (fun (lo hi:Nat)=>[(0,.pointer (some ⟨g,0,none⟩)),(3,.pointer (some ⟨b,0,none⟩))])
  (λlo hi w'=>Ext w1 w'/\Blk w' b 300 [.int .i64 (lo:Int),.int .i64 (hi:Int)]/\hi<=(pfx rs (L+1)).length/\∀ i,i<(pfx rs (L+1)).length->(((pfx rs (L+1)).getD i []).take L=Yd rs L p↔lo<=i/\i<hi)) ?_ ?_
 .refine ci (λh1=>?_) (λh1=>?_)
  .have C:0<L:=by have:=oT h1;omega
   obtain ⟨k,rfl⟩:∃ k,L=k+1:=⟨L-1,om⟩;have lk:k<d:=om
   obtain ⟨bc,bb⟩:=hpe C;obtain ⟨F,fc,b3,b6⟩:=hf k lk;have a8:=hc k om;obtain ⟨c1,c2,c3⟩:=a8;have bd:p<=1000000:=by
    have:=Jkw (rs.map (List.take (k+1)));rw [List.length_map]at this;have h4:(pfx rs (k+1)).length<=rs.length:=this;omega
   have lp:p<(fs k).length:=om
   have a7:p+1<(fs k).length:=om
   refine ρ ?_;refine drN (λ_=>False) 10 [(0,0),(0,1),(0,2),(0,3),(0,4),(0,5),(0,6),(0,7),(0,8),(0,9),(0,10),(0,11),(0,12),(0,13)] kr ?_;have a5:=a1.drew;have G:=a3.ext a5;have ak:=hR.ext a5;have b5:w4.drew.cell? ((adr A (k*2)).add 1)=some (fv k):=by rw [Xg];exact ak.cell (Kk d vv fv lk).2
   refine ρn ?_;refine nld (Jm (G.at (i:=0) rfl) (λe=>e)) ?_;refine ρn ?_;refine nld (Jm (G.at (i:=1) rfl) (λe=>e)) ?_;refine ρn ?_;refine Vr 2 k ak lk ?_;refine ρn ?_;refine nld (Jm b5 (λe=>e)) ?_;rw [b3];refine ρn ?_;refine ρ ?_;refine drN (λ_=>False) 10 [(0,0),(0,1),(0,2),(0,3),(0,4),(0,5),(0,6),(0,7),(0,8),(0,9),(0,10),(0,11),(0,12),(0,13),(0,14),(0,15),(0,16),(1,17),(2,18)] kr ?_;have a4:=a5.drew;have am:=a3.ext a4;have a9:=b6.ext a4;have an:=(a6.ext (Ext.refl w4).drew).ext (Ext.refl w4.drew).drew;refine ρn ?_;refine nld (Jm (am.at (i:=2) rfl) (λe=>e)) ?_;refine ρn ?_;refine nix p a9 lp ?_;refine ρn ?_;refine nld (Jm (a9.cell (Xn lp)) (λe=>e)) ?_;refine ρn ?_;refine nld (Jm (am.at (i:=2) rfl) (λe=>e)) ?_;refine ρn ?_;refine nix (p+1) a9 a7 ?_;refine ρn ?_;refine nld (Jm (a9.cell (Xn a7)) (λe=>e)) ?_;refine ρn ?_;refine nop ?_
   refine bld (Qzf _ _ _) ?_;refine ρ ?_;refine Js (GrN.refl _ _) ?_;refine ρn ?_;refine Xd ?_;refine stb an ?_ (Jvw (x:=(((fs k).getD p 0:Nat):Int)) (y:=(((fs k).getD (p+1) 0:Nat):Int)));intro w5 J bf aw;refine ρ ?_;refine Za ((fs k).getD p 0) ((fs k).getD (p+1) 0) sB ⟨aw w1 a4 (nL Z.size hb),J,c2 _ a7,λi hi=>?_⟩;rw [c3 p i a7 hi |>.symm,Yd,if_neg om]
  .have C:L=0:=by have:=oF h1;omega
   subst C;refine ρ ?_;refine Za 0 (pfx rs (0+1)).length sB ⟨a1,a6,Nat.le_refl _,λi hi=>?_⟩;rw [Yd,if_pos rfl,List.take_zero];exact ⟨λ_=>⟨Nat.zero_le _,hi⟩,λ_=>rfl⟩
 clear b2 ae au a1 a6;rintro lo hi w5 ⟨aa,J,ax,a8⟩;have ac:lo<hi:=by
  have b4:∃ i,i<(pfx rs (L+1)).length/\((pfx rs (L+1)).getD i []).take L=Yd rs L p:=by
   have hr:∃ r∈rs,r.take L=Yd rs L p:=by
    by_cases C:L=0
    .subst C;obtain ⟨r,hr⟩:=List.exists_mem_of_ne_nil rs hrs;exact ⟨r,hr,by rw [Yd,if_pos rfl,List.take_zero]⟩
    .have:=hpe om;rw [Yd,if_neg C];exact (Jqr hsrt).1 (getD_mem' [] _ om)
   obtain ⟨r,hr,er⟩:=hr;obtain ⟨i,hi,ei⟩:=List.getElem_of_mem ((Jqr hsrt (l:=L+1)).2 ⟨r,hr,rfl⟩);refine ⟨i,hi,?_⟩;rw [Jp [] _ hi,ei,List.take_take,Nat.min_eq_left om,er]
  obtain ⟨i,hi,ei⟩:=b4;have:=(a8 i hi).1 ei;omega
 have ba:=a3.ext aa;refine ρ ?_;refine ld (J.at (i:=0) rfl) ?_;refine ρ ?_;refine ld (J.at (i:=1) rfl) ?_;refine ρ ?_;refine cf ?_ ?_
 .exact Jzb om
 refine ρ ?_;refine drN (λ_=>False) 10 [(0,0),(0,1),(0,2),(0,3),(0,4),(0,5),(0,6),(0,7),(0,8),(0,9),(0,10),(0,11),(2,12)] kr ?_;have O:Ext w5 w5.drew:=(Ext.refl w5).drew;have ad:=ba.ext O;have ap:=J.ext O;refine ρn ?_;refine nld (Jm (ad.at (i:=1) rfl) (λe=>e)) ?_;refine ρn ?_;refine Xw (cs:=[.int .i64 (p:Int),.int .i64 (e:Int)]) (λw' hg j u hu=>it_at (Jc ad hg (λe=>e)) hu) ?_;refine ρn ?_;refine nixa L (show L<32 by omega) ?_;refine ρn ?_;refine Xd ?_;have af:=seg2 (cs:=itC A d L p e f h st) (o:=4+L*2) (u:=.int .i64 (p:Int)) (v:=.int .i64 (e:Int)) (by rw [Jyh];omega);refine stB (o:=4+L*2) (us:=[.int .i64 (p:Int),.int .i64 (e:Int)]) ad (by rw [Jyh];simp only [List.length_cons,List.length_nil];omega) Jvw ?_ (hp:=(Vo g (0+4) (L*2)).trans (by rw [Nat.zero_add]));intro w7 ar aj;have aq:ItB w7 g A d L p e (upd f L p) (upd h L e) st:=by
  have e1:(itC A d L p e f h st).take (4+L*2)++[Value.int .i64 (p:Int),.int .i64 (e:Int)]++(itC A d L p e f h st).drop (4+L*2+[Value.int .i64 (p:Int),.int .i64 (e:Int)].length)=itC A d L p e (upd f L p) (upd h L e) st:=by
   rw [<-Qmb A d L p e f h st (show L<32 by omega) p e];exact af
  rw [e1]at ar;exact ar
 have ao:=ap.grown aj (λe=>ay (by injection e));have ai:GrN (λk=>k=g) w w7:=(GrN.ext ((ab.trans aa).trans O)).trans (GrN.by aj λk e=>by injection e with e;exact e.symm);refine ρ ?_;refine ldW ao ?_;refine ρ ?_;refine stB (o:=2) (us:=[.int .i64 (lo:Int),.int .i64 (hi:Int)]) aq (by rw [Jyh];simp) Jvw ?_;intro w8 b9 b1;have a2:ItB w8 g A d L lo hi (upd f L p) (upd h L e) st:=b9;have ah:=ai.trans (GrN.by b1 λk e=>by injection e with e;exact e.symm);refine ρ ?_;refine ld (a2.at (i:=1) rfl) ?_;refine ρ ?_;refine sto (p:=⟨g,1,none⟩) (a2.cell 1) (a2.frozen _) ?_;have b8:ItB (w8.setCell ⟨g,1,none⟩ (.int .i64 ((L:Int)+1))) g A d (L+1) lo hi (upd f L p) (upd h L e) st:=a2.set 1 (.int .i64 ((L:Int)+1));have ag:GrN (λk=>k=g) w (w8.setCell ⟨g,1,none⟩ (.int .i64 ((L:Int)+1))):=ah.trans (GrN.set _ rfl);refine ρ ?_;exact Jj ⟨rfl,ag,lo,hi,ac,ax,a8,b8⟩
end
open Go.RowKit Pl Go.Wk
variable {I:List Nat}{a i k:Nat}
def gtN(U:List V)(key:V): Nat:=(U.filter λy=>decide (cmpV key y<0)).length
theorem Qmw(U:List V)(key:V): gtN U key<=U.length:=List.length_filter_le _ _
theorem Qjf: ∀ {U:List V} {key key':V},key'∈U->cmpV key key'<0->gtN U key'<gtN U key
 | [],_,_,h,_=>by cases h
 | x::U,key,key',h,hlt=>by
  have mono:∀ U:List V,gtN U key'<=gtN U key:=λU=>by
   induction U with
   | nil=>exact Nat.le_refl _
   | cons y U ih=>
    unfold gtN at *;by_cases e:cmpV key' y<0
    .have:=cmp_V.lt_trans hlt e;rw [List.filter_cons_of_pos (by simpa using e),List.filter_cons_of_pos (by simpa using this)];simp only [List.length_cons];omega
    .rw [List.filter_cons_of_neg (by simpa using e)];by_cases e2:cmpV key y<0
     .rw [List.filter_cons_of_pos (by simpa using e2)];simp only [List.length_cons];omega
     .rw [List.filter_cons_of_neg (by simpa using e2)];exact ih
  rcases List.mem_cons.1 h with rfl|h'
  .have:=mono U;unfold gtN at *;rw [List.filter_cons_of_neg (by rw [Zh];simp),List.filter_cons_of_pos (by simpa using hlt)];simp only [List.length_cons];omega
  .have ih:=Qjf h' hlt;unfold gtN at *;by_cases e:cmpV key' x<0
   .have:=cmp_V.lt_trans hlt e;rw [List.filter_cons_of_pos (by simpa using e),List.filter_cons_of_pos (by simpa using this)];simp only [List.length_cons];omega
   .rw [List.filter_cons_of_neg (by simpa using e)];by_cases e2:cmpV key x<0
    .rw [List.filter_cons_of_pos (by simpa using e2)];simp only [List.length_cons];omega
    .rw [List.filter_cons_of_neg (by simpa using e2)];exact ih
structure Fix where
 G: Nat->Nat
 A:Nat->Option Addr
 d:Nat->Nat
 rs:Nat->List Row
structure Lev where
 L: Nat->Nat
 lo:Nat->Nat
 e:Nat->Nat
 f:Nat->Nat->Nat
 h:Nat->Nat->Nat
def Fix.val(F:Fix)(V':Lev)(i a:Nat): V:=(lvl (F.rs i) (V'.L i-1)).getD a V0
def Jqp(F:Fix)(I:List Nat): List Value:=I.map λi=>.pointer (some ⟨F.G i,0,none⟩)
theorem Jqn{F:Fix}(h:k<I.length): (Jqp F I)[k]?=some (.pointer (some ⟨F.G (I.getD k 0),0,none⟩)):=by simp [Jqp,List.getD,List.getElem?_eq_getElem h]
structure OnS(F:Fix)(V':Lev)(I:List Nat): Prop where
 lev:∀ i∈I,0<V'.L i/\V'.L i<=F.d i/\F.d i<=32
 rng:∀ i∈I,V'.e i<=(lvl (F.rs i) (V'.L i-1)).length/\V'.e i<=1000000
 srt:∀ i∈I,∀ a b,V'.lo i<=a->a<b->b<V'.e i->cmpV (F.val V' i a) (F.val V' i b)<0
 inj:∀ i∈I,∀ j∈I,F.G i=F.G j->i=j
 len:I.length<=32
def NG(F:Fix)(I:List Nat)(J:Nat)(k:Nat): Prop:=k=J∨∃ i∈I,k=F.G i
def Its(F:Fix)(V':Lev)(I:List Nat)(w:World)(p:Nat->Nat): Prop:=∀ i∈I,∃ st,ItB w (F.G i) (F.A i) (F.d i) (V'.L i) (p i) (V'.e i) (V'.f i) (V'.h i) st
def Cmn(F:Fix)(V':Lev)(I:List Nat)(y:V): Prop:=∀ i∈I,∃ a,V'.lo i<=a/\a<V'.e i/\F.val V' i a=y
def JB(w:World)(J:Nat)(jr ja yv:Value): Prop:=∃ st:Int,Blk w J 281 [jr,ja,.int .i64 st,yv]
def Jjr(F:Fix)(V':Lev)(I:List Nat): List V:=I.flatMap λi=>(List.range (V'.e i-V'.lo i)).map λa=>F.val V' i (V'.lo i+a)
theorem Xqb{F:Fix}{V':Lev}(hi:i∈I)(h1:V'.lo i<=a)(h2:a<V'.e i): F.val V' i a∈Jjr F V' I:=by
 refine List.mem_flatMap.2 ⟨i,hi,List.mem_map.2 ⟨a-V'.lo i,List.mem_range.2 om,?_⟩⟩;congr 1;omega
theorem Qkj{F:Fix}{V':Lev}: ∀ {I:List Nat},(∀ i∈I,V'.e i<=1000000)->(Jjr F V' I).length<=I.length*1000000
 | [],_=>Nat.le_refl _
 | i::I,h=>by
  have ih:=Qkj (F:=F) (V':=V') (I:=I) (λj hj=>h j (List.mem_cons_of_mem _ hj));have h1:=h i (mC ..);simp only [Jjr,List.flatMap_cons,List.length_append,List.length_map,List.length_range,List.length_cons]at ih ⊢;omega
theorem Qrn{a b c:V}(h1:cmpV a b<=0)(h2:cmpV b c<=0): cmpV a c<=0:=cmp_V.trans a b c h1 h2
theorem Qyn(k n:Nat): (k:Int).tmod (n:Int)=((k % n:Nat):Int):=by rw [Int.tmod_eq_emod_of_nonneg om];rfl
open Go.RowKit Pl Go.Wk
variable {J b c i j k n r s:Nat}{w w' w'':World}
theorem _root_.Go.Wk.GrN.newBy{N:Nat->Prop}(h:GrN N w w')(hg:w'.grownBy w'' (some b))(hb:w.heap.size<=b): GrN N w w'' :=
 ⟨hg.os.trans h.os,hg.tape.trans h.tape,hg.output.trans h.output,Nat.le_trans h.size hg.size,λk o hn=>(hg.block k (nM o h.size) (λe=>by injection e with e;omega)).trans (h.block k o hn)⟩
theorem Jsf{α:Type}{l:List α}(h:l.Nodup)(hi:i<l.length)(hj:j<l.length)(e:l[i]=l[j]): i=j:=by
 have o:=List.pairwise_iff_getElem.1 h;rcases Nat.lt_trichotomy i j with h1|h1|h1
 .exact absurd e (o i j hi hj h1)
 .exact h1
 .exact absurd e.symm (o j i hj hi h1)
theorem Qhf(h1:1<=s)(h2:s<n)(h3:s<=k): (k-s) % n≠k % n:=by
 intro e;have C:(k-s+s) % n=(k-s) % n:=by rw [Nat.sub_add_cancel h3];exact e.symm
 have o:((k-s) % n+s) % n=(k-s) % n:=by rw [Nat.mod_add_mod];exact C
 generalize hx:(k-s) % n=x at *
 have u:x<n:=by rw [<-hx];exact Nat.mod_lt _ om
 rcases Nat.lt_or_ge (x+s) n with h6|h6
 .rw [Nat.mod_eq_of_lt h6]at o;omega
 .rw [Nat.mod_eq_sub_mod h6,Nat.mod_eq_of_lt om]at o;omega
theorem Qhg(hr:r<n)(hk:n<=k): ∃ s,1<=s/\s<=n/\(k-s) % n=r:=by
 have G:k % n<n:=Nat.mod_lt _ om;have u:=Nat.div_add_mod k n;by_cases h:r<k % n
 .refine ⟨k % n-r,om,om,?_⟩;have:k-(k % n-r)=n*(k / n)+r:=om
  rw [this,Nat.mul_add_mod,Nat.mod_eq_of_lt hr]
 .refine ⟨k % n+n-r,om,om,?_⟩;have C:1<=k / n:=(Nat.one_le_div_iff om).2 hk;obtain ⟨q,o⟩:∃ q,k / n=q+1:=⟨k / n-1,om⟩;rw [o,Nat.mul_succ]at u;have:k-(k % n+n-r)=n*q+r:=om
  rw [this,Nat.mul_add_mod,Nat.mod_eq_of_lt hr]
theorem Jsp{F:Fix}{V':Lev}{I:List Nat}{p:Nat->Nat}{jr ja yv:Value}{B:Option Addr}(hO:OnS F V' I)(hne:0<I.length)(hnd:I.Nodup)(hIts:Its F V' I w p)(hJ:JB w J jr ja yv)(hJG:∀ i∈I,F.G i≠J)(hT:∀ i∈I,Off (NG F I J) w (λu=>TriA u (F.A i) (F.d i) (F.rs i)))(hB:Off (NG F I J) w (λu=>Rd u 1 B I.length (Jqp F I)))(hp:∀ i∈I,V'.lo i<=p i/\p i<V'.e i)(hK:∀ i∈I,∀ a,V'.lo i<=a->a<p i->cmpV (F.val V' i a) (F.val V' (I.getD 0 0) (p (I.getD 0 0)))<0):
  Ret Tryz.prog 217 [.pointer (some ⟨J,0,none⟩),.slice B I.length c] w λu w'=>GrN (NG F I J) w w'/\JB w' J jr ja yv/\∃ p' t,u=.bool t/\Its F V' I w' p'/\(∀ i∈I,V'.lo i<=p' i/\p' i<=V'.e i) /\
   (t=true->∃ x,(∀ i∈I,p' i<V'.e i/\F.val V' i (p' i)=x)/\cmpV (F.val V' (I.getD 0 0) (p (I.getD 0 0))) x<=0/\∀ y,Cmn F V' I y->cmpV (F.val V' (I.getD 0 0) (p (I.getD 0 0))) y<=0->cmpV x y<=0) /\
   (t=false->∀ y,Cmn F V' I y->¬ cmpV (F.val V' (I.getD 0 0) (p (I.getD 0 0))) y<=0):=by
 have ab:I.getD 0 0∈I:=getD_mem' 0 I hne;obtain ⟨K0,b4⟩:∃ K0,K0=F.val V' (I.getD 0 0) (p (I.getD 0 0)):=⟨_,rfl⟩;rw [<-b4]at hK ⊢;have cn:=hO.len;have aq:∀ i∈I,F.G i<w.heap.size:=λi hi=>by obtain ⟨st,C⟩:=hIts i hi;exact C.lt
 have bp:J<w.heap.size:=by obtain ⟨st,C⟩:=hJ;exact C.lt
 refine Jz Tryz.func217 Tryz.ntmps217 rfl kr rfl ?_;refine ρ ?_;refine ix 0 hB.here hne ?_;refine ρ ?_;refine ld (hB.here.cell (Jqn hne)) ?_;refine ρ ?_;obtain ⟨cv,bt⟩:=hIts _ ab;have aj:=hO.lev _ ab;have b1:=hp _ ab;have c5:=hO.rng _ ab;refine cl (Jfw bt (hT _ ab).here aj.2.1 aj.2.2 (λ_=>c5.1)) ?_;rintro u w1 ⟨be,v,rfl,hv⟩;have c4:=hv ⟨aj.1,b1.2⟩;have c3:v=K0:=by rw [c4,b4];rfl
 subst c3;rw [decide_eq_true (show 0<V'.L (I.getD 0 0)/\p (I.getD 0 0)<V'.e (I.getD 0 0) from ⟨aj.1,b1.2⟩)];refine ρ ?_;refine alc (cs:=V0.cells) Uu ?_;intro w2 bk bd b2 bv;refine ρ ?_;refine stb (cs':=v.cells) bv ?_ (V.one _);intro w3 au ce bc;have am:Ext w1 w3:=bc w1 bd b2;have a6:=be.trans am;have bj:w.heap.size<=bk:=nL be.size b2;refine ρ ?_;refine Jqc (fun (same k:Nat) (key:V) (p:Nat->Nat)=>[(0,.pointer (some ⟨J,0,none⟩)),(1,.slice B I.length c),(5,.pointer (some ⟨bk,0,none⟩)),(7,.int .i64 (same:Int)),(8,.int .i64 (k:Int))])
  (λsame k key p w'=>GrN (NG F I J) w w'/\JB w' J jr ja yv/\Its F V' I w' p/\Blk w' bk 47 key.cells/\(∀ i∈I,V'.lo i<=p i/\p i<V'.e i)/\(∀ i∈I,∀ a,V'.lo i<=a->a<p i->cmpV (F.val V' i a) key<0)/\cmpV v key<=0/\(∀ y,Cmn F V' I y->cmpV v y<=0->cmpV key y<=0) /\
   1<=same/\same<=I.length/\same<=k/\k+(gtN (Jjr F V' I) key*33+(I.length-same))<=2000000000/\(∀ s,1<=s->s<=same->F.val V' (I.getD ((k-s) % I.length) 0) (p (I.getD ((k-s) % I.length) 0))=key)) (λsame k key p=>gtN (Jjr F V' I) key*33+(I.length-same)) 1 1 v p sB
  ⟨GrN.ext a6,?_,λi hi=>?_,au,hp,hK,by rw [Zh];omega,λy _ h'=>h',Nat.le_refl _,hne,Nat.le_refl _,?_,λs C h2=>?_⟩ ?_
 .obtain ⟨st,hJ⟩:=hJ;exact ⟨st,hJ.ext a6⟩
 .obtain ⟨st,hI⟩:=hIts i hi;exact ⟨st,hI.ext a6⟩
 .have C:=Qmw (Jjr F V' I) v;have h2:=Qkj (F:=F) (V':=V') (I:=I) (λi hi=>(hO.rng i hi).2);omega
 .have:s=1:=om
  subst this;rw [Nat.sub_self,Nat.zero_mod];exact b4.symm
 clear au ce bc bv am a6 bd b2 hJ hIts hp hK bt b1;rintro same k key p w4 ⟨ak,⟨sj,br⟩,a4,ar,a2,b3,ax,a8,cy,cx,cw,d4,bf⟩;refine ρ ?_;refine ci (λC=>?_) (λC=>?_)
 .have d1:same<I.length:=by have:=oT C;omega
  clear C;have c1:=hB w4 ak;refine ρ ?_;refine rem (show ((I.length:Nat):Int)≠0 by omega) ?_;rw [Qyn];have lr:k % I.length<I.length:=Nat.mod_lt _ hne;refine ρ ?_;refine ix (k % I.length) c1 lr ?_;refine ρ ?_;refine ld (c1.cell (Jqn lr)) ?_;refine ρ ?_;obtain ⟨i,hi⟩:∃ i,i=I.getD (k % I.length) 0:=⟨_,rfl⟩;rw [<-hi];have o:i∈I:=by rw [hi];exact getD_mem' 0 I lr
  refine lds (cs:=key.cells) (λj u hu=>ar.at hu) ?_;refine ρ ?_;obtain ⟨cr,ch⟩:=a4 i o;have a3:=hO.lev i o;have ay:=hO.rng i o;have c9:=a2 i o;have bo:Off (λk=>k=F.G i) w4 (λu=>TriA u (F.A i) (F.d i) (F.rs i)):=((hT i o).gr ak).mono λj _ ej=>.inr ⟨i,o,ej⟩;refine cl (Qlv (v:=key) ch bo a3.1 a3.2.1 a3.2.2 c9.2 ay.1 ay.2 (λa b C h2 h3=>hO.srt i o a b om h2 h3)) ?_;rintro u w5 ⟨ae,q,c2,rfl,d0,cz,c8,c7,bs⟩;have cj:∀ j∈I,j≠i->¬ (λk=>k=F.G i) (F.G j):=λj hj cb e=>cb (hO.inj j hj i o e);have bh:GrN (NG F I J) w4 w5:=ae.mono λj _ ej=>.inr ⟨i,o,ej⟩;have ah:Its F V' I w5 (upd p i q):=λj hj=>by
   by_cases e:j=i
   .subst e;rw [Jg];exact ⟨c2,bs⟩
   .rw [Jy _ _ e];obtain ⟨st,a5⟩:=a4 j hj;exact ⟨st,Jc a5 ae (cj j hj e)⟩
  have bq:=Jc br ae (λe=>hJG i o e.symm);have bm:¬ (λk=>k=F.G i) bk:=λe=>by have C:=aq i o;omega
  have bu:=Jc ar ae bm;have ad:=ak.trans bh;have O:∀ a,V'.lo i<=a->a<q->cmpV (F.val V' i a) key<0:=λa C h2=>by
   by_cases h3:a<p i
   .exact b3 i o a C h3
   .exact c8 a om h2
  refine ρ ?_;refine ci (λC=>?_) (λC=>?_)
  .have aa:¬ q<V'.e i:=by simpa using C
   refine ρ ?_;refine Jj ⟨ad,⟨sj,bq⟩,upd p i q,false,rfl,ah,λj hj=>?_,λe=>(by cases e),λ_ y hy aw=>?_⟩
   .by_cases e:j=i
    .subst e;rw [Jg];omega
    .rw [Jy _ _ e];have:=a2 j hj;omega
   .obtain ⟨a,h2,h3,h4⟩:=hy i o;have h5:=a8 y hy aw;have h6:=O a h2 om;rw [h4]at h6;have:=cmp_V.anti key y;omega
  have aa:q<V'.e i:=by simpa using C
  have c6:=c7 aa;clear C;refine ρ ?_;refine cl (Jfw bs (bo w5 ae) a3.2.1 a3.2.2 (λ_=>ay.1)) ?_;rintro u w6 ⟨av,nx,rfl,ca⟩;have a1:nx=F.val V' i q:=ca ⟨a3.1,aa⟩;rw [decide_eq_true (show 0<V'.L i/\q<V'.e i from ⟨a3.1,aa⟩)];refine ρ ?_;refine alc (cs:=V0.cells) Uu ?_;intro w7 b7 bb bn c0;refine ρ ?_;refine stb (cs':=nx.cells) c0 ?_ (V.one _);intro w8 bz cd ba;have a7:Ext w5 w8:=av.trans (ba w6 bb bn);have ag:=bq.ext a7;refine ρ ?_;refine ld (ag.at (i:=2) rfl) ?_;refine ρ ?_;refine sto (p:=⟨J,2,none⟩) (ag.cell 2) (ag.frozen _) ?_;have cg:=ag.set 2 (.int .i64 (IntKind.i64.wrap (sj+1)));have cc:GrN (NG F I J) w8 (w8.setCell ⟨J,2,none⟩ (.int .i64 (IntKind.i64.wrap (sj+1)))):=GrN.set _ (.inl rfl);have co:w.heap.size<=b7:=nL ad.size (nL av.size bn);have bw:Blk (w8.setCell ⟨J,2,none⟩ (.int .i64 (IntKind.i64.wrap (sj+1)))) b7 47 nx.cells:=bz.far (by simp only;omega) _;have ai:Blk (w8.setCell ⟨J,2,none⟩ (.int .i64 (IntKind.i64.wrap (sj+1)))) bk 47 key.cells:=(bu.ext a7).far (by simp only;omega) _
  have b5:Its F V' I (w8.setCell ⟨J,2,none⟩ (.int .i64 (IntKind.i64.wrap (sj+1)))) (upd p i q):=λj hj=>by
   obtain ⟨st,a5⟩:=ah j hj;exact ⟨st,(a5.ext a7).far (hJG j hj) _⟩
  have ao:=(ad.trans (GrN.ext a7)).trans cc;clear cd ba bz c0 bb av ag;generalize w8.setCell ⟨J,2,none⟩ (.int .i64 (IntKind.i64.wrap (sj+1)))=w9 at *
  have bg:∀ j∈I,V'.lo j<=upd p i q j/\upd p i q j<V'.e j:=λj hj=>by
   by_cases e:j=i
   .subst e;rw [Jg];have:=a2 j hj;omega
   .rw [Jy _ _ e];exact a2 j hj
  refine ρ ?_;refine lds (cs:=nx.cells) (λj u hu=>bw.at hu) ?_;refine ρ ?_;refine lds (cs:=key.cells) (λj u hu=>ai.at hu) ?_;refine ρ ?_;refine cl (Jqd nx key _) ?_;rintro u b9 ⟨rfl,Z⟩;refine ρ ?_;have ap:JB b9 J jr ja yv:=⟨_,cg.ext Z⟩;have a9:Its F V' I b9 (upd p i q):=λj hj=>by
   obtain ⟨st,a5⟩:=b5 j hj;exact ⟨st,a5.ext Z⟩
  refine ci (λC=>?_) (λC=>?_)
  .have bi:nx=key:=cmp_V.zero _ _ (Xl C);refine ρ ?_;refine Gr (same+1) (k+1) key (upd p i q) sO ⟨ao.trans (GrN.ext Z),ap,a9,ai.ext Z,bg,λj hj a h2 h3=>?_,ax,a8,om,om,om,om,λs h2 h3=>?_⟩ om
   .by_cases e:j=i
    .subst e;rw [Jg]at h3;exact O a h2 h3
    .rw [Jy _ _ e]at h3;exact b3 j hj a h2 h3
   .by_cases e:s=1
    .subst e;rw [Nat.add_sub_cancel,<-hi,Jg,<-a1,bi]
    .have h4:k+1-s=k-(s-1):=om
     rw [h4];have h5:(k-(s-1)) % I.length<I.length:=Nat.mod_lt _ hne;have h6:I.getD ((k-(s-1)) % I.length) 0≠i:=λe2=>by
      rw [hi,Jp 0 I h5,Jp 0 I lr]at e2;have e3:=Jsf hnd h5 lr e2;exact Qhf (n:=I.length) (k:=k) (s:=s-1) om om om e3
     rw [Jy _ _ h6];exact bf (s-1) om om
  .have cm:=Xm C;have ac:cmpV key nx<0:=by
    have h2:=cmp_V.anti nx key;have h3:¬ cmpV nx key<0:=by rw [a1];exact c6
    omega
   have d2:=Qjf (U:=Jjr F V' I) (by rw [a1];exact Xqb o om aa) ac;have b8:=ai.ext Z;refine ρ ?_;refine lds (cs:=nx.cells) (λj u hu=>(bw.ext Z).at hu) ?_;refine ρ ?_;refine stb (cs':=nx.cells) b8 ?_ (V.one _);intro cq b6 af ck;have an:∀ {g:Nat},g<w.heap.size->some g≠some bk:=fun {g} hg e=>by injection e with e;omega
   refine ρ ?_;refine Gr 1 (k+1) nx (upd p i q) sO ⟨(ao.trans (GrN.ext Z)).newBy af bj,?_,λj hj=>?_,b6,bg,λj hj a h2 h3=>?_,?_,λy hy aw=>?_,Nat.le_refl _,hne,om,om,λs h2 h3=>?_⟩ om
   .obtain ⟨st,hJ⟩:=ap;exact ⟨st,hJ.grown af (an bp)⟩
   .obtain ⟨st,a5⟩:=a9 j hj;exact ⟨st,a5.grown af (an (aq j hj))⟩
   .by_cases e:j=i
    .subst e;rw [Jg]at h3;exact cmp_V.lt_trans (O a h2 h3) ac
    .rw [Jy _ _ e]at h3;exact cmp_V.lt_trans (b3 j hj a h2 h3) ac
   .exact Qrn ax om
   .obtain ⟨a,h2,h3,h4⟩:=hy i o;have h5:=a8 y hy aw;have h6:q<=a:=by
     rcases Nat.lt_or_ge a q with h7|h7
     .have h8:=O a h2 h7;rw [h4]at h8;have:=cmp_V.anti key y;omega
     .exact h7
    rw [a1,<-h4];by_cases e:a=q
    .subst e;rw [Zh];omega
    .have:=hO.srt i o q a om om h3;omega
   .have:s=1:=om
    subst this;rw [Nat.add_sub_cancel,<-hi,Jg];exact a1.symm
 .have d3:same=I.length:=by have:=oF C;omega
  refine ρ ?_;refine Jj ⟨ak,⟨sj,br⟩,p,true,rfl,a4,λi hi=>⟨(a2 i hi).1,Nat.le_of_lt (a2 i hi).2⟩,λ_=>⟨key,λi hi=>⟨(a2 i hi).2,?_⟩,ax,a8⟩,λe=>by cases e⟩;obtain ⟨r,hr,er⟩:=List.getElem_of_mem hi;obtain ⟨s,C,h2,h3⟩:=Qhg hr (show I.length<=k by omega);have:=bf s C om;rw [h3,Jp 0 I hr,er]at this;exact this
end Go.Proofs.YtebcagekopgdhaaGreatDoor
namespace Go.Proofs.YtebcagekopgdhaaGreatDoor
open Pl
variable {vs:List Nat}{d k l n u v:Nat}{q y z z':Row}
def Qo(vs:List Nat): Prop:=vs.Pairwise (· < ·)
def lv(vs:List Nat)(v:Nat): Nat:=(vs.filter λu=>decide (u<v)).length
theorem Jst(vs:List Nat)(v:Nat): lv vs v<=vs.length:=List.length_filter_le _ _
theorem Jkb(vs:List Nat): lv vs 0=0:=by simp [lv]
theorem Jsw(h:∀ u∈vs,u<n): lv vs n=vs.length:=by
 unfold lv;rw [List.filter_eq_self.2 (λu o=>by simpa using h u o)]
theorem Jkc(u:Nat)(vs:List Nat)(v:Nat): lv (u::vs) v=(if u<v then 1 else 0)+lv vs v:=by
 unfold lv;by_cases h:u<v
 .rw [List.filter_cons_of_pos (by simpa using h),if_pos h,List.length_cons];omega
 .rw [List.filter_cons_of_neg (by simpa using h),if_neg h];omega
theorem Jdt(h:∀ u∈vs,v<=u): lv vs v=0:=by
 unfold lv;rw [List.filter_eq_nil_iff.2 (λu o=>by have:=h u o;simp;omega)];rfl
theorem Jjg(h:v ∉ vs): lv vs (v+1)=lv vs v:=by
 induction vs with
 | nil=>rfl
 | cons u vs ih=>
  rw [Jkc,Jkc,ih (λo=>h (List.mem_cons_of_mem _ o))];have:u≠v:=λe=>h (by rw [e];exact mC ..);by_cases h1:u<v
  .rw [if_pos h1,if_pos om]
  .rw [if_neg h1,if_neg om]
theorem Vt(ha:Qo vs)(h:v∈vs): lv vs (v+1)=lv vs v+1/\lv vs v<vs.length/\vs.getD (lv vs v) 0=v:=by
 induction vs with
 | nil=>cases h
 | cons u vs ih=>
  obtain ⟨C,U⟩:=List.pairwise_cons.1 ha;rw [Jkc,Jkc];rcases List.mem_cons.1 h with rfl|h'
  .have e1:lv vs v=0:=Jdt λx o=>Nat.le_of_lt (C x o);have Z:lv vs (v+1)=0:=Jdt λx o=>C x o;rw [if_pos (show v<v+1 by omega),if_neg (show ¬ v<v by omega),e1,Z];exact ⟨rfl,by rw [List.length_cons];omega,rfl⟩
  .have O:=C v h';obtain ⟨J,i2,G⟩:=ih U h';rw [if_pos (show u<v+1 by omega),if_pos O,J];refine ⟨om,by rw [List.length_cons];omega,?_⟩;rw [Nat.add_comm 1,List.getD_cons_succ];exact G
theorem Qhr(ha:Qo vs): vs.take (lv vs v)=vs.filter λu=>decide (u<v):=by
 induction vs with
 | nil=>rfl
 | cons u vs ih=>
  obtain ⟨C,G⟩:=List.pairwise_cons.1 ha;by_cases h:u<v
  .rw [Jkc,if_pos h,Nat.add_comm 1,List.take_succ_cons,ih G,List.filter_cons_of_pos (by simpa using h)]
  .have e:lv (u::vs) v=0:=Jdt λx o=>by
    rcases List.mem_cons.1 o with rfl|h'
    .omega
    .have:=C x h';omega
   rw [e,List.take_zero,List.filter_eq_nil_iff.2];intro x o;have:v<=x:=by
    rcases List.mem_cons.1 o with rfl|h'
    .omega
    .have:=C x h';omega
   simp;omega
theorem Jmw(h:z.take v=z'.take v)(hu:u<v): z.getD u V0=z'.getD u V0:=by
 have:=congrArg (λl=>l.getD u V0) h;simp only [List.getD,List.getElem?_take,if_pos hu]at this;exact this
theorem Jdk(ha:Qo vs)(h:z.take v=z'.take v): (pmR vs z).take (lv vs v)=(pmR vs z').take (lv vs v):=by
 unfold pmR;rw [<-List.map_take,<-List.map_take,Qhr ha];exact List.map_congr_left λu o=>Jmw h (by simpa using (List.mem_filter.1 o).2)
theorem Jrn(h:k<vs.length): (pmR vs z).getD k V0=z.getD (vs.getD k 0) V0:=Jzt h
theorem Jrl(ha:Qo vs)(h:v∈vs): (pmR vs z).take (lv vs v+1)=(pmR vs z).take (lv vs v)++[z.getD v V0]:=by
 obtain ⟨_,o,u⟩:=Vt ha h;rw [Qy V0 (by rw [Qm];exact o),Jrn o,u]
theorem Qxb: ∀ (v:Nat) (z z':Row),z.take v=z'.take v->v<z.length->v<z'.length->cmpV (z.getD v V0) (z'.getD v V0)<0->Jw z z' []<0
 | 0,a::z,b::z',_,_,_,h=>by
  simp only [List.getD_cons_zero]at h;simp only [Jw];rw [if_neg om];exact h
 | v+1,a::z,b::z',h,h1,h2,h3=>by
  simp only [List.take_succ_cons,List.cons.injEq]at h;simp only [Jw];rw [if_pos (by rw [h.1];exact Zh b)];exact Qxb v z z' h.2 (by simpa using h1) (by simpa using h2) (by simpa using h3)
 | _,[],_,_,h,_,_=>by simp at h
 | _,_::_,[],_,_,h,_=>by simp at h
def Zk(n m:Nat)(vars:Nat->List Nat)(rs:Nat->List Row)(z:Row): Prop:=z.length=n/\∀ i,i<m->pmR (vars i) z∈rs i
theorem Qyt(h1:q.length=l+1)(h2:q.take l=y): q=y++[q.getD l V0]:=by
 have:=Qy V0 (l:=q) (k:=l) om;rw [List.take_of_length_le om,h2]at this;exact this
theorem Qfh{rs:List Row}(h:Srt [] rs)(hl:∀ r∈rs,r.length=d)(hld:l<=d)(hq:q∈pfx rs l): q.length=l:=by
 obtain ⟨r,o,e⟩:=(Jqr h).1 hq;rw [<-e,List.length_take,hl r o];omega
theorem Qbt(x:V): (z.set v x).take v=z.take v:=List.take_set_of_le (Nat.le_refl _)
theorem Qbw(x:V)(h:v<z.length): (z.set v x).getD v V0=x:=by rw [Jxm V0 _ _ _ _ h,if_pos rfl]
theorem Jmv(h:z.take v=z'.take v)(hu:u<=v): z.take u=z'.take u:=by
 have:=congrArg (List.take u) h;rwa [List.take_take,List.take_take,Nat.min_eq_left hu]at this
theorem Qys(h:z.take v=z'.take v)(h1:v<z.length)(h2:v<z'.length)(h3:z.getD v V0=z'.getD v V0): z.take (v+1)=z'.take (v+1):=by
 rw [Qy V0 h1,Qy V0 h2,h,h3]
open Go.RowKit Pl Go.Wk
attribute [local irreducible] WC WL QX WD WDB WP WN
variable {L' e' i k v:Nat}{f' h' p':Nat->Nat}
structure JC where
 F: Fix
 n:Nat
 m:Nat
 vars:Nat->List Nat
 J:Nat
 Ra:Option Addr
 base:Nat
 ja:Value
 yv:Value
 vat:Nat->Value
 N:Nat->Prop
def JC.I(c:JC)(v:Nat): List Nat:=(List.range c.m).filter λi=>decide (v∈c.vars i)
theorem JC.mem_I{c:JC}: i∈c.I v↔i<c.m/\v∈c.vars i:=by simp [JC.I]
theorem JC.nodup_I(c:JC)(v:Nat): (c.I v).Nodup:=List.Nodup.sublist List.filter_sublist List.nodup_range
theorem JC.len_I(c:JC)(v:Nat): (c.I v).length<=c.m:=by have:=List.length_filter_le (λi=>decide (v∈c.vars i)) (List.range c.m);rw [List.length_range]at this;exact this
def JC.rowv(c:JC): Value:=.slice c.Ra c.n c.n
abbrev JC.Ans(c:JC)(z:Row): Prop:=Zk c.n c.m c.vars c.F.rs z
def JC.NI(c:JC)(k:Nat): Prop:=k=c.J∨(∃ i,i<c.m/\k=c.F.G i)∨c.rowv.ownBlock=some k
structure JOk(c:JC): Prop where
 n32:c.n<=32
 m32:c.m<=32
 asc:∀ i,i<c.m->Qo (c.vars i)
 lt:∀ i,i<c.m->∀ u∈c.vars i,u<c.n
 d:∀ i,i<c.m->c.F.d i=(c.vars i).length
 d32:∀ i,i<c.m->c.F.d i<=32
 ne:∀ i,i<c.m->c.F.rs i≠[]
 srt:∀ i,i<c.m->Lt [] (c.F.rs i)
 len:∀ i,i<c.m->∀ r∈c.F.rs i,r.length=c.F.d i
 big:∀ i,i<c.m->(c.F.rs i).length<=65536
 inj:∀ i j,i<c.m->j<c.m->c.F.G i=c.F.G j->i=j
 gj:∀ i,i<c.m->c.F.G i≠c.J
 cov:∀ v,v<c.n->∃ i,i<c.m/\v∈c.vars i
 sub:∀ k,c.NI k->c.N k
structure JEnv(c:JC)(w:World): Prop where
 tri:∀ i,i<c.m->Off c.N w (λu=>TriA u (c.F.A i) (c.F.d i) (c.F.rs i))
 at_:∃ B cc,c.ja=.slice B c.n cc/\Off c.N w (λu=>Rd u 1 B c.n ((List.range c.n).map c.vat))
 lists:∀ v,v<c.n->∃ B cc,c.vat v=.slice B (c.I v).length cc/\Off c.N w (λu=>Rd u 1 B (c.I v).length (Jqp c.F (c.I v)))
theorem JEnv.gr{c:JC}{w w':World}(h:JEnv c w)(hg:GrN c.N w w'): JEnv c w':=by
 refine ⟨λi hi=>(h.tri i hi).gr hg,?_,λv C=>?_⟩
 .obtain ⟨B,u,e,o⟩:=h.at_;exact ⟨B,u,e,o.gr hg⟩
 .obtain ⟨B,u,e,o⟩:=h.lists v C;exact ⟨B,u,e,o.gr hg⟩
def AllIt(c:JC)(w:World)(L p e:Nat->Nat)(f h:Nat->Nat->Nat): Prop:=∀ i,i<c.m->∃ st,ItB w (c.F.G i) (c.F.A i) (c.F.d i) (L i) (p i) (e i) (f i) (h i) st
structure YC(c:JC)(Y:List Row->World->Prop)(NY:Nat->Prop): Prop where
 sub:∀ k,NY k->c.N k
 off:∀ k,NY k->¬ c.NI k
 keep:∀ l w w',Y l w->GrN c.NI w w'->Y l w'
 call:∃ fid first cap,c.yv=.func (.func fid) first cap/\∀ l w vr z,Y l w->RowV w vr z->l.length<65536->Ret Tryz.prog fid (first.toList++[vr]++cap.toList) w λr w'=>r=.bool true/\Y (l++[z]) w'/\GrN NY w w'
structure Cfg(c:JC)(Y:List Row->World->Prop)(w:World)(z:Row)(L p e:Nat->Nat)(f h:Nat->Nat->Nat)(l:List Row): Prop where
 env:JEnv c w
 its:AllIt c w L p e f h
 row:Zt w c.base c.rowv z
 zl:z.length=c.n
 jb:JB w c.J c.rowv c.ja c.yv
 y:Y l w
section
variable {c:JC} {Y:List Row->World->Prop} {NY:Nat->Prop} {w w':World} {z:Row} {L p e:Nat->Nat} {f h:Nat->Nat->Nat} {l:List Row}
theorem Cfg.ext(H:Cfg c Y w z L p e f h l)(hY:YC c Y NY)(hx:Ext w w'): Cfg c Y w' z L p e f h l :=
 ⟨H.env.gr (GrN.ext hx),λi hi=>by obtain ⟨st,o⟩:=H.its i hi;exact ⟨st,o.ext hx⟩,Jk H.row hx,H.zl,by obtain ⟨st,o⟩:=H.jb;exact ⟨st,o.ext hx⟩,hY.keep _ _ _ H.y (GrN.ext hx)⟩
theorem Cfg.rowG(H:Cfg c Y w z L p e f h l)(hi:i<c.m)(hk:c.rowv.ownBlock=some k): k≠c.F.G i:=λu=>by
 obtain ⟨st,o⟩:=H.its i hi;exact o.ne_own H.row rfl (by rw [hk,u])
theorem Cfg.rowJ(H:Cfg c Y w z L p e f h l)(hk:c.rowv.ownBlock=some k): k≠c.J:=λu=>by
 obtain ⟨st,o⟩:=H.jb;exact o.ne_own H.row rfl (by rw [hk,u])
theorem Cfg.it(H:Cfg c Y w z L p e f h l)(hok:JOk c)(hY:YC c Y NY)(hi:i<c.m)(hg:GrN (λk=>k=c.F.G i) w w'){p':Nat}{st:Int}(hI:ItB w' (c.F.G i) (c.F.A i) (c.F.d i) L' p' e' f' h' st):
  Cfg c Y w' z (upd L i L') (upd p i p') (upd e i e') (upd f i f') (upd h i h') l:=by
 have o:GrN c.NI w w':=hg.mono λk _ u=>.inr (.inl ⟨i,hi,u⟩);refine ⟨H.env.gr (o.mono λk _ O=>hok.sub k O),λj J=>?_,Jr H.row hg (λg U=>H.rowG hi U),H.zl,?_,hY.keep _ _ _ H.y o⟩
 .by_cases ej:j=i
  .subst ej;rw [Jg,Jg,Jg,Jg,Jg];exact ⟨st,hI⟩
  .rw [Jy _ _ ej,Jy _ _ ej,Jy _ _ ej,Jy _ _ ej,Jy _ _ ej];obtain ⟨st,C⟩:=H.its j J;exact ⟨st,Jc C hg (λu=>ej (hok.inj j i J hi u))⟩
 .obtain ⟨st,C⟩:=H.jb;exact ⟨st,Jc C hg (λu=>hok.gj i hi u.symm)⟩
theorem Cfg.mt(H:Cfg c Y w z L p e f h l)(hok:JOk c)(hY:YC c Y NY)(hg:GrN (NG c.F (c.I v) c.J) w w')(hJ:JB w' c.J c.rowv c.ja c.yv)(hI:Its c.F ⟨L,λ_=>0,e,f,h⟩ (c.I v) w' p'):
  Cfg c Y w' z L (λi=>if i∈c.I v then p' i else p i) e f h l:=by
 have u:GrN c.NI w w':=hg.mono λk _ o=>by
  rcases o with o|⟨i,hi,o⟩
  .exact .inl o
  .exact .inr (.inl ⟨i,(JC.mem_I.1 hi).1,o⟩)
 refine ⟨H.env.gr (u.mono λk _ O=>hok.sub k O),λj C=>?_,Jr H.row hg (λg G=>?_),H.zl,hJ,hY.keep _ _ _ H.y u⟩
 .by_cases ej:j∈c.I v
  .simp only [if_pos ej];exact hI j ej
  .simp only [if_neg ej];obtain ⟨st,U⟩:=H.its j C;refine ⟨st,Jc U hg ?_⟩;rintro (o|⟨i,hi,o⟩)
   .exact hok.gj j C o
   .have:=hok.inj j i C (JC.mem_I.1 hi).1 o;subst this;exact ej hi
 .rintro (o|⟨i,hi,o⟩)
  .exact H.rowJ G o
  .exact H.rowG (JC.mem_I.1 hi).1 G o
end
end Go.Proofs.YtebcagekopgdhaaGreatDoor
namespace Go.Wk
open Go.RowKit
open Go.Maps (Keyed)
variable {kl:Lit}{f:Lit->Option Value}{b k m:Nat}{x y:Operand}{kd:TK}{e t:TypeId}{key u v z:Value}
abbrev DV:= DataW Value
def RT(v:Value): Option (DV×List MemPlace):=some (.held v,[])
theorem Qkz{ps:List MemPlace}(h:RT v=some (.held u,ps)): v=u:=by
 simp only [RT,Option.some.injEq,Prod.mk.injEq,DataW.held.injEq]at h;exact h.1
def MapS(P:Program)(k:TypeId)(w:World)(b n:Nat)(f:Lit->Option Value): Prop :=
 ∃ D:DV,w.ownsMap P k RT b n D/\(∀ kl,Maps.has D kl=(f kl).isSome)/\∀ kl zd,D.atKey kl zd=(match f kl with|some v=>.held v|none=>zd)
def upL(f:Lit->Option Value)(kl:Lit)(x:Option Value): Lit->Option Value:=λz=>if z.sameKey kl=true then x else f z
section
variable {P:Program} {k:TypeId} {w w':World} {b n:Nat} {f:Lit->Option Value}
theorem MapS.lt(h:MapS P k w b n f): b<w.heap.size:=by obtain ⟨D,o,_⟩:=h;exact o.lt
theorem MapS.kept{row:Option Nat}(h:MapS P k w b n f)(hg:w.grownBy w' row)(hne:some b≠row): MapS P k w' b n f:=by
 obtain ⟨D,u,o⟩:=h;exact ⟨D,u.kept hg hne,o⟩
theorem MapS.gr{N:Nat->Prop}(h:MapS P k w b n f)(hg:GrN N w w')(hn:¬ N b): MapS P k w' b n f:=by
 obtain ⟨D,⟨es,o,C,J⟩,G⟩:=h;have u:b<w.heap.size:=by
  rcases Nat.lt_or_ge b w.heap.size with h'|h'
  .exact h'
  .rw [Array.getElem?_eq_none h']at C;cases C
 exact ⟨D,⟨es,o,(hg.block b u hn).trans C,J⟩,G⟩
theorem MapS.ext(h:MapS P k w b n f)(hx:Ext w w'): MapS P k w' b n f:=h.gr (N:=λ_=>False) (GrN.ext hx) (λe=>e)
theorem MapS.made(w:World)(P:Program)(k:TypeId): MapS P k (w.alloc (.map #[] 0)) w.heap.size 0 (λ_=>none) :=
 ⟨.map [],World.ownsMap_made w P k RT,λo=>rfl,λo u=>rfl⟩
theorem Gh(hk:WideAt.IsKeyLit kl)(x:Option Value): upL f kl x kl=x:=by unfold upL;rw [if_pos (WideAt.sameKey_self hk)]
theorem Yp{z:Lit}(h:z≠kl)(x:Option Value): upL f kl x z=f z:=by
 unfold upL;rw [if_neg (by rw [Maps.sameKey_ne h];simp)]
theorem MapS.look(h:MapS P k w b n f)(K:Keyed P k)(ht:P.underlying t=some (.map k e))(hz:(zeroValue e).run P w=.ok z w)(hkey:keyOf P k key=some kl):
  (Instr.lookup t (.map (some b)) key true).run P w=.ok (.tuple #[(f kl).getD z,.bool (f kl).isSome]) w/\(Instr.lookup t (.map (some b)) key false).run P w=.ok ((f kl).getD z) w:=by
 obtain ⟨D,C,O,J⟩:=h;have G:D.atKey kl (.held z)=.held ((f kl).getD z):=by rw [J];cases f kl<;>rfl
 constructor
 .obtain ⟨v,ps,u,o⟩:=C.look_ok K ht hz (zd:=.held z) (zp:=[]) rfl hkey;rw [G]at o;rw [u,Qkz o,O]
 .obtain ⟨v,ps,u,o⟩:=C.lookup K ht hz (zd:=.held z) (zp:=[]) rfl hkey;rw [G]at o;rw [u,Qkz o]
theorem MapS.put(h:MapS P k w b n f)(K:Keyed P k)(ht:P.underlying t=some (.map k e))(hn:n<maxLen)(hkey:keyOf P k key=some kl)(v:Value):
  ∃ w',(Instr.mapUpdate t (.map (some b)) key v).run P w=.ok () w'/\MapS P k w' b (n+1) (upL f kl (some v))/\w.grownBy w' (some b):=by
 obtain ⟨D,u,U,O⟩:=h;obtain ⟨w',C,G,J⟩:=u.update K ht hn hkey (val:=v) (d:=.held v) (ps:=[]) rfl;have o:=K.key hkey;refine ⟨w',C,⟨_,G,λx=>?_,λx Z=>?_⟩,J⟩
 .by_cases e:x=kl
  .subst e;rw [Gh o,Maps.has_put_same u.isMap o];rfl
  .rw [Yp e,Maps.has_put_other e,U]
 .by_cases e:x=kl
  .subst e;rw [Gh o,Maps.atKey_put_same u.isMap o]
  .rw [Yp e,Maps.atKey_put_other e,O]
theorem MapS.drop(h:MapS P k w b n f)(K:Keyed P k){t e:TypeId}(ht:P.underlying t=some (.map k e)){key:Value}{kl:Lit}(hkey:keyOf P k key=some kl)(ty:TypeId):
  ∃ w',(Builtin.delete_ #[t,k] ty #[.map (some b),key]).run P w=.ok (.tuple #[]) w'/\MapS P k w' b n (upL f kl none)/\w.grownBy w' (some b):=by
 obtain ⟨D,U,O,J⟩:=h;obtain ⟨w',u,C,G⟩:=U.drop K ht hkey ty;have o:=K.key hkey;refine ⟨w',u,⟨_,C,λx=>?_,λx Z=>?_⟩,G.grown⟩
 .by_cases e:x=kl
  .subst e;rw [Gh o,Maps.has_del_same];rfl
  .rw [Yp e,Maps.has_del_other e,O]
 .by_cases e:x=kl
  .subst e;rw [Gh o,Maps.atKey_del_same]
  .rw [Yp e,Maps.atKey_del_other e,J]
theorem MapS.len0(h:MapS P k w b n f)(ht:P.underlying t=some (.map k e))(K:Keyed P k)(ty:TypeId): ∃ m:Nat,(Builtin.len_ #[t] ty #[.map (some b)]).run P w=.ok (.int .i64 (m:Int)) w/\(m=0↔∀ kl,f kl=none):=by
 obtain ⟨D,C,u,G⟩:=h;refine ⟨Maps.size D,C.len ht ty,?_⟩;obtain ⟨es,rfl,_,o⟩:=C.entries K;constructor
 .intro h0 kl;have:es=[]:=List.eq_nil_of_length_eq_zero h0;subst this;have:=u kl;cases hf:f kl with
  | none=>rfl
  | some v=>rw [hf]at this;cases this
 .intro hn;cases es with
  | nil=>rfl
  | cons p es=>
   have:=u p.1;rw [hn p.1,Maps.has_eq,List.any_cons,WideAt.sameKey_self (o p (mC ..))]at this;cases this
theorem Jct(hz:Qu P t=some z)(w:World): (zeroValue t).run P w=.ok z w:=by
 unfold Qu at hz;obtain ⟨i,u,o⟩:=Option.bind_eq_some_iff.1 hz;simp [zeroValue,typeInfo,u,o]
end
section
variable {N:Nat->Prop} {P:Program} {n:Nat} {al:AL} {w:World} {Q:Exit->Act->World->Prop} {ops:Array Oper} {rest:List Oper} {drest:List (Nat×Oper)}
variable {d ty:Nat} {pos:String} {aft:Array Edge} {tt:TT}
theorem mkm{t:Nat}(k:TypeId)(kk:∀ w1 b,Ext w w1->w.heap.size<=b->MapS P k w1 b 0 (λ_=>none)->WL P n ops Q rest ((d,.map (some b))::al) w1)(hd:Nat.blt d n=true:=by rfl):
  WL P n ops Q (⟨some d,.makeMap t none,ty,pos,aft,none⟩::rest) al w :=
 wop hd (λa o=>by
  show _=Result.ok (Next.value (.map (some w.heap.size))) (w.alloc (.map #[] 0));simp [execOp,run_makeMap]) (kk _ _ ((Ext.refl w).alloc _) (Nat.le_refl _) (MapS.made w P k))
theorem mlk[hT:Tab P tt]{t e:Nat}(K:Keyed P k)(hM:MapS P k w b m f)(hz:Qu P e=some z)(hkey:keyOf P k key=some kl)(kk:WL P n ops Q rest ((d,(f kl).getD z)::al) w)(ht:tk tt t=some kd:=by rfl)(hk:kd.desc=.map k e:=by rfl)(hx:ev al x=some (.map (some b)):=by rfl)(hy:ev al y=some key:=by rfl)(hd:Nat.blt d n=true:=by rfl):
  WL P n ops Q (⟨some d,.lookup t x y false,ty,pos,aft,none⟩::rest) al w :=
 wop hd (λa o=>by
  have:=(hM.look K (Vm hT.ok ht hk rfl) (Jct hz w) hkey).2;simp [execOp,o.ev hx,o.ev hy,this]) kk
theorem mup[hT:Tab P tt]{t e:Nat}{z:Operand}(K:Keyed P k)(hM:MapS P k w b m f)(hm:m<maxLen)(hkey:keyOf P k key=some kl)(kk:∀ w1,MapS P k w1 b (m+1) (upL f kl (some v))->w.grownBy w1 (some b)->WL P n ops Q rest al w1)(ht:tk tt t=some kd:=by rfl)(hk:kd.desc=.map k e:=by rfl)(hx:ev al x=some (.map (some b)):=by rfl)(hy:ev al y=some key:=by rfl)(hv:ev al z=some v:=by rfl):
  WL P n ops Q (⟨none,.mapUpdate t x y z,ty,pos,aft,none⟩::rest) al w:=by
 obtain ⟨w',u,G,C⟩:=hM.put K (Vm hT.ok ht hk rfl) hm hkey v;exact Iz (λa o=>by simp [execOp,o.ev hx,o.ev hy,o.ev hv,u]) (kk w' G C)
theorem mln[hT:Tab P tt]{t e:Nat}(K:Keyed P k)(hM:MapS P k w b m f)(kk:∀ q:Nat,(q=0↔∀ kl,f kl=none)->WL P n ops Q rest ((d,.int .i64 (q:Int))::al) w)(ht:tk tt t=some kd:=by rfl)(hk:kd.desc=.map k e:=by rfl)(hx:ev al x=some (.map (some b)):=by rfl)(hd:Nat.blt d n=true:=by rfl):
  WL P n ops Q (⟨some d,.call { callee:=.builtin .len,args:=#[x],argTypes:=#[t] },ty,pos,aft,none⟩::rest) al w:=by
 obtain ⟨q,o,u⟩:=hM.len0 (Vm hT.ok ht hk rfl) K ty;exact wop hd (λa C=>by simp [execOp,resolve,invoke,builtin,C.ev hx,o]) (kk q u)
end
end Go.Wk
namespace Go.Wk
open Go.RowKit
variable {cs:List Value}{b d n ty:Nat}{α:Type}{v v' z:Value}
def Qs(base:Nat)(v:Value)(k:Nat): Prop:=k<base∨v.ownBlock=some k
def Qj(ps:List (List Value×α)): List Value:=ps.flatMap (·.1)
theorem Jgc{α:Type}{sz:Nat}: ∀ {ps:List (List Value×α)},(∀ p∈ps,p.1.length=sz)->(Qj ps).length=ps.length*sz
 | [],_=>by simp [Qj]
 | p::ps,h=>by
  have:=Jgc (ps:=ps) λq hq=>h q (List.mem_cons_of_mem _ hq);simp only [Qj,List.flatMap_cons,List.length_append,List.length_cons,h p (mC ..),Nat.succ_mul]at this ⊢;omega
theorem Ke{α:Type}{sz:Nat}: ∀ {ps:List (List Value×α)} {i j:Nat} {p:List Value×α},(∀ p∈ps,p.1.length=sz)->ps[i]?=some p->j<sz->(Qj ps)[i*sz+j]?=p.1[j]?
 | [],_,_,_,_,h,_=>by cases h
 | q::ps,0,j,p,hl,h,hj=>by
  simp only [List.getElem?_cons_zero,Option.some.injEq]at h;subst h;simp only [Qj,List.flatMap_cons,Nat.zero_mul,Nat.zero_add];rw [List.getElem?_append_left (by rw [hl q (mC ..)];exact hj)]
 | q::ps,i+1,j,p,hl,h,hj=>by
  simp only [List.getElem?_cons_succ]at h;have ih:=Ke (i:=i) (j:=j) (λp hp=>hl p (List.mem_cons_of_mem _ hp)) h hj;simp only [Qj,List.flatMap_cons]at ih ⊢;rw [List.getElem?_append_right (by rw [hl q (mC ..),Nat.succ_mul];omega),<-ih,hl q (mC ..)];congr 1
  rw [Nat.succ_mul];omega
section
variable {α:Type} {E:TypeId} {sz:Nat} {Φ:World->List Value->α->Prop} {w w':World} {base:Nat} {v:Value} {ls:List α}
def OwnG(E:TypeId)(sz:Nat)(Φ:World->List Value->α->Prop)(w:World)(base:Nat)(v:Value)(ls:List α): Prop :=
 ∃ ps:List (List Value×α),ls=ps.map (·.2)/\w.ownsRow base E sz v ps.length (Qj ps)/\∀ p∈ps,p.1.length=sz/\Off (Qs base v) w (λu=>Φ u p.1 p.2)
def GV(sz:Nat)(Φ:World->List Value->α->Prop)(w:World)(v:Value)(ls:List α): Prop :=
 ∃ (ps:List (List Value×α)) (A:Option Addr) (c:Nat),ls=ps.map (·.2)/\v=.slice A ps.length c/\ps.length<=c/\ps.length<=1100000/\Rd w sz A ps.length (Qj ps)/\∀ p∈ps,p.1.length=sz/\Φ w p.1 p.2
theorem OwnG.nil(w:World)(base:Nat): OwnG E sz Φ w base (.slice none 0 0) []:=⟨[],rfl,Xo _ _ _ _,λp o=>by cases o⟩
theorem OwnG.gr{N:Nat->Prop}(h:OwnG E sz Φ w base v ls)(hg:GrN N w w')(hN:∀ k,N k->k<base): OwnG E sz Φ w' base v ls:=by
 obtain ⟨ps,e,u,o⟩:=h;refine ⟨ps,e,Jr u hg (λg O hn=>?_),λp C=>⟨(o p C).1,(o p C).2.gr (hg.mono λk _ G=>.inl (hN k G))⟩⟩;obtain ⟨_,_,_,_,J⟩:=Jv u;have:=(J g O).1;have:=hN g hn;omega
theorem OwnG.ext(h:OwnG E sz Φ w base v ls)(hx:Ext w w'): OwnG E sz Φ w' base v ls:=h.gr (N:=λ_=>False) (GrN.ext hx) (λk e=>e.elim)
theorem OwnG.form(h:OwnG E sz Φ w base v ls): ∃ A c,v=.slice A ls.length c/\ls.length<=c/\∀ g,v.ownBlock=some g->base<=g/\g<w.heap.size:=by
 obtain ⟨ps,e,o,J⟩:=h;obtain ⟨A,c,G,C,u⟩:=Jv o;rw [e,List.length_map];exact ⟨A,c,G,C,u⟩
theorem OwnG.gv(h:OwnG E sz Φ w base v ls)(hm:ls.length<=1100000): GV sz Φ w v ls:=by
 obtain ⟨ps,e,u,o⟩:=h;obtain ⟨A,c,G,C,J⟩:=Jv u;subst G;exact ⟨ps,A,c,e,rfl,C,by rw [e,List.length_map]at hm;exact hm,Rd.own u,λp hm=>⟨(o p hm).1,(o p hm).2.here⟩⟩
theorem OwnG.off(h:OwnG E sz Φ w base v ls)(hm:ls.length<=1100000): Off (λk=>k<base) w (λu=>GV sz Φ u v ls):=λw' C=>(h.gr C λk o=>o).gv hm
theorem GV.ext(h:GV sz Φ w v ls)(hx:Ext w w')(hΦ:∀ cs a,Φ w cs a->Φ w' cs a): GV sz Φ w' v ls:=by
 obtain ⟨ps,A,c,e,O,J,G,C,o⟩:=h;exact ⟨ps,A,c,e,O,J,G,C.ext hx,λp u=>⟨(o p u).1,hΦ _ _ (o p u).2⟩⟩
theorem GV.parts(h:GV sz Φ w v ls): ∃ A c cs,v=.slice A ls.length c/\ls.length<=c/\ls.length<=1100000/\Rd w sz A ls.length cs/\∀ i (hi:i<ls.length),∃ ce,ce.length=sz/\Φ w ce ls[i]/\∀ j u,ce[j]?=some u->w.cell? ((adr A (i*sz)).add j)=some u:=by
 obtain ⟨ps,A,c,e,e1,e2,Z,J,O⟩:=h;subst e;refine ⟨A,c,Qj ps,by rw [List.length_map];exact e1,by rw [List.length_map];exact e2,by rw [List.length_map];exact Z,by rw [List.length_map];exact J,λi hi=>?_⟩;rw [List.length_map]at hi;have G:=O ps[i] (List.getElem_mem hi);refine ⟨ps[i].1,G.1,by rw [List.getElem_map];exact G.2,λj u o=>?_⟩;have U:j<sz:=by
  rcases Nat.lt_or_ge j sz with h'|h'
  .exact h'
  .rw [List.getElem?_eq_none (by rw [G.1];exact h')]at o;cases o
 rw [Xg];exact J.cell ((Ke (λp C=>(O p C).1) (gE hi) U).trans o)
theorem OwnG.after{ps:List (List Value×α)}(e:ls=ps.map (·.2))(hp:∀ p∈ps,p.1.length=sz/\Off (Qs base v) w (λu=>Φ u p.1 p.2)){w':World}{x:α}(hl:cs.length=sz)(hx:Off (Qs base v) w (λu=>Φ u cs x))(ho:w'.ownsRow base E sz v' (ps.length+1) (Qj ps++cs))(hg:w.grownBy w' v.ownBlock)(hn:∀ g,v'.ownBlock=some g->v.ownBlock=some g∨w.heap.size<=g): OwnG E sz Φ w' base v' (ls++[x]):=by
 have o:∀ (cs:List Value) (x:α),Off (Qs base v) w (λu=>Φ u cs x)->Off (Qs base v') w' (λu=>Φ u cs x):=λcs x G=>by
  have Z:Off (Qs base v) w' (λu=>Φ u cs x):=G.gr (GrN.by hg λk C=>.inr C);have O:Off (λk=>Qs base v k∨Qs base v' k) w (λu=>Φ u cs x):=G.mono λk C h=>by
   rcases h with h|h|h
   .exact h
   .exact .inl h
   .rcases hn k h with h4|h4
    .exact .inr h4
    .omega
  exact (O.gr (GrN.by hg λk C=>.inl (.inr C))).mono λk _ h=>.inr h
 refine ⟨ps++[(cs,x)],by rw [e];simp,?_,λp J=>?_⟩
 .have U:Qj (ps++[(cs,x)])=Qj ps++cs:=by simp [Qj]
  rw [List.length_append,U];exact ho
 .rcases List.mem_append.1 J with h'|h'
  .exact ⟨(hp p h').1,o _ _ (hp p h').2⟩
  .rw [List.mem_singleton.1 h'];exact ⟨hl,o _ _ hx⟩
end
theorem apG{P:Program}{al:AL}{w:World}{Q:Exit->Act->World->Prop}{ops:Array Oper}{rest:List Oper}{pos:String}{aft:Array Edge}{t E sz bytes base:Nat}(hE:ElT P t E sz bytes z){Φ:World->List Value->α->Prop}{x y:Operand}{ls:List α}{a:α}(ho:OwnG E sz Φ w base v ls)(hb:Blk w b E cs)(hl:cs.length=sz)(h1:∀ u∈cs,u.oneCell'=true)(hΦ:Off (Qs base v) w (λu=>Φ u cs a))(hm:ls.length<=1100000)(hby:bytes<=64)(hbase:base<=w.heap.size)(kk:∀ v' w',OwnG E sz Φ w' base v' (ls++[a])->w.grownBy w' v.ownBlock->(∀ g,v'.ownBlock=some g->v.ownBlock=some g∨w.heap.size<=g)->WL P n ops Q rest ((d,v')::al) w')(hx:ev al x=some v:=by rfl)(hy:ev al y=some (.slice (some ⟨b,0,none⟩) 1 1):=by rfl)(hd:Nat.blt d n=true:=by rfl):
  WL P n ops Q (⟨some d,.call { callee:=.builtin .append,args:=#[x,y],argTypes:=#[t,t] },ty,pos,aft,none⟩::rest) al w:=by
 obtain ⟨ps,e,O,U⟩:=ho;have J:ps.length<=1100000:=by rw [e,List.length_map]at hm;exact hm
 have Z:(ps.length+1)*bytes<=1100001*64:=Nat.mul_le_mul om hby;refine apb hE O (hb.rd (n:=1) om) h1 (by unfold maxLen;omega) om hbase ?_ hx hy hd;intro v' w' G C o;exact kk v' w' (OwnG.after e U hl hΦ G C o) C o
end Go.Wk
