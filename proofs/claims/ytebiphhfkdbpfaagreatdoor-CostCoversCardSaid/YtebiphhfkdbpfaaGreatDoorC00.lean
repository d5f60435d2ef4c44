/- Part 0. -/
import Derived.Tactics
import Derived.Orders
import Derived.Below
import Derived.Laws.Entries
import Derived.Laws.Cells
import Derived.Laws.Slices
import Derived.Deep.Draws
import Derived.Deep.LoopGhost
import Derived.WalkKit
import Derived.Maps.AppendAt
import Derived.ArgAppend
import Derived.Laws.OwnMore
import Derived.Laws.BytesArg
import Derived.OwnWalk
import Derived.Deep.AppendLies
import Derived.Deep.Onto
import Derived.OrdersHeld
import Derived.Lib.Bytealg
import Derived.Laws.StructEq
import Derived.Laws.Cover3
set_option linter.unusedVariables false
set_option maxRecDepth 100000
set_option maxHeartbeats 40000000
abbrev oT:=@of_decide_eq_true
abbrev oF:=@of_decide_eq_false
abbrev nL:=@Nat.le_trans
abbrev nM:=@Nat.lt_of_lt_of_le
abbrev dF:=@decide_eq_false
abbrev nO:=@Nat.mul_le_mul_right
abbrev gE:=@List.getElem?_eq_getElem
abbrev gS:=@List.getElem?_eq_some_iff
abbrev mC:=@List.mem_cons_self
theorem om{p:Prop}(h:p:=by omega):p:=h
theorem kr{p:Prop}(h:p:=by kernel_rfl):p:=h
namespace Go.Wk
open Go.RowKit
variable {b:Bool}{c d:Code}{R:Ending->World->Prop}{fn:Func}{a z:Int}{k1 k2:IntKind}{l:List Oper}{id id' j m s:Nat}{x y:Operand}{α β γ δ σ:Type}{t yt:TypeId}{r u v v':Value}{w':World}
abbrev AL:= List (Nat×Value)
def lk: AL->Nat->Option Value
 | [],_=>none
 | (k,v)::r,t=>match Nat.beq k t with
  | true=>some v
  | false=>lk r t
def ev(al:AL): Operand->Option Value
 | .tmp t=>lk al t
 | .const v=>some v
 | .global g=>some (.pointer (some ⟨g,0,none⟩))
 | .func f=>some (.func (.func f) #[] #[])
def evs(al:AL): List Operand->Option (List Value)
 | []=>some []
 | x::r=>match ev al x with
  | none=>none
  | some v=>match evs al r with
   | none=>none
   | some vs=>some (v::vs)
structure Fr(n:Nat)(al:AL)(a:Act): Prop where
 size:a.tmps.size=n
 defers:a.defers=[]
 has:∀ t v,lk al t=some v->a.tmps.getD t undef=v
theorem Jjw(d:Nat)(v:Value)(al:AL): lk ((d,v)::al) d=some v:=by simp[lk]
theorem Un{d t:Nat}(v:Value)(al:AL)(h:d≠t): lk ((d,v)::al) t=lk al t:=by grind [Nat.beq,Nat.eq_of_beq_eq_true,lk]
section
variable {n:Nat} {al al':AL} {a:Act}
theorem Fr.ev(h:Fr n al a){x:Operand}{v:Value}(hx:ev al x=some v): a.eval x=v:=by
 cases x with
 | tmp t=>exact h.has t v hx
 | const u=>simp only[Wk.ev,Option.some.injEq]at hx;subst hx;rfl
 | global g=>simp only[Wk.ev,Option.some.injEq]at hx;subst hx;rfl
 | func f=>simp only[Wk.ev,Option.some.injEq]at hx;subst hx;rfl
theorem Fr.evs(h:Fr n al a): ∀ {xs:List Operand} {vs:List Value},evs al xs=some vs->xs.map a.eval=vs
 | [],vs,hx=>by simp only[Wk.evs,Option.some.injEq]at hx;subst hx;rfl
 | x::r,vs,hx=>by
  unfold Wk.evs at hx;split at hx
  .cases hx
  rename_i v hv;split at hx
  .cases hx
  rename_i us hu;simp only[Option.some.injEq]at hx;subst hx;rw[List.map_cons,h.ev hv,h.evs hu]
theorem Fr.put(h:Fr n al a){d:Nat}(hd:d<n)(v:Value): Fr n ((d,v)::al) (a.put (some d) v):=by
 refine⟨by simp[Act.put,h.size],h.defers,λt u i=>?_⟩;by_cases e:d=t
 .subst e;rw[Jjw]at i;simp only[Option.some.injEq]at i;subst i;simp[Act.put,Array.getElem?_setIfInBounds_self_of_lt (by rw[h.size];exact hd:d<a.tmps.size)]
 rw[Un _ _ e]at i;have:=h.has t u i;simpa [Act.put,Array.getElem?_setIfInBounds_ne e] using this
def Sub(al' al:AL): Prop:=∀ t v,lk al' t=some v->lk al t=some v
theorem Fr.sub(h:Fr n al a)(hs:Sub al' al): Fr n al' a:=⟨h.size,h.defers,λt v ht=>h.has t v (hs t v ht)⟩
theorem Sub.nil: Sub [] al:=λt v h=>by cases h
theorem Sub.cons{t:Nat}(h1:lk al t=some v)(h:Sub al' al): Sub ((t,v)::al') al:=by
 intro s u i;by_cases e:t=s
 .grind [Jjw]
 rw[Un _ _ e]at i;exact h s u i
theorem Sub.refl: Sub al al:=λ_ _ h=>h
end
def WC(P:Program)(n:Nat)(c:Code)(Q:Exit->Act->World->Prop)(al:AL)(w:World): Prop:=∀ a,Fr n al a->c.wp P Q a w
def WL(P:Program)(n:Nat)(ops:Array Oper)(Q:Exit->Act->World->Prop)(l:List Oper)(al:AL)(w:World): Prop:=∀ a,Fr n al a->wpList P ops Q l a w
def QX(n:Nat)(Q:Exit->Act->World->Prop)(e:Exit)(al:AL)(w:World): Prop:=∀ a,Fr n al a->Q e a w
section
variable {P:Program} {n:Nat} {al al':AL} {w:World} {Q Q':Exit->Act->World->Prop} {ops:Array Oper} {rest:List Oper}
theorem WC.sub{c:Code}(hs:Sub al' al)(h:WC P n c Q al' w): WC P n c Q al w:=λa i=>h a (i.sub hs)
theorem WL.sub{l:List Oper}(hs:Sub al' al)(h:WL P n ops Q l al' w): WL P n ops Q l al w:=λa i=>h a (i.sub hs)
theorem QX.sub{e:Exit}(hs:Sub al' al)(h:QX n Q e al' w): QX n Q e al w:=λa i=>h a (i.sub hs)
theorem wseq{x y:Code}(h:WC P n x (Exit.then (y.wp P Q) Q) al w): WC P n (.seq x y) Q al w:=λa i=>wp_seq (h a i)
theorem wskip(h:QX n Q .normal al w): WC P n .skip Q al w:=λa i=>wp_skip (h a i)
theorem wexit(h:QX n Q (.exit id) al w): WC P n (.exit id) Q al w:=λa i=>wp_exit (h a i)
theorem wret(h:QX n Q .ret al w): WC P n .ret Q al w:=λa i=>wp_ret (h a i)
theorem Qbk(h:WC P n c (Exit.inBlock id Q) al w): WC P n (.block id c) Q al w:=λa i=>wp_block (h a i)
theorem Qyn(h:WL P n l.toArray Q l al w): WC P n (.region id l.toArray false) Q al w:=λa i=>wp_region_lit (h a i)
theorem Je(h:QX n Q .normal al w): WL P n ops Q [] al w:=λa i=>h a i
theorem wcond{c:Operand}{x y:Code}(hc:ev al c=some (.bool b))(ht:b=true->WC P n x Q al w)(hf:b=false->WC P n y Q al w):
  WC P n (.cond c x y) Q al w:=λa i=>by
 have j:=i.ev hc;cases b
 .exact wp_cond_false j (hf rfl a i)
 exact wp_cond_true j (ht rfl a i)
theorem Jnk{c:Operand}{x y:Code}(hc:ev al c=some (.bool true))(h:WC P n x Q al w): WC P n (.cond c x y) Q al w:=λa i=>wp_cond_true (i.ev hc) (h a i)
theorem Jnm{c:Operand}{x y:Code}(hc:ev al c=some (.bool false))(h:WC P n y Q al w): WC P n (.cond c x y) Q al w:=λa i=>wp_cond_false (i.ev hc) (h a i)
theorem Qbd{c:Operand}{x y:Code}(hc:ev al c=some (.bool b))(hb:b=true)(h:WC P n x Q al w): WC P n (.cond c x y) Q al w:=by grind [Jnk]
theorem Jnl{c:Operand}{x y:Code}(hc:ev al c=some (.bool b))(hb:b=false)(h:WC P n y Q al w): WC P n (.cond c x y) Q al w:=by grind [Jnm]
theorem qnext{y:Code}(h:WC P n y Q' al w): QX n (Exit.then (y.wp P Q') Q) .normal al w:=h
theorem qret{y:Act->World->Prop}(h:QX n Q .ret al w): QX n (Exit.then y Q) .ret al w:=h
theorem qexit{y:Act->World->Prop}(h:QX n Q (.exit id) al w): QX n (Exit.then y Q) (.exit id) al w:=h
theorem Xkk(h:QX n Q .normal al w): QX n (Exit.inBlock id Q) .normal al w:=h
theorem bret(h:QX n Q .ret al w): QX n (Exit.inBlock id Q) .ret al w:=h
theorem bexit(h:QX n Q .normal al w): QX n (Exit.inBlock id Q) (.exit id) al w:=λa i=>by
 simp only[Exit.inBlock,if_true];exact h a i
theorem Xkj(hne:Nat.beq id' id=false)(h:QX n Q (.exit id') al w): QX n (Exit.inBlock id Q) (.exit id') al w:=λa i=>by
 have:id'≠id:=by intro e;subst e;simp at hne
 simp only[Exit.inBlock,this,if_false];exact h a i
theorem Jvn(fr:σ->AL)(I:σ->World->Prop)(μ:σ->Nat)(s₀:σ)(h₀:Sub (fr s₀) al)(hI:I s₀ w)(round:∀ s w,I s w->WC P n c (Exit.then (λa' w'=>∃ s',Fr n (fr s') a'/\I s' w'/\μ s'<μ s) Q) (fr s) w): WC P n (.loop c) Q al w:=by
 intro a j;refine wp_loop_ghost (λk a w=>∃ s,Fr n (fr s) a/\I s w/\μ s=k) (μ s₀) ⟨s₀,j.sub h₀,hI,rfl⟩ ?_;rintro k a w ⟨s,i,hi,rfl⟩;refine wp_mono (round s w hi a i) ?_;grind
theorem Js(fr:α->AL)(I:α->World->Prop)(μ:α->Nat)(x₀:α)(h₀:Sub (fr x₀) al)(hI:I x₀ w)(round:∀ x w,I x w->WC P n c (Exit.then (λa' w'=>∃ x',Fr n (fr x') a'/\I x' w'/\μ x'<μ x) Q) (fr x) w): WC P n (.loop c) Q al w:=by
 refine Jvn (σ:=α) (λs=>fr s) (λs=>I s) (λs=>μ s) (x₀) h₀ hI ?_;grind
theorem Jp{fr:α->AL}{I:α->World->Prop}{μ:α->Nat}(x':α)(hs:Sub (fr x') al)(hi:I x' w)(hm:μ x'<m):
  QX n (Exit.then (λa' w'=>∃ x',Fr n (fr x') a'/\I x' w'/\μ x'<m) Q) .normal al w:=λa i=>⟨x',i.sub hs,hi,hm⟩
theorem Qq(fr:α->β->AL)(I:α->β->World->Prop)(μ:α->β->Nat)(x₀:α)(y₀:β)(h₀:Sub (fr x₀ y₀) al)(hI:I x₀ y₀ w)(round:∀ x y w,I x y w->WC P n c (Exit.then (λa' w'=>∃ x' y',Fr n (fr x' y') a'/\I x' y' w'/\μ x' y'<μ x y) Q) (fr x y) w): WC P n (.loop c) Q al w:=by
 refine Jvn (σ:=α×β) (λs=>fr (s.1) (s.2)) (λs=>I (s.1) (s.2)) (λs=>μ (s.1) (s.2)) (x₀,y₀) h₀ hI ?_;intro s w hi a j;refine wp_mono (round (s.1) (s.2) w hi a j) ?_;intro e a' w' i;cases e with
 | normal=>obtain⟨x',y',h⟩:=i;exact⟨(x',y'),h⟩
 | exit id=>exact i
 | goto l=>exact i
 | ret=>exact i
 | panic c=>exact i
 | outgrown=>exact i
theorem Ju{fr:α->β->AL}{I:α->β->World->Prop}{μ:α->β->Nat}(x':α)(y':β)(hs:Sub (fr x' y') al)(hi:I x' y' w)(hm:μ x' y'<m):
  QX n (Exit.then (λa' w'=>∃ x' y',Fr n (fr x' y') a'/\I x' y' w'/\μ x' y'<m) Q) .normal al w:=λa i=>⟨x',y',i.sub hs,hi,hm⟩
theorem Xf(fr:α->β->γ->AL)(I:α->β->γ->World->Prop)(μ:α->β->γ->Nat)(x₀:α)(y₀:β)(z₀:γ)(h₀:Sub (fr x₀ y₀ z₀) al)(hI:I x₀ y₀ z₀ w)(round:∀ x y z w,I x y z w->WC P n c (Exit.then (λa' w'=>∃ x' y' z',Fr n (fr x' y' z') a'/\I x' y' z' w'/\μ x' y' z'<μ x y z) Q) (fr x y z) w): WC P n (.loop c) Q al w:=by
 refine Jvn (σ:=α×β×γ) (λs=>fr (s.1) (s.2.1) (s.2.2)) (λs=>I (s.1) (s.2.1) (s.2.2)) (λs=>μ (s.1) (s.2.1) (s.2.2)) (x₀,y₀,z₀) h₀ hI ?_;intro s w hi a j;refine wp_mono (round (s.1) (s.2.1) (s.2.2) w hi a j) ?_;intro e a' w' i;cases e with
 | normal=>obtain⟨x',y',z',h⟩:=i;exact⟨(x',y',z'),h⟩
 | exit id=>exact i
 | goto l=>exact i
 | ret=>exact i
 | panic c=>exact i
 | outgrown=>exact i
theorem Qn{fr:α->β->γ->AL}{I:α->β->γ->World->Prop}{μ:α->β->γ->Nat}(x':α)(y':β)(z':γ)(hs:Sub (fr x' y' z') al)(hi:I x' y' z' w)(hm:μ x' y' z'<m):
  QX n (Exit.then (λa' w'=>∃ x' y' z',Fr n (fr x' y' z') a'/\I x' y' z' w'/\μ x' y' z'<m) Q) .normal al w:=λa i=>⟨x',y',z',i.sub hs,hi,hm⟩
theorem Kh(fr:α->β->γ->δ->AL)(I:α->β->γ->δ->World->Prop)(μ:α->β->γ->δ->Nat)(x₀:α)(y₀:β)(z₀:γ)(u₀:δ)(h₀:Sub (fr x₀ y₀ z₀ u₀) al)(hI:I x₀ y₀ z₀ u₀ w)(round:∀ x y z u w,I x y z u w->WC P n c (Exit.then (λa' w'=>∃ x' y' z' u',Fr n (fr x' y' z' u') a'/\I x' y' z' u' w'/\μ x' y' z' u'<μ x y z u) Q) (fr x y z u) w): WC P n (.loop c) Q al w:=by
 refine Jvn (σ:=α×β×γ×δ) (λs=>fr (s.1) (s.2.1) (s.2.2.1) (s.2.2.2)) (λs=>I (s.1) (s.2.1) (s.2.2.1) (s.2.2.2)) (λs=>μ (s.1) (s.2.1) (s.2.2.1) (s.2.2.2)) (x₀,y₀,z₀,u₀) h₀ hI ?_;intro s w hi a j;refine wp_mono (round (s.1) (s.2.1) (s.2.2.1) (s.2.2.2) w hi a j) ?_;intro e a' w' i;cases e with
 | normal=>obtain⟨x',y',z',u',h⟩:=i;exact⟨(x',y',z',u'),h⟩
 | exit id=>exact i
 | goto l=>exact i
 | ret=>exact i
 | panic c=>exact i
 | outgrown=>exact i
theorem Ym{fr:α->β->γ->δ->AL}{I:α->β->γ->δ->World->Prop}{μ:α->β->γ->δ->Nat}(x':α)(y':β)(z':γ)(u':δ)(hs:Sub (fr x' y' z' u') al)(hi:I x' y' z' u' w)(hm:μ x' y' z' u'<m):
  QX n (Exit.then (λa' w'=>∃ x' y' z' u',Fr n (fr x' y' z' u') a'/\I x' y' z' u' w'/\μ x' y' z' u'<m) Q) .normal al w:=λa i=>⟨x',y',z',u',i.sub hs,hi,hm⟩
theorem Qyw{x y:Code}(fr:AL)(I:World->Prop)(h1:WC P n x (Exit.then (λa w=>Fr n fr a/\I w) Q) al w)(h2:∀ w,I w->WC P n y Q' fr w): WC P n x (Exit.then (y.wp P Q') Q) al w:=by
 intro a j;refine wp_mono (h1 a j) ?_;intro e u w' i;cases e with
 | normal=>exact h2 w' i.2 u i.1
 | exit id=>exact i
 | goto l=>exact i
 | ret=>exact i
 | panic c=>exact i
 | outgrown=>exact i
theorem Jsk{fr:AL}{I:World->Prop}(hs:Sub fr al)(hi:I w): QX n (Exit.then (λa w=>Fr n fr a/\I w) Q) .normal al w:=λa i=>⟨i.sub hs,hi⟩
theorem Xn(fr:α->AL)(I:α->World->Prop)(h1:WC P n c (Exit.then (λa w=>∃ x,Fr n (fr x) a/\I x w) Q) al w)(h2:∀ x w,I x w->WC P n d Q' (fr x) w): WC P n c (Exit.then (d.wp P Q') Q) al w:=by
 intro a j;refine wp_mono (h1 a j) ?_;intro e B w' i;cases e with
 | normal=>obtain⟨x,y,u⟩:=i;exact h2 x w' u B y
 | exit id=>exact i
 | goto l=>exact i
 | ret=>exact i
 | panic c=>exact i
 | outgrown=>exact i
theorem Jg{fr:α->AL}{I:α->World->Prop}(x:α)(hs:Sub (fr x) al)(hi:I x w): QX n (Exit.then (λa w=>∃ x,Fr n (fr x) a/\I x w) Q) .normal al w:=λa i=>⟨x,i.sub hs,hi⟩
theorem Gn(fr:α->β->AL)(I:α->β->World->Prop)(h1:WC P n c (Exit.then (λa w=>∃ x y,Fr n (fr x y) a/\I x y w) Q) al w)(h2:∀ x y w,I x y w->WC P n d Q' (fr x y) w): WC P n c (Exit.then (d.wp P Q') Q) al w:=by
 intro a j;refine wp_mono (h1 a j) ?_;intro e D w' i;cases e with
 | normal=>obtain⟨x,y,B,u⟩:=i;exact h2 x y w' u D B
 | exit id=>exact i
 | goto l=>exact i
 | ret=>exact i
 | panic c=>exact i
 | outgrown=>exact i
theorem Xe{fr:α->β->AL}{I:α->β->World->Prop}(x:α)(y:β)(hs:Sub (fr x y) al)(hi:I x y w): QX n (Exit.then (λa w=>∃ x y,Fr n (fr x y) a/\I x y w) Q) .normal al w:=λa i=>⟨x,y,i.sub hs,hi⟩
theorem Jng(fr:α->β->γ->AL)(I:α->β->γ->World->Prop)(h1:WC P n c (Exit.then (λa w=>∃ x y z,Fr n (fr x y z) a/\I x y z w) Q) al w)(h2:∀ x y z w,I x y z w->WC P n d Q' (fr x y z) w): WC P n c (Exit.then (d.wp P Q') Q) al w:=by
 intro a j;refine wp_mono (h1 a j) ?_;intro e D w' i;cases e with
 | normal=>obtain⟨x,y,z,B,u⟩:=i;exact h2 x y z w' u D B
 | exit id=>exact i
 | goto l=>exact i
 | ret=>exact i
 | panic c=>exact i
 | outgrown=>exact i
theorem Jyk{fr:α->β->γ->AL}{I:α->β->γ->World->Prop}(x:α)(y:β)(z:γ)(hs:Sub (fr x y z) al)(hi:I x y z w): QX n (Exit.then (λa w=>∃ x y z,Fr n (fr x y z) a/\I x y z w) Q) .normal al w:=λa i=>⟨x,y,z,i.sub hs,hi⟩
end
section
variable {P:Program} {n:Nat} {al:AL} {w:World}
def al0: Nat->List Value->AL
 | _,[]=>[]
 | i,v::r=>(i,v)::al0 (i+1) r
theorem Qqh: ∀(l:List Value) (i t:Nat) (v:Value),lk (al0 i l) t=some v->i<=t/\l[t-i]?=some v
 | [],_,_,_,h=>by cases h
 | u::r,i,t,v,h=>by
  by_cases e:i=t
  .grind [al0,Jjw]
  simp only[al0]at h;rw[Un _ _ e]at h;obtain⟨h1,h2⟩:=Qqh r (i+1) t v h;grind
theorem enter{f:FuncId}{args:List Value}(hf:P.funcs[f]?=some fn)(hb:fn.body=some c)(hn:fn.ntmps=n)(hle:Nat.ble args.length n=true)(h:WC P n c (bodyPost P fn R) (al0 0 args) w): Calls P f args.toArray w R:=by
 have j:args.length<=n:=by simpa using hle
 refine calls_of_wp hf hb (h _ ⟨?_,rfl,λt v ht=>?_⟩)
 .simp[hn];omega
 obtain⟨_,u⟩:=Qqh args 0 t v ht;simp only[Nat.sub_zero]at u;have i:t<args.length:=by grind
 simp[Array.getElem?_append,i];grind
theorem Qhf{t:Nat}(hr:fn.results = #[.tmp t])(ht:lk al t=some v)(h:R (.returned v) w): QX n (bodyPost P fn R) .ret al w:=λa i=>
 bodyPost_ret (v:=v) (by rw[results_tmp hr,i.has t v ht]) i.defers h
theorem Qhd{t u:Nat}{x y:Value}(hr:fn.results = #[.tmp t,.tmp u])(ht:lk al t=some x)(hu:lk al u=some y)(h:R (.returned (.tuple #[x,y])) w): QX n (bodyPost P fn R) .ret al w:=λa i=>
 bodyPost_ret (v:=.tuple #[x,y]) (by rw[results_tmp2 hr,i.has t x ht,i.has u y hu]) i.defers h
theorem Qhc{t u:Nat}{x y z:Value}(hr:fn.results = #[.tmp t,.tmp u,.tmp s])(ht:lk al t=some x)(hu:lk al u=some y)(hs:lk al s=some z)(h:R (.returned (.tuple #[x,y,z])) w): QX n (bodyPost P fn R) .ret al w:=λa i=>
 bodyPost_ret (v:=.tuple #[x,y,z]) (by simp[results,hr];exact⟨by simpa using i.has t x ht,by simpa using i.has u y hu,by simpa using i.has s z hs⟩) i.defers h
end
structure TK where
 desc: TypeDesc
 size:Nat:=1
 esz:Nat:=0
 offs:List Nat:=[]
 zero:List Value:=[]
abbrev TT:= List (Nat×TK)
def tk: TT->Nat->Option TK
 | [],_=>none
 | (k,v)::r,t=>match Nat.beq k t with
  | true=>some v
  | false=>tk r t
def Zy(P:Program)(t:TypeId): Option Nat:=(P.info? t).map (·.size)
def Qe(P:Program)(t:TypeId): Option Value:=(P.info? t).bind (·.zero)
def Jzf(P:Program): List Field->List Nat->Bool
 | [],[]=>true
 | f::r,o::s=>Nat.beq f.offset o && (match Zy P f.type with|some z=>Nat.blt 0 z|none=>false) && Jzf P r s
 | _,_=>false
def Yu(P:Program)(t:Nat)(k:TK): Prop :=
 match k.desc with
 | .invalid=>∃ fs,P.underlying t=some (.struct fs)/\Jzf P fs.toList k.offs=true/\Zy P t=some k.size
 | .slice e=>P.underlying t=some (.slice e)/\Zy P e=some k.esz/\Zy P t=some k.size
 | .array m e=>P.underlying t=some (.array m e)/\Zy P e=some k.esz/\Zy P t=some k.size
 | d=>P.underlying t=some d/\Zy P t=some k.size
def TOk(P:Program): TT->Prop
 | []=>True
 | p::r=>Yu P p.1 p.2/\TOk P r
theorem TOk.at{P:Program}: ∀ {tt:TT} (_:TOk P tt) {t:Nat} {k:TK},tk tt t=some k->Yu P t k
 | (p1,p2)::r,h,t,k,hk=>by
  unfold tk at hk;split at hk
  .rename_i hb;have e:p1=t:=Nat.eq_of_beq_eq_true hb;simp only[Option.some.injEq]at hk;subst hk;subst e;exact h.1
  exact TOk.at h.2 hk
def bop(op:BinOp)(u v:Value): Option Value :=
 match u,v with
 | .int k a,.int k' b=>
  if k=k' then
   match op with
   | .add=>some (.int k (k.wrap (a+b)))
   | .sub=>some (.int k (k.wrap (a-b)))
   | .mul=>some (.int k (k.wrap (a*b)))
   | .and=>some (.int k (bits .and k a b))
   | .or=>some (.int k (bits .or k a b))
   | .xor=>some (.int k (bits .xor k a b))
   | .andNot=>some (.int k (bits .andNot k a b))
   | .eql=>some (.bool (a == b))
   | .neq=>some (.bool (a != b))
   | .lss=>some (.bool (decide (a<b)))
   | .leq=>some (.bool (decide (a<=b)))
   | .gtr=>some (.bool (decide (b<a)))
   | .geq=>some (.bool (decide (b<=a)))
   | _=>none
  else none
 | .string s,.string t=>
  match op with
  | .eql=>some (.bool (s.toList == t.toList))
  | .neq=>some (.bool (!(s.toList == t.toList)))
  | .lss=>some (.bool (Op.bytesLess s.toList t.toList))
  | .leq=>some (.bool (Op.bytesLess s.toList t.toList || s.toList == t.toList))
  | .gtr=>some (.bool (!(Op.bytesLess s.toList t.toList || s.toList == t.toList)))
  | .geq=>some (.bool (!(Op.bytesLess s.toList t.toList)))
  | _=>none
 | _,_=>none
def uop(op:UnOp)(u:Value): Option Value :=
 match op,u with
 | .not,.bool b=>some (.bool (!b))
 | .neg,.int k a=>some (.int k (k.wrap (0-a)))
 | .xor,.int k a=>some (.int k (bits .xor k (if k.signed then -1 else k.max) a))
 | _,_=>none
def nth{α:Type}: List α->Nat->Option α
 | [],_=>none
 | x::_,0=>some x
 | _::r,n+1=>nth r n
theorem Xq{α:Type}: ∀(l:List α) (i:Nat),nth l i=l[i]?
 | [],_=>by simp[nth]
 | x::r,0=>by simp[nth]
 | x::r,n+1=>by simp[nth,Xq r n]
def pv(tt:TT)(e:Operand->Option Value)(op:Op): Option Value :=
 match op with
 | .move x=>e x
 | .assign x=>e x
 | .pick c a b=>match e c with
  | some (.bool true)=>e a
  | some (.bool false)=>e b
  | _=>none
 | .binOp op _ x y _=>match e x with
  | some u=>match e y with
   | some v=>bop op u v
   | none=>none
  | none=>none
 | .unOp op _ x=>match e x with
  | some u=>uop op u
  | none=>none
 | .convert src dst x=>match(tk tt src).map TK.desc with
  | some (.int _)=>match(tk tt dst).map TK.desc with
   | some (.int k)=>match e x with
    | some (.int _ m)=>some (.int k (k.wrap m))
    | _=>none
   | _=>none
  | _=>none
 | .extract t i=>match e t with
  | some (.tuple vs)=>nth vs.toList i
  | _=>none
 | .fieldAddr s x f=>match tk tt s with
  | some ⟨.invalid,_,_,offs,_⟩=>match nth offs f with
   | some o=>match e x with
    | some (.pointer (some a))=>some (.pointer (some (a.add o)))
    | _=>none
   | none=>none
  | _=>none
 | .nilCheck x=>match e x with
  | some (.pointer (some a))=>some (.pointer (some a))
  | _=>none
 | .call c=>match c.callee with
  | .builtin .len=>match c.args.toList with
   | [x]=>match c.argTypes.toList with
    | [t]=>match(tk tt t).map TK.desc with
     | some (.slice _)=>match e x with
      | some (.slice _ n _)=>some (.int .i64 (n:Int))
      | _=>none
     | some .string=>match e x with
      | some (.string s)=>some (.int .i64 (s.size:Int))
      | _=>none
     | _=>none
    | _=>none
   | _=>none
  | .builtin .min=>match c.args.toList with
   | [x,y]=>match e x with
    | some (.int k a)=>match e y with
     | some (.int k' b)=>if k=k' then some (.int k (if b<a then b else a)) else none
     | _=>none
    | _=>none
   | _=>none
  | .builtin .max=>match c.args.toList with
   | [x,y]=>match e x with
    | some (.int k a)=>match e y with
     | some (.int k' b)=>if k=k' then some (.int k (if a<b then b else a)) else none
     | _=>none
    | _=>none
   | _=>none
  | _=>none
 | .makeFunc fn first captured=>match evl e first.toList with
  | some us=>match evl e captured.toList with
   | some vs=>some (.func fn us.toArray vs.toArray)
   | none=>none
  | none=>none
 | _=>none
where
 evl (e:Operand->Option Value):List Operand->Option (List Value)
  | []=>some []
  | x::r=>match e x with
   | none=>none
   | some v=>match evl e r with
    | none=>none
    | some vs=>some (v::vs)
theorem Jhv{e:Operand->Option Value}{ρ:Operand->Value}(he:∀ x v,e x=some v->ρ x=v): ∀ {xs:List Operand} {vs:List Value},pv.evl e xs=some vs->xs.map ρ=vs
 | [],vs,hx=>by simp only[pv.evl,Option.some.injEq]at hx;subst hx;rfl
 | x::r,vs,hx=>by
  unfold pv.evl at hx;split at hx
  .cases hx
  rename_i v hv;split at hx
  .cases hx
  rename_i us hu;simp only[Option.some.injEq]at hx;subst hx;rw[List.map_cons,he x v hv,Jhv he hu]
section
variable {P:Program} (w:World)
theorem Qfv{op:BinOp}(h:bop op u v=some r):
  (do eqGuard op t x y u v;binOp op t u v:Sem Value).run P w=.ok r w:=by
 unfold bop at h;split at h
 .rename_i k a k' b;split at h
  .rename_i hk;subst hk;have i:(eqGuard op t x y (.int k a) (.int k b)).run P w=.ok () w:=by unfold eqGuard;split<;>rfl
   rw[Sem.run_bind,i,Result.andThen_ok];cases op<;>simp only[Option.some.injEq,reduceCtorEq]at h<;>subst h<;>simp[binOp,Op.intArith,Op.intBits,Op.intCmp,bits]
  cases h
 .rename_i s z;have i:(eqGuard op t x y (.string s) (.string z)).run P w=.ok () w:=by unfold eqGuard;split<;>rfl
  rw[Sem.run_bind,i,Result.andThen_ok];cases op<;>simp only[Option.some.injEq,reduceCtorEq]at h<;>subst h<;>simp[binOp,Op.stringOp]
 cases h
theorem Qfn{op:UnOp}(h:uop op u=some r): (Op.unary op u).run P w=.ok r w:=by
 unfold uop at h;split at h<;>simp only[Option.some.injEq,reduceCtorEq]at h<;>subst h<;>simp[Op.unary,Op.intArith,Op.intBits,bits]
theorem Qzm: ∀ {fs:List Field} {offs:List Nat} {i o:Nat},Jzf P fs offs=true->nth offs i=some o->∃ f z,fs[i]?=some f/\f.offset=o/\Zy P f.type=some z/\0<z
 | [],[],_,_,_,h=>by cases h
 | [],_::_,_,_,h,_=>by cases h
 | _::_,[],_,_,h,_=>by cases h
 | f::r,p::s,0,o,h,hn=>by
  simp only[nth,Option.some.injEq]at hn;subst hn;simp only[Jzf,Bool.and_eq_true]at h;obtain⟨⟨h1,h2⟩,_⟩:=h;cases hz:Zy P f.type with
  | none=>rw[hz]at h2;cases h2
  | some z=>rw[hz]at h2;exact⟨f,z,rfl,Nat.eq_of_beq_eq_true h1,hz,by(have:1<=z:=by simpa [Nat.blt] using h2);(omega)⟩
 | f::r,p::s,i+1,o,h,hn=>by
  simp only[nth]at hn;simp only[Jzf,Bool.and_eq_true]at h;obtain⟨f',z,h1,h2⟩:=Qzm (i:=i) h.2 hn;grind
theorem Ve{z:Nat}(h:Zy P t=some z): (sizeOf t).run P w=.ok z w:=by
 unfold Zy at h;cases hi:P.info? t with
 | none=>simp[hi]at h
 | some i=>simp[hi]at h;simp[sizeOf,typeInfo,hi,h]
theorem Ge{tt:TT}(hT:TOk P tt){o:Oper}{ρ:Operand->Value}{e:Operand->Option Value}(he:∀ x v,e x=some v->ρ x=v)(h:pv tt e o.op=some v):
  (execOp ρ o).run P w=.ok (.value v) w:=by
 unfold execOp;generalize ho:o.op=op at h
 cases op with
 | move x=>simp only[pv]at h;simp[he x v h]
 | assign x=>simp only[pv]at h;simp[he x v h]
 | pick c a b=>
  simp only[pv]at h;split at h
  .rename_i hc;simp[he c _ hc,asBool,he a v h]
  .rename_i hc;simp[he c _ hc,asBool,he b v h]
  cases h
 | binOp op t x y ty=>
  simp only[pv]at h;split at h
  .rename_i u D;split at h
   .rename_i r j;have:=Qfv (P:=P) w (t:=t) (x:=x) (y:=y) h;simp only[Sem.run_bind,he x u D,he y r j]at this ⊢;rw[this];rfl
   cases h
  cases h
 | unOp op t x=>
  simp only[pv]at h;split at h
  .rename_i u D;simp only[Sem.run_bind,he x u D,Qfn w h,Result.andThen_ok];rfl
  cases h
 | convert src dst x=>
  simp only[pv]at h;split at h
  .rename_i k0 hs;split at h
   .rename_i k hd;split at h
    .rename_i k2 m hx;simp only[Option.some.injEq]at h;subst h;have B:P.underlying src=some (.int k0):=by
      obtain⟨r,j,G⟩:=Option.map_eq_some_iff.1 hs;have:=hT.at j;grind [Yu]
     have U:P.underlying dst=some (.int k):=by
      obtain⟨r,j,G⟩:=Option.map_eq_some_iff.1 hd;have:=hT.at j;grind [Yu]
     simp[he x _ hx,convert,run_underlying B,run_underlying U,Conv.intToInt]
    cases h
   cases h
  cases h
 | extract t i=>
  simp only[pv]at h;split at h
  .rename_i vs hv;rw[Xq]at h;have h':vs[i]?=some v:=by rw[<-h];simp
   simp[he t _ hv,Instr.extract,h']
  cases h
 | fieldAddr s x f=>
  simp only[pv]at h;split at h
  .rename_i q1 q2 offs q3 hs;split at h
   .rename_i o' hn;split at h
    .rename_i a hx;simp only[Option.some.injEq]at h;subst h;obtain⟨fs,D,hf,_⟩:∃ fs,P.underlying s=some (.struct fs)/\Jzf P fs.toList offs=true/\Zy P s=some q1:=hT.at hs;obtain⟨fl,z,B,U,h3,h4⟩:=Qzm (P:=P) hf hn;have J:fs[f]?=some fl:=by rw[<-B];simp
     have hz:¬ z=0:=om
     simp[he x _ hx,Instr.fieldAt,run_underlying D,J,Instr.sureAddr,fieldPlace,Ve w h3,hz,U]
    cases h
   cases h
  cases h
 | nilCheck x=>
  simp only[pv]at h;split at h
  .rename_i a hx;simp only[Option.some.injEq]at h;subst h;simp[he x _ hx]
  cases h
 | call c=>
  simp only[pv]at h;split at h
  .rename_i hcal;split at h
   .rename_i x hargs;split at h
    .rename_i t hty;have O:c.args = #[x]:=by grind
     have hb:c.argTypes = #[t]:=by grind
     split at h
     .rename_i e' hk;split at h
      .rename_i A m c' hx;simp only[Option.some.injEq]at h;subst h;have B:P.underlying t=some (.slice e'):=by
        obtain⟨r,j,G⟩:=Option.map_eq_some_iff.1 hk;have:=hT.at j;grind [Yu]
       simp[resolve,hcal,O,hb,invoke,builtin,Builtin.len_,run_underlying B,he x _ hx,goInt]
      cases h
     .rename_i hk;split at h
      .rename_i s hx;simp only[Option.some.injEq]at h;subst h;have B:P.underlying t=some .string:=by
        obtain⟨r,j,G⟩:=Option.map_eq_some_iff.1 hk;have:=hT.at j;grind [Yu]
       simp[resolve,hcal,O,hb,invoke,builtin,Builtin.len_,run_underlying B,he x _ hx,goInt]
      cases h
     cases h
    cases h
   cases h
  .rename_i hcal;split at h
   .rename_i x y hargs;have O:c.args = #[x,y]:=by grind
    split at h
    .rename_i k a hx;split at h
     .rename_i k' b hy;split at h
      .simp only[Option.some.injEq]at h;subst h;simp[resolve,hcal,O,invoke,builtin,Builtin.min_,Builtin.min2,he x _ hx,he y _ hy]
      cases h
     cases h
    cases h
   cases h
  .rename_i hcal;split at h
   .rename_i x y hargs;have O:c.args = #[x,y]:=by grind
    split at h
    .rename_i k a hx;split at h
     .rename_i k' b hy;split at h
      .simp only[Option.some.injEq]at h;subst h;simp[resolve,hcal,O,invoke,builtin,Builtin.max_,Builtin.max2,he x _ hx,he y _ hy]
      cases h
     cases h
    cases h
   cases h
  cases h
 | makeFunc fn first captured=>
  simp only[pv]at h;split at h
  .rename_i us D;split at h
   .rename_i vs hv;simp only[Option.some.injEq]at h;subst h;have B:=Jhv he D;have U:=Jhv he hv;have J:first.map ρ=us.toArray:=by grind
    have Z:captured.map ρ=vs.toArray:=by grind
    simp[J,Z,Instr.makeFunc]
   cases h
  cases h
 | _=>simp[pv]at h
end
section
variable {P:Program} {n:Nat} {al:AL} {w:World} {Q:Exit->Act->World->Prop} {ops:Array Oper} {rest:List Oper}
variable {d ty:Nat} {op:Op} {pos:String} {aft:Array Edge}
theorem wop(hd:Nat.blt d n=true)(h:∀ a,Fr n al a->(execOp a.eval ⟨some d,op,ty,pos,aft,none⟩).run P w=.ok (.value v) w')(k:WL P n ops Q rest ((d,v)::al) w'): WL P n ops Q (⟨some d,op,ty,pos,aft,none⟩::rest) al w:=λa j=>
 wpList_plain rfl λK u=>by
  have i:d<n:=by(have:d+1<=n:=by simpa [Nat.blt] using hd);(omega)
  unfold Oper.wp;rw[h a j,Oper.upon_value];exact u _ _ (k _ (j.put i v))
theorem Jqq(h:∀ a,Fr n al a->(execOp a.eval ⟨none,op,ty,pos,aft,none⟩).run P w=.ok .skip w')(k:WL P n ops Q rest al w'): WL P n ops Q (⟨none,op,ty,pos,aft,none⟩::rest) al w:=λa i=>
 wpList_plain rfl λK j=>by
  unfold Oper.wp;rw[h a i,Oper.upon_skip];exact j _ _ (k _ i)
theorem wp{tt:TT}(hT:TOk P tt)(hv:pv tt (ev al) op=some v)(hd:Nat.blt d n=true)(k:WL P n ops Q rest ((d,v)::al) w):
  WL P n ops Q (⟨some d,op,ty,pos,aft,none⟩::rest) al w :=
 wop hd (λa j=>Ge w hT (λx u i=>j.ev i) hv) k
theorem wpn{tt:TT}(hT:TOk P tt)(hv:pv tt (ev al) op=some v)(k:WL P n ops Q rest al w):
  WL P n ops Q (⟨none,op,ty,pos,aft,none⟩::rest) al w:=λa i=>
 wpList_plain rfl λK y=>by
  unfold Oper.wp;rw[Ge w hT (λx u j=>i.ev j) hv,Oper.upon_value];exact y _ _ (k _ i)
theorem wpe{tt:TT}(hT:TOk P tt)(hv:pv tt (ev al) op=some v)(hd:Nat.blt d n=true)(e:v=v')(k:WL P n ops Q rest ((d,v')::al) w):
  WL P n ops Q (⟨some d,op,ty,pos,aft,none⟩::rest) al w:=by grind [wp]
theorem wadd{b:Int}(hx:ev al x=some (.int .i64 a))(hy:ev al y=some (.int .i64 b))(hc:-9223372036854775808<=a+b/\a+b<=9223372036854775807)(hd:Nat.blt d n=true)(k:WL P n ops Q rest ((d,.int .i64 (a+b))::al) w): WL P n ops Q (⟨some d,.binOp .add t x y yt,ty,pos,aft,none⟩::rest) al w :=
 wpe (tt:=[]) trivial (v:=.int .i64 (IntKind.i64.wrap (a+b))) (by grind [pv,bop]) hd (by rw[IntKind.wrap_i64];congr 1;omega) k
theorem wsub{b:Int}(hx:ev al x=some (.int .i64 a))(hy:ev al y=some (.int .i64 b))(hc:-9223372036854775808<=a-b/\a-b<=9223372036854775807)(hd:Nat.blt d n=true)(k:WL P n ops Q rest ((d,.int .i64 (a-b))::al) w): WL P n ops Q (⟨some d,.binOp .sub t x y yt,ty,pos,aft,none⟩::rest) al w :=
 wpe (tt:=[]) trivial (v:=.int .i64 (IntKind.i64.wrap (a-b))) (by grind [pv,bop]) hd (by rw[IntKind.wrap_i64];congr 1;omega) k
theorem wmul{b:Int}(hx:ev al x=some (.int .i64 a))(hy:ev al y=some (.int .i64 b))(hc:-9223372036854775808<=a*b/\a*b<=9223372036854775807)(hd:Nat.blt d n=true)(k:WL P n ops Q rest ((d,.int .i64 (a*b))::al) w): WL P n ops Q (⟨some d,.binOp .mul t x y yt,ty,pos,aft,none⟩::rest) al w :=
 wpe (tt:=[]) trivial (v:=.int .i64 (IntKind.i64.wrap (a*b))) (by grind [pv,bop]) hd (by rw[IntKind.wrap_i64];congr 1;omega) k
theorem Jzw{b:Int}(hx:ev al x=some (.int k1 a))(hy:ev al y=some (.int k2 b))(h0:0<=b)(hd:Nat.blt d n=true)(k:WL P n ops Q rest ((d,.int k1 (k1.wrap (a*2^(min b.toNat k1.bits))))::al) w): WL P n ops Q (⟨some d,.binOp .shl t x y yt,ty,pos,aft,none⟩::rest) al w :=
 wop hd (λe i=>by
  have j:¬ b<0:=om
  simp[execOp,i.ev hx,i.ev hy,eqGuard,binOp,Op.shift,j]) k
theorem Zk{b:Int}(hx:ev al x=some (.int k1 a))(hy:ev al y=some (.int k2 b))(h0:0<=b)(hd:Nat.blt d n=true)(k:WL P n ops Q rest ((d,.int k1 (a.fdiv (2^(min b.toNat k1.bits))))::al) w): WL P n ops Q (⟨some d,.binOp .shr t x y yt,ty,pos,aft,none⟩::rest) al w :=
 wop hd (λe i=>by
  have j:¬ b<0:=om
  simp[execOp,i.ev hx,i.ev hy,eqGuard,binOp,Op.shift,j]) k
theorem Ie{b:Int}(hx:ev al x=some (.int k1 a))(hy:ev al y=some (.int k1 b))(h0:b≠0)(hd:Nat.blt d n=true)(k:WL P n ops Q rest ((d,.int k1 (k1.wrap (a.tdiv b)))::al) w): WL P n ops Q (⟨some d,.binOp .quo t x y yt,ty,pos,aft,none⟩::rest) al w :=
 wop hd (λe i=>by simp[execOp,i.ev hx,i.ev hy,eqGuard,binOp,Op.intDiv,h0]) k
theorem wrem{b:Int}(hx:ev al x=some (.int k1 a))(hy:ev al y=some (.int k1 b))(h0:b≠0)(hd:Nat.blt d n=true)(k:WL P n ops Q rest ((d,.int k1 (a.tmod b))::al) w): WL P n ops Q (⟨some d,.binOp .rem t x y yt,ty,pos,aft,none⟩::rest) al w :=
 wop hd (λe i=>by simp[execOp,i.ev hx,i.ev hy,eqGuard,binOp,Op.intDiv,h0]) k
def Zf(ops:Array Oper)(j:Nat): Option Nat:=match nth ops.toList j with
 | some o=>o.dst
 | none=>none
theorem Jqn{a:Act}(ha:Fr n al a)(hj:Zf ops j=some s)(hs:lk al s=some (.bool b)): yielded ops a.tmps j=some b:=by
 unfold Zf at hj;rw[Xq]at hj;split at hj
 .rename_i o ho;have i:ops[j]?=some o:=by rw[<-ho];simp
  have:=ha.has s _ hs;simp only[Array.getD_eq_getD_getElem?]at this;cases hq:a.tmps[s]? with
  | none=>rw[hq]at this;cases this
  | some u=>
   rw[hq]at this;simp only[Option.getD_some]at this;subst this;simp[yielded,i,hj,hq]
 cases hj
theorem Qyz{dst:Option Nat}(hj:Zf ops j=some s)(hs:lk al s=some (.bool b))(k:WL P n ops Q (⟨dst,op,ty,pos,aft,none⟩::rest) al w):
  WL P n ops Q (⟨dst,op,ty,pos,aft,some (j,b)⟩::rest) al w:=λa i=>by
 have h:=k a i;have u:=Jqn (ops:=ops) i hj hs;unfold wpList at h ⊢;have B:Region.wanted (⟨dst,op,ty,pos,aft,none⟩:Oper) (yielded ops a.tmps)=true:=rfl;have y:Region.wanted (⟨dst,op,ty,pos,aft,some (j,b)⟩:Oper) (yielded ops a.tmps)=true:=by simp[Region.wanted,u]
 rw[if_pos B]at h;rw[if_pos y];exact h
theorem wpass{c:Bool}(hj:Zf ops j=some s)(hs:lk al s=some (.bool b))(hne:(b == c)=false)(hd:Nat.blt d n=true)(k:WL P n ops Q rest ((d,undef)::al) w):
  WL P n ops Q (⟨some d,op,ty,pos,aft,some (j,c)⟩::rest) al w:=λa u=>by
 have i:d<n:=by(have:d+1<=n:=by simpa [Nat.blt] using hd);(omega)
 have y:=Jqn (ops:=ops) u hj hs;unfold wpList;have B:¬ Region.wanted (⟨some d,op,ty,pos,aft,some (j,c)⟩:Oper) (yielded ops a.tmps)=true:=by
  simp[Region.wanted,y];simpa using hne
 rw[if_neg B];exact k _ (u.put i undef)
theorem wpart(s:Nat)(hs:lk al s=some (.bool b))(ht:b=true->WL P n ops Q l ((s,.bool true)::al) w)(hf:b=false->WL P n ops Q l ((s,.bool false)::al) w): WL P n ops Q l al w:=by
 cases b
 .exact(hf rfl).sub (Sub.cons hs Sub.refl)
 exact(ht rfl).sub (Sub.cons hs Sub.refl)
theorem wknow(s:Nat)(u:Value)(hs:lk al s=some v)(hv:v=u)(k:WL P n ops Q l ((s,u)::al) w): WL P n ops Q l al w:=by
 subst hv;exact k.sub (Sub.cons hs Sub.refl)
theorem wkt(s:Nat)(hs:lk al s=some (.bool b))(hb:b=true)(k:WL P n ops Q l ((s,.bool true)::al) w): WL P n ops Q l al w:=by
 subst hb;exact k.sub (Sub.cons hs Sub.refl)
theorem wkf(s:Nat)(hs:lk al s=some (.bool b))(hb:b=false)(k:WL P n ops Q l ((s,.bool false)::al) w): WL P n ops Q l al w:=by
 subst hb;exact k.sub (Sub.cons hs Sub.refl)
end
theorem beq_t{b:Int}(h:a=b): (a == b)=true:=beq_iff_eq.2 h
theorem Jcq{b:Int}(h:a≠b): (a == b)=false:=beq_eq_false_iff_ne.2 h
theorem Ug{b:Int}(h:(a == b)=true): a=b:=beq_iff_eq.1 h
theorem Uj{b:Int}(h:(a == b)=false): a≠b:=beq_eq_false_iff_ne.1 h
theorem Jmb{b:Int}(h:a=b): (a != b)=false:=by subst h;simp
theorem Kx{b:Int}(h:(a != b)=true): a≠b:=bne_iff_ne.1 h
theorem Kz{b:Int}(h:(a != b)=false): a=b:=by simpa using h
theorem Vn(h:-9223372036854775808<=z/\z<=9223372036854775807): IntKind.i64.wrap z=z:=by rw[IntKind.wrap_i64];omega
theorem Zt(h:0<=z/\z<=18446744073709551615): IntKind.u64.wrap z=z:=by rw[IntKind.wrap_u64];omega
end Go.Wk
namespace Go.Wk
open Go.RowKit
variable {p:Addr}{parts:Array (Nat×Operand)}{ats:Array TypeId}{fn:Func}{f:FuncId}{kd:IntKind}{l:List UInt8}{args cs news vs xs:List Value}{base bytes c c' e g m m' n q t:Nat}{x y:Operand}{A A':Option Addr}{dst r row:Option Nat}{hi lo mx:Option Operand}{k k2 k3:TK}{i:TypeInfo}{u v z:Value}{Φ:Value->World->Prop}{a b w w':World}
abbrev Ext(w w':World): Prop:=Below w.heap.size w w'
theorem Ext.refl(w:World): Ext w w:=Below.refl _ _
theorem Ext.trans{a b c:World}(h:Ext a b)(k:Ext b c): Ext a c:=Below.trans h (k.mono h.size)
theorem Ext.drew{a b:World}(h:Ext a b): Ext a b.drew:=Below.drew h
theorem Ext.alloc{a b:World}(h:Ext a b)(o:Obj): Ext a (b.alloc o):=Below.alloc h h.size o
theorem Ext.setCell{a b:World}(h:Ext a b){p:Addr}(hp:a.heap.size<=p.block)(u:Value): Ext a (b.setCell p u):=Below.setCell h hp u
theorem Uo(a:Addr)(n:Nat): (a.add n).block=a.block:=by unfold Addr.add;split<;>rfl
theorem Jvf(a:Addr)(i j:Nat): (a.add i).add j=a.add (i+j):=by
 unfold Addr.add;grind
theorem add_zero(a:Addr): a.add 0=a:=by simp[Addr.add]
theorem Zm(b o j:Nat): (⟨b,o,none⟩:Addr).add j=⟨b,o+j,none⟩:=by unfold Addr.add;split<;>simp_all
def adr(A:Option Addr)(k:Nat): Addr:=(A.getD ⟨0,0,none⟩).add k
theorem Gh(A:Option Addr)(k j:Nat): (adr A k).add j=adr A (k+j):=by unfold adr;rw[Jvf]
def Rd(w:World)(sz:Nat)(A:Option Addr)(n:Nat)(cs:List Value): Prop :=
 cs.length=n*sz/\(0<cs.length->∃ ad,A=some ad/\ad.block<w.heap.size/\∀ j u,cs[j]?=some u->w.cell? (ad.add j)=some u)
section
variable {w w':World} {sz n:Nat} {A:Option Addr} {cs:List Value}
theorem Rd.nil: Rd w sz A 0 []:=⟨by simp,λh=>absurd h (by simp)⟩
theorem Rd.len(h:Rd w sz A n cs): cs.length=n*sz:=h.1
theorem Rd.ext(h:Rd w sz A n cs)(hx:Ext w w'): Rd w' sz A n cs :=
 ⟨h.1,λh0=>by
  obtain⟨i,e,D,B⟩:=h.2 h0;exact⟨i,e,Nat.lt_of_lt_of_le D hx.size,λj u y=>(hx.cell (p:=i.add j) (by grind [Uo])).trans (B j u y)⟩⟩
theorem Rd.cell(h:Rd w sz A n cs){k:Nat}(hk:cs[k]?=some u): w.cell? (adr A k)=some u:=by
 obtain⟨j,rfl,_,i⟩:=h.2 (by grind);exact i k u hk
theorem Rd.isome(h:Rd w sz A n cs)(h0:0<n)(hs:0<sz): ∃ ad,A=some ad/\ad.block<w.heap.size:=by
 obtain⟨ad,e,i,_⟩:=h.2 (by rw[h.1];exact Nat.mul_pos h0 hs);exact⟨ad,e,i⟩
theorem Rd.cut(h:Rd w sz A n cs)(k m q:Nat)(hk:k<=m)(hm:m<=n)(hq:n<=q∨k<q∨k=m):
  Rd w sz (if q=k then A else A.map (·.add (k*sz))) (m-k) ((cs.drop (k*sz)).take ((m-k)*sz)):=by
 refine⟨?_,λh0=>?_⟩
 .rw[List.length_take,List.length_drop,h.1,<-Nat.sub_mul];grind [Nat.min_eq_left,Nat.mul_le_mul_right]
 rw[List.length_take,List.length_drop,h.1]at h0;have i:k<m:=by grind
 obtain⟨y,rfl,G,D⟩:=h.2 (by rw[h.1];omega);rw[if_neg om];refine⟨y.add (k*sz),rfl,by grind [Uo],λj u B=>?_⟩;rw[Jvf];grind
theorem Rd.own{e:TypeId}(h:w.ownsRow base e sz (.slice A n c) n cs): Rd w sz A n cs:=by
 refine⟨h.1,λh0=>?_⟩;have hn:0<n:=by
  rcases Nat.eq_zero_or_pos n with h'|h'
  .rw[h.1,h']at h0;simp at h0
  exact h'
 obtain⟨g,y,j,_,i⟩:=h.form hn;have u:A=some ⟨g,0,none⟩:=by injection j
 subst u;exact⟨_,rfl,i,h.cells (g:=g) rfl⟩
end
def RdV(w:World)(sz:Nat)(v:Value)(cs:List Value): Prop:=∃ A n c,v=.slice A n c/\n<=c/\Rd w sz A n cs
theorem RdV.ext{w w':World}{sz:Nat}{v:Value}{cs:List Value}(h:RdV w sz v cs)(hx:Ext w w'): RdV w' sz v cs:=by
 obtain⟨A,n,c,i,u,j⟩:=h;exact⟨A,n,c,i,u,j.ext hx⟩
theorem Jv{e:TypeId}{sz:Nat}(h:w.ownsRow base e sz v n cs): ∃ A c,v=.slice A n c/\n<=c/\(∀ g,v.ownBlock=some g->base<=g/\g<w.heap.size):=by
 rcases h.2 with⟨rfl,rfl⟩|⟨g,cap,cur,rfl,hb,hh,hle,_⟩
 .exact⟨none,0,rfl,Nat.le_refl _,λg i=>by simp[Value.ownBlock]at i⟩
 refine⟨_,cap,rfl,hle,λj i=>?_⟩;have:g=j:=by simpa [Value.ownBlock] using i
 grind
theorem RdV.own{w:World}{base:Nat}{e:TypeId}{sz n:Nat}{v:Value}{cs:List Value}(h:w.ownsRow base e sz v n cs): RdV w sz v cs:=by
 obtain⟨A,c,rfl,i,_⟩:=Jv h;exact⟨A,n,c,rfl,i,Rd.own h⟩
theorem Xr(w:World)(base:Nat)(e:TypeId)(sz:Nat): w.ownsRow base e sz (.slice none 0 0) 0 []:=⟨by simp,.inl ⟨rfl,rfl⟩⟩
def Blk(w:World)(g:Nat)(t:TypeId)(cs:List Value): Prop:=w.heap[g]?=some (.cells cs.toArray t (0,0))
section
variable {w w':World} {g:Nat} {t:TypeId} {cs:List Value}
theorem Blk.lt(h:Blk w g t cs): g<w.heap.size:=by grind [Nat.lt_or_ge,Blk]
theorem Blk.cell(h:Blk w g t cs)(i:Nat): w.cell? ⟨g,i,none⟩=cs[i]?:=by
 unfold Blk at h;simp[World.cell?,h]
theorem Blk.at(h:Blk w g t cs){i:Nat}(hv:cs[i]?=some v): w.cell? ((⟨g,0,none⟩:Addr).add i)=some v:=by
 rw[Zm,Nat.zero_add,h.cell,hv]
theorem Blk.frozen(h:Blk w g t cs)(i:Nat): w.frozen? ⟨g,i,none⟩=false:=by
 unfold Blk at h;simp[World.frozen?,h]
theorem Blk.ext(h:Blk w g t cs)(hx:Ext w w'): Blk w' g t cs:=(hx.block g h.lt).trans h
theorem Blk.set(h:Blk w g t cs)(i:Nat)(u:Value): Blk (w.setCell ⟨g,i,none⟩ u) g t (cs.set i u):=by
 unfold Blk at h ⊢;simp[World.setCell,Array.getElem?_modify,h]
theorem Blk.far(h:Blk w g t cs)(hp:g≠p.block)(u:Value): Blk (w.setCell p u) g t cs:=(Below.heap_setCell w p u g hp).trans h
theorem Blk.grown(h:Blk w g t cs)(hb:w.grownBy w' row)(hg:some g≠row): Blk w' g t cs:=(hb.block g h.lt hg).trans h
theorem Blk.rd(h:Blk w g t cs){sz:Nat}(hl:cs.length=n*sz): Rd w sz (some ⟨g,0,none⟩) n cs :=
 ⟨hl,λ_=>⟨_,rfl,h.lt,λj u i=>h.at i⟩⟩
theorem Blk.own(h:Blk w g t cs){sz:Nat}(hb:base<=g)(hl:cs.length=n*sz)(hm:n<=maxLen): w.ownsRow base t sz (.slice (some ⟨g,0,none⟩) n n) n cs :=
 ⟨hl,.inr ⟨g,n,cs.toArray,rfl,hb,h,Nat.le_refl _,hm,by simpa using hl,by rw[<-hl];simp⟩⟩
end
theorem Ja(h:Ext a w)(hg:w.grownBy w' row)(hr:∀ k,row=some k->a.heap.size<=k): Ext a w':=Below.grown h hg h.size hr
theorem Rd.grown{sz:Nat}(h:Rd w sz A n cs)(hg:w.grownBy w' row)(hr:∀ ad,A=some ad->row≠some ad.block): Rd w' sz A n cs :=
 ⟨h.1,λh0=>by
  obtain⟨ad,e,i,B⟩:=h.2 h0;refine⟨ad,e,Nat.lt_of_lt_of_le i hg.size,λj u y=>?_⟩;rw[<-B j u y];exact World.cell?_of_block (by rw[Uo];exact hg.block _ i (λD=>hr ad e D.symm))⟩
def Qyh(P:Program)(f:FuncId): Prop:=∃ fn c,P.funcs[f]?=some fn/\fn.body=some c/\(fn.name == "runtime.NumGoroutine")=false
structure Ret(P:Program)(f:FuncId)(vs:List Value)(w:World)(Φ:Value->World->Prop): Prop where
 ok:Qyh P f
 calls:Calls P f vs.toArray w λe w'=>∃ v,e=.returned v/\Φ v w'
section
variable {P:Program} {n:Nat} {al:AL} {w:World}
theorem Ret.mono{f:FuncId}{vs:List Value}{Φ Φ':Value->World->Prop}(h:Ret P f vs w Φ)(hm:∀ v w',Φ v w'->Φ' v w'): Ret P f vs w Φ' :=
 ⟨h.ok,h.calls.mono λe w' ⟨v,j,i⟩=>⟨v,j,hm v w' i⟩⟩
def Yk(P:Program)(fn:Func)(Φ:Value->World->Prop): Exit->Act->World->Prop:=bodyPost P fn λe w'=>∃ v,e=.returned v/\Φ v w'
theorem Jz{c:Code}(hf:P.funcs[f]?=some fn)(hn:fn.ntmps=n)(hb:fn.body=some c)(hname:(fn.name == "runtime.NumGoroutine")=false)(hle:Nat.ble args.length n=true)(h:WC P n c (Yk P fn Φ) (al0 0 args) w): Ret P f args w Φ :=
 ⟨⟨fn,c,hf,hb,hname⟩,enter hf hb hn hle h⟩
theorem done1(hr:fn.results = #[.tmp t])(ht:lk al t=some v)(h:Φ v w): QX n (Yk P fn Φ) .ret al w:=Qhf hr ht ⟨v,rfl,h⟩
theorem done2{u:Nat}{x y:Value}(hr:fn.results = #[.tmp t,.tmp u])(ht:lk al t=some x)(hu:lk al u=some y)(h:Φ (.tuple #[x,y]) w): QX n (Yk P fn Φ) .ret al w:=Qhd hr ht hu ⟨_,rfl,h⟩
theorem done3{u s:Nat}{x y:Value}(hr:fn.results = #[.tmp t,.tmp u,.tmp s])(ht:lk al t=some x)(hu:lk al u=some y)(hs:lk al s=some z)(h:Φ (.tuple #[x,y,z]) w): QX n (Yk P fn Φ) .ret al w:=Qhc hr ht hu hs ⟨_,rfl,h⟩
def Jcw(P:Program)(al:AL)(w:World): List ResultVar->List Value->Prop
 | [],[]=>True
 | .tmp t::r,v::vs=>lk al t=some v/\Jcw P al w r vs
 | .cell t ty::r,v::vs=>(∃ p,lk al t=some (.pointer (some p))/\(loadVar ty p).run P w=.ok v w)/\Jcw P al w r vs
 | _,_=>False
def Jyj(a:Act): ResultVar->Sem Value
 | .tmp t=>pure (a.tmps.getD t undef)
 | .cell b t=>do loadVar t (<-asAddr (a.tmps.getD b undef))
theorem Jfd{a:Act}(ha:Fr n al a): ∀ {rs:List ResultVar} {vs:List Value},Jcw P al w rs vs->(rs.mapM (Jyj a)).run P w=Result.ok vs w
 | [],[],_=>rfl
 | [],_::_,h=>h.elim
 | .tmp t::r,[],h=>h.elim
 | .cell _ _::_,[],h=>h.elim
 | .tmp t::r,v::vs,h=>by
  obtain⟨h1,h2⟩:=h;have:=Jfd ha h2;rw[List.mapM_cons,Sem.run_bind];simp only[Jyj,Sem.run_pure,Result.andThen_ok,Sem.run_bind,this,ha.has t v h1]
 | .cell b t::r,v::vs,h=>by
  obtain⟨⟨p,h1,h1'⟩,h2⟩:=h;have:=Jfd ha h2;rw[List.mapM_cons,Sem.run_bind];simp only[Jyj,Sem.run_bind,ha.has b _ h1,asAddr,Sem.run_pure,Result.andThen_ok,h1',this]
theorem Jzg{rs:List ResultVar}(hr:fn.results=rs.toArray)(hv:Jcw P al w rs vs)(hv':(if h:vs.toArray.size=1 then vs.toArray[0] else .tuple vs.toArray)=v)(h:Φ v w): QX n (Yk P fn Φ) .ret al w:=λa i=>by
 refine bodyPost_ret (v:=v) ?_ i.defers ⟨v,rfl,h⟩;have:=Jfd i hv;subst hv';have e:results fn a.tmps=(do let vs <-fn.results.mapM (Jyj a);pure (if h:vs.size=1 then vs[0] else .tuple vs)):=by
  unfold results;congr 1
 rw[e,hr,List.mapM_toArray];simp only[Sem.run_bind,Sem.run_map,this,Result.andThen_ok,Sem.run_pure]
end
section
variable {P:Program} {n:Nat} {al:AL} {w:World} {Q:Exit->Act->World->Prop} {ops:Array Oper} {rest:List Oper}
variable {d ty:Nat} {op:Op} {pos:String} {aft:Array Edge} {tt:TT}
theorem Jyh(h:Qyh P f)(args:Array Value)(w:World): (callFunc f args).run P w=.ok (.enter f args) w:=by
 obtain⟨B,c,y,u,j⟩:=h;have i:¬ B.name = "runtime.NumGoroutine":=by simpa using j
 simp[callFunc,y,u,i]
theorem Jcc{o:Oper}{a:Act}{K:Act->World->Prop}(h:(execOp a.eval o).run P w=.ok (.enter f vs.toArray) w)(hc:Ret P f vs w Φ)(k:∀ v w',Φ v w'->K (a.put o.dst v) w'): o.wp P a w K Q:=by
 unfold Oper.wp;rw[h,Oper.upon_enter];refine hc.calls.mono ?_;grind
theorem wcall{xs:Array Operand}(hx:evs al xs.toList=some vs)(hd:Nat.blt d n=true)(hc:Ret P f vs w Φ)(k:∀ v w',Φ v w'->WL P n ops Q rest ((d,v)::al) w'): WL P n ops Q (⟨some d,.call { callee:=.value (.func f),args:=xs,argTypes:=ats },ty,pos,aft,none⟩::rest) al w:=λa j=>
 wpList_plain rfl λK y=>by
  have i:d<n:=by(have:d+1<=n:=by simpa [Nat.blt] using hd);(omega)
  have D:xs.map a.eval=vs.toArray:=by rw[<-j.evs hx,<-List.map_toArray,Array.toArray_toList]
  have B:(execOp a.eval ⟨some d,.call { callee:=.value (.func f),args:=xs,argTypes:=ats },ty,pos,aft,none⟩).run P w=.ok (.enter f vs.toArray) w:=by
   simp[execOp,resolve,D,Act.eval,Deferred.ofValue,invoke,Jyh hc.ok]
  exact Jcc B hc λv w' u=>y _ _ (k v w' u _ (j.put i v))
theorem Qbf{first captured:Array Value}{xs:Array Operand}(hf:ev al x=some (.func (.func f) first captured))(hx:evs al xs.toList=some vs)(hd:Nat.blt d n=true)(hc:Ret P f (first.toList++vs++captured.toList) w Φ)(k:∀ v w',Φ v w'->WL P n ops Q rest ((d,v)::al) w'): WL P n ops Q (⟨some d,.call { callee:=.value x,args:=xs,argTypes:=ats },ty,pos,aft,none⟩::rest) al w:=λa j=>
 wpList_plain rfl λK y=>by
  have i:d<n:=by(have:d+1<=n:=by simpa [Nat.blt] using hd);(omega)
  have D:xs.map a.eval=vs.toArray:=by rw[<-j.evs hx,<-List.map_toArray,Array.toArray_toList]
  have B:(execOp a.eval ⟨some d,.call { callee:=.value x,args:=xs,argTypes:=ats },ty,pos,aft,none⟩).run P w=.ok (.enter f (first.toList++vs++captured.toList).toArray) w:=by
   have e:(first.toList++vs++captured.toList).toArray=first++vs.toArray++captured:=by apply Array.ext';simp
   rw[e];simp[execOp,resolve,D,j.ev hf,Deferred.ofValue,invoke,Jyh hc.ok]
  exact Jcc B hc λv w' u=>y _ _ (k v w' u _ (j.put i v))
theorem Gp(hT:TOk P tt){sz:Nat}(ht:tk tt t=some k)(hk:k.desc=.slice e)(hz:k.esz=sz): P.underlying t=some (.slice e)/\Zy P e=some sz:=by
 have:=hT.at ht;grind [Yu]
def Vj: TypeDesc->Bool
 | .bool | .int _ | .string | .pointer _ | .slice _ | .map _ _ | .func _ _ _ | .interface _=>true
 | _=>false
theorem Jvs(hT:TOk P tt)(ht:tk tt t=some k)(hk:Vj k.desc=true)(w:World): (isAgg t).run P w=.ok false w/\Zy P t=some k.size:=by
 have:=hT.at ht;unfold Yu at this;revert this
 cases hd:k.desc<;>intro h<;>rw[hd]at hk<;>simp[Vj]at hk<;>first
  | exact⟨by simp[isAgg,run_underlying h.1],h.2⟩
  | exact⟨by simp[isAgg,run_underlying h.1],h.2.2⟩
theorem Jkc(hT:TOk P tt)(ht:tk tt t=some k)(hk:k.desc=.invalid)(w:World): (isAgg t).run P w=.ok true w/\Zy P t=some k.size:=by
 have:=hT.at ht;unfold Yu at this;rw[hk]at this;obtain⟨fs,j,_,i⟩:=this;exact⟨by simp[isAgg,run_underlying j],i⟩
theorem Jnh(hT:TOk P tt){i:Operand}{sz:Nat}{z:Int}(q:Nat)(j:Nat)(ht:tk tt t=some k)(hk:k.desc=.slice e)(hz:k.esz=sz)(hx:ev al x=some (.slice A m c))(hi:ev al i=some (.int kd z))(hr:Rd w sz A m cs)(hj:z=(j:Int))(hlt:j<m)(h0:0<sz)(hq:j*sz=q)(hd:Nat.blt d n=true)(kk:WL P n ops Q rest ((d,.pointer (some (adr A q)))::al) w): WL P n ops Q (⟨some d,.indexAddr t x i,ty,pos,aft,none⟩::rest) al w:=by
 obtain⟨y,B⟩:=Gp hT ht hk hz;obtain⟨G,rfl,D⟩:=hr.isome om h0;subst hj;subst hq;refine wop hd (λa u=>?_) kk;simp[execOp,u.ev hx,u.ev hi,Instr.indexAt,asIntOf,run_underlying y,Ve w B,adr];intro h;omega
theorem wload(hT:TOk P tt)(ht:tk tt t=some k)(hk:Vj k.desc=true)(hx:ev al x=some (.pointer (some p)))(hc:w.cell? p=some v)(hd:Nat.blt d n=true)(kk:WL P n ops Q rest ((d,v)::al) w): WL P n ops Q (⟨some d,.load t x,ty,pos,aft,none⟩::rest) al w :=
 wop hd (λa i=>by simp[execOp,i.ev hx,Instr.loadAt,Instr.sureAddr,loadVar,(Jvs hT ht hk w).1,hc]) kk
theorem Jjd(hT:TOk P tt)(ht:tk tt t=some k)(hk:k.desc=.invalid)(hl:k.size=cs.length)(hc:∀ j u,cs[j]?=some u->w.cell? (p.add j)=some u): (loadVar t p).run P w=.ok (.agg cs.toArray) w:=by
 have i:=run_loadCells_list (P:=P) w p cs hc;rw[<-hl]at i;simp[loadVar,(Jkc hT ht hk w).1,Ve w (Jkc hT ht hk w).2,i]
theorem Jrq(hT:TOk P tt)(ht:tk tt t=some k)(hk:Vj k.desc=true)(hc:w.cell? p=some v): (loadVar t p).run P w=.ok v w:=by
 simp[loadVar,(Jvs hT ht hk w).1,hc]
theorem Qyt(hT:TOk P tt)(ht:tk tt t=some k)(hk:k.desc=.invalid)(hl:k.size=cs.length)(hx:ev al x=some (.pointer (some p)))(hc:∀ j u,cs[j]?=some u->w.cell? (p.add j)=some u)(hd:Nat.blt d n=true)(kk:WL P n ops Q rest ((d,.agg cs.toArray)::al) w): WL P n ops Q (⟨some d,.load t x,ty,pos,aft,none⟩::rest) al w :=
 wop hd (λa i=>by simp[execOp,i.ev hx,Instr.loadAt,Instr.sureAddr,Jjd (w:=w) hT ht hk hl hc]) kk
theorem Jmr(hT:TOk P tt)(ht:tk tt t=some k)(hk:k.size=1)(hp:Vj k.desc=true)(hx:ev al x=some (.pointer (some p)))(hy:ev al y=some v)(hv:v.oneCell'=true)(hc:w.cell? p=some u)(hf:w.frozen? p=false)(kk:WL P n ops Q rest al (w.setCell p v)): WL P n ops Q (⟨none,.store t x y,ty,pos,aft,none⟩::rest) al w:=by
 refine Jqq (λa B=>?_) kk;have j:=(Jvs hT ht hp w).2;rw[hk]at j;have i:v.cells = #[v]:=by cases v<;>simp_all [Value.oneCell',Value.cells]
 simp[execOp,B.ev hx,B.ev hy,Instr.storeAt,Instr.sureAddr,storeVar,i,Ve w j,storeCells,add_zero,run_store P w p v .plain hv,hc,hf]
theorem Jxq(w:World)(t:TypeId)(cs:List Value): Ext w (w.alloc (.cells cs.toArray t))/\Blk (w.alloc (.cells cs.toArray t)) w.heap.size t cs :=
 ⟨(Ext.refl w).alloc _,heap_alloc_new w _⟩
theorem wbox(hx:ev al x=some v)(hv:v.cells=cs.toArray)(hd:Nat.blt d n=true)(kk:∀ w1 b,Ext w w1->w.heap.size<=b->Blk w1 b t cs->WL P n ops Q rest ((d,.pointer (some ⟨b,0,none⟩))::al) w1): WL P n ops Q (⟨some d,.box t x,ty,pos,aft,none⟩::rest) al w :=
 wop hd (λa i=>by
   show _=Result.ok (Next.value (.pointer (some ⟨w.heap.size,0,none⟩))) (w.alloc (.cells cs.toArray t));simp[execOp,i.ev hx,Instr.box,newVar,newRow,hv]) (kk _ _ (Jxq w t cs).1 (Nat.le_refl _) (Jxq w t cs).2)
theorem Qbm(hz:Qe P t=some z)(hv:z.cells=cs.toArray)(hd:Nat.blt d n=true)(kk:∀ w1 b,Ext w w1->w.heap.size<=b->Blk w1 b t cs->WL P n ops Q rest ((d,.pointer (some ⟨b,0,none⟩))::al) w1): WL P n ops Q (⟨some d,.alloc t,ty,pos,aft,none⟩::rest) al w:=by
 have j:(zeroValue t).run P w=.ok z w:=by
  unfold Qe at hz;obtain⟨i,y,u⟩:=Option.bind_eq_some_iff.1 hz;simp[zeroValue,typeInfo,y,u]
 exact wop hd (λa B=>by
   show _=Result.ok (Next.value (.pointer (some ⟨w.heap.size,0,none⟩))) (w.alloc (.cells cs.toArray t));simp[execOp,Instr.alloc,j,newVar,newRow,hv]) (kk _ _ (Jxq w t cs).1 (Nat.le_refl _) (Jxq w t cs).2)
theorem Qbj(hx:evs al (parts.toList.map (·.2))=some vs)(hb:(Instr.build t ((parts.toList.map (·.1)).zip vs).toArray).run P w=.ok v w)(hd:Nat.blt d n=true)(kk:WL P n ops Q rest ((d,v)::al) w): WL P n ops Q (⟨some d,.build t parts,ty,pos,aft,none⟩::rest) al w :=
 wop hd (λa j=>by
  have y:=j.evs hx;have u:(parts.map fun (i,x)=>(i,a.eval x))=((parts.toList.map (·.1)).zip vs).toArray:=by grind
  simp[execOp,u,hb]) kk
def Bnd(al:AL)(o:Option Operand)(dflt r:Nat): Prop:=match o with
 | none=>r=dflt
 | some x=>∃ k z,ev al x=some (.int k z)/\z=(r:Int)
theorem Gs{x:Value}{k:IntKind}{z:Int}{r y:Nat}{code:BoundsCode}(hx:x=.int k z)(hz:z=(r:Int))(h:r<=y)(w:World): (Instr.sliceBound x y code).run P w=.ok r w:=by
 subst hx;subst hz;have:(r:Int)<=(y:Int):=om
 simp[Instr.sliceBound,asIntOf];intro h;omega
theorem Jrk{w:World}{a:Act}(ha:Fr n al a){sz:Nat}{l h:Nat}(hu:P.underlying t=some (.slice e))(hs:Zy P e=some sz)(hx:ev al x=some (.slice A m c))(hl:Bnd al lo 0 l)(hh:Bnd al hi m h)(hq:Bnd al mx c q)(hm:mx=none∨hi≠none)(h1:l<=h)(h2:h<=q)(h3:q<=c):
  (execOp a.eval ⟨dst,.slice t x lo hi mx,ty,pos,aft,none⟩).run P w=.ok (.value (.slice (if q=l then A else A.map (·.add (l*sz))) (h-l) (q-l))) w:=by
 have Z:(Instr.sliceBounds true m c (lo.map a.eval) (hi.map a.eval) (mx.map a.eval)).run P w=.ok (l,h,q) w:=by
  unfold Instr.sliceBounds;cases mx with
  | none=>
   have:q=c:=hq;subst this;cases hi with
   | none=>
    have:h=m:=hh;subst this;cases lo with
    | none=>have:l=0:=hl;subst this;simp
    | some y=>obtain⟨J,z,G,j⟩:=hl;simp[Gs (P:=P) (ha.ev G) j h1]
   | some y'=>
    obtain⟨U,O,u,i⟩:=hh;cases lo with
    | none=>have:l=0:=hl;subst this;simp[Gs (P:=P) (ha.ev u) i h2]
    | some y=>obtain⟨J,z,G,j⟩:=hl;simp[Gs (P:=P) (ha.ev u) i h2,Gs (P:=P) (ha.ev G) j h1]
  | some y3=>
   obtain⟨k3,z3,D,B⟩:=hq;cases hi with
   | none=>simp at hm
   | some y'=>
    obtain⟨U,O,u,i⟩:=hh;cases lo with
    | none=>have:l=0:=hl;subst this;simp[Gs (P:=P) (ha.ev D) B h3,Gs (P:=P) (ha.ev u) i h2]
    | some y=>obtain⟨J,z,G,j⟩:=hl;simp[Gs (P:=P) (ha.ev D) B h3,Gs (P:=P) (ha.ev u) i h2,Gs (P:=P) (ha.ev G) j h1]
 simp[execOp,ha.ev hx,Instr.sliceAt,run_underlying hu,Instr.slice,Z,Ve w hs]
theorem Jzv(hT:TOk P tt){sz:Nat}(l h q:Nat)(A':Option Addr)(m' c':Nat)(ht:tk tt t=some k)(hk:k.desc=.slice e)(hz:k.esz=sz)(hx:ev al x=some (.slice A m c))(hl:Bnd al lo 0 l)(hh:Bnd al hi m h)(hq:Bnd al mx c q)(hm:mx=none∨hi≠none)(h1:l<=h)(h2:h<=q)(h3:q<=c)(e1:(if q=l then A else A.map (·.add (l*sz)))=A')(e2:h-l=m')(e3:q-l=c')(hd:Nat.blt d n=true)(kk:WL P n ops Q rest ((d,.slice A' m' c')::al) w): WL P n ops Q (⟨some d,.slice t x lo hi mx,ty,pos,aft,none⟩::rest) al w:=by
 subst e1;subst e2;subst e3;obtain⟨i,j⟩:=Gp hT ht hk hz;grind [wop,Jrk]
theorem Qbh{len:Nat}(hx:evs al (parts.toList.map (·.2))=some vs)(hb:∀ w:World,(Instr.buildSlice t len ((parts.toList.map (·.1)).zip vs).toArray).run P w=.ok (.slice (some ⟨w.heap.size,0,none⟩) len len) (w.alloc (.cells cs.toArray e)))(hd:Nat.blt d n=true)(kk:∀ w1 b,Ext w w1->w.heap.size<=b->Blk w1 b e cs->WL P n ops Q rest ((d,.slice (some ⟨b,0,none⟩) len len)::al) w1): WL P n ops Q (⟨some d,.buildSlice t len parts,ty,pos,aft,none⟩::rest) al w :=
 wop hd (λa j=>by
  have y:=j.evs hx;have u:(parts.map fun (i,x)=>(i,a.eval x))=((parts.toList.map (·.1)).zip vs).toArray:=by grind
  simp[execOp,u,hb]) (kk _ _ (Jxq w e cs).1 (Nat.le_refl _) (Jxq w e cs).2)
structure ElT(P:Program)(t e sz bytes:Nat)(z:Value): Prop where
 sl:P.underlying t=some (.slice e)
 info:∃ i,P.info? e=some i/\i.zero=some z/\i.size=sz/\i.bytes=bytes
 cells:z.cells.size=sz
 pos:0<sz
def Apd(w:World)(base e sz:Nat)(v:Value)(m:Nat)(xs:List Value): Prop:=w.ownsRow base e sz v m xs∨∃ A,v=.slice A m m/\Rd w sz A m xs
theorem Apd.ext{w w':World}{base e sz:Nat}{v:Value}{m:Nat}{xs:List Value}(h:Apd w base e sz v m xs)(hx:Ext w w'): Apd w' base e sz v m xs:=by
 rcases h with h|⟨A,hv,hr⟩
 .refine .inl (h.kept (row:=none) ⟨hx.os,hx.tape,hx.output,hx.size,λk i _=>hx.block k i⟩ ?_);grind
 exact .inr ⟨A,hv,hr.ext hx⟩
theorem Jh{w:World}{sz:Nat}(h:w.ownsRow base e sz v m xs)(hx:Ext w w'): w'.ownsRow base e sz v m xs:=by
 refine h.kept (row:=none) ⟨hx.os,hx.tape,hx.output,hx.size,λk i _=>hx.block k i⟩ ?_;grind
theorem Apd.rdv{w:World}{sz:Nat}(h:Apd w base e sz v m xs): RdV w sz v xs:=by
 rcases h with h|⟨A,hv,hr⟩
 .exact RdV.own h
 exact⟨A,m,m,hv,Nat.le_refl _,hr⟩
theorem Qfx{t e:TypeId}(ht:P.underlying t=some (.slice e))(hi:P.info? e=some i)(tyy:TypeId)(A:Option Addr)(m c:Nat)(hmc:m<=c)(w:World)(c':Nat):
  (Builtin.append_ #[t,t] tyy #[.slice A m c,.slice none 0 c']).run P w=.ok (.slice A m c) w:=by
 cases A<;>simp[Builtin.append_,run_underlying ht,sizeOf,typeInfo,hi,Builtin.lenOf,Builtin.firstCells,hmc,storeCells]
theorem Qfw{t e:TypeId}(ht:P.underlying t=some (.slice e))(hi:P.info? e=some i)(tyy:TypeId)(A:Option Addr)(m c:Nat)(hmc:m<=c)(w:World)(A':Option Addr)(c':Nat):
  (Builtin.append_ #[t,t] tyy #[.slice A m c,.slice A' 0 c']).run P w=.ok (.slice A m c) w:=by
 cases A' with
 | none=>exact Qfx ht hi tyy A m c hmc w c'
 | some b=>cases A<;>simp[Builtin.append_,run_underlying ht,sizeOf,typeInfo,hi,Builtin.lenOf,Builtin.firstCells,hmc,storeCells,loadCells,loadCellsFrom]
theorem Jrs{sz:Nat}(hE:ElT P t e sz bytes z)(base:Nat)(tyy:TypeId)(ha:Apd w base e sz v m xs)(hr:Rd w sz A' m' news)(h1:∀ u∈news,u.oneCell'=true)(h63:m+m'<=maxLen)(hby:(m+m')*bytes<=140737488355328)(hbase:base<=w.heap.size):
  ∃ v' w',(Builtin.append_ #[t,t] tyy #[v,.slice A' m' c']).run P w=.ok v' w'/\Apd w' base e sz v' (m+m') (xs++news)/\(0<m'->w'.ownsRow base e sz v' (m+m') (xs++news)) /\
   (w.ownsRow base e sz v m xs->w'.ownsRow base e sz v' (m+m') (xs++news))/\((w.ownsRow base e sz v m xs/\w.grownBy w' v.ownBlock)∨Ext w w')/\(∀ g,v'.ownBlock=some g->v.ownBlock=some g∨w.heap.size<=g):=by
 obtain⟨i,hi,hz,O,Z⟩:=hE.info;rcases Nat.eq_zero_or_pos m' with h0|h0
 .subst h0;have hn:news=[]:=List.eq_nil_of_length_eq_zero (by rw[hr.1];simp);subst hn;obtain⟨A,n0,c,rfl,a1,y⟩:=ha.rdv;have U:n0=m:=by
   rcases ha with h|⟨A2,hv,_⟩
   repeat grind [Jv]
  subst U;refine⟨_,w,Qfw hE.sl hi tyy A n0 c a1 w A' c',by simpa using ha,λh=>absurd h om,λh=>by simpa using h,.inr (Ext.refl w),λg hg=>.inl hg⟩
 obtain⟨ad,rfl,hb,hc⟩:=hr.2 (by rw[hr.1];exact Nat.mul_pos h0 hE.pos);have a3:w.ownsRow base e sz v m xs∨∃ b,v=.slice (some b) m m/\Rd w sz (some b) m xs:=by
  rcases ha with h|⟨A,rfl,y⟩
  .exact .inl h
  cases A with
  | some b=>exact .inr ⟨b,rfl,y⟩
  | none=>
   have hx:xs=[]:=by
    rcases Nat.eq_zero_or_pos xs.length with h'|h'
    .grind
    obtain⟨_,D,_⟩:=y.2 h';cases D
   have hm:m=0:=by
    have:=y.1;rw[hx]at this;have hp:=hE.pos;grind [Nat.mul_eq_zero.1]
   subst hx;subst hm;exact .inl (Xr w base e sz)
 rcases a3 with h|⟨b,rfl,y⟩
 .obtain⟨v',w',B,D,G,_,h5⟩:=run_append_own_at (P:=P) w base t tyy e i z sz bytes hE.sl hi hz O Z hE.cells hE.pos v m xs h ad m' c' news hr.1 hc h1 h63 hby hbase;refine⟨v',w',B,.inl D,λ_=>D,λ_=>D,.inl ⟨h,G⟩,λg hg=>?_⟩;grind
 have a2:∀ j u,xs[j]?=some u->w.cell? (b.add j)=some u:=λj u hu=>by
  obtain⟨b',e',_,a4⟩:=y.2 (by grind);grind
 obtain⟨v',w',B,D,G⟩:=run_append_arg_grows (P:=P) w t tyy e i z sz bytes hE.sl hi hz O Z hE.cells hE.pos b m m xs y.1 a2 ad m' c' news hr.1 hc om h63 hby;have J:w'.ownsRow base e sz v' (m+m') (xs++news):=World.ownsRow.mono D hbase;refine⟨v',w',B,.inl J,λ_=>J,λ_=>J,.inr ⟨G.os,G.tape,G.output,G.size,λk hk=>G.block k hk (by simp)⟩,λg hg=>.inr (World.ownsRow.lt D g hg).1⟩
theorem Xl{w:World}(h:Ext w w')(row:Option Nat): w.grownBy w' row:=⟨h.os,h.tape,h.output,h.size,λk i _=>h.block k i⟩
theorem Xy{c:World}(h:a.grownBy b r)(k:b.grownBy c r): a.grownBy c r :=
 ⟨k.os.trans h.os,k.tape.trans h.tape,k.output.trans h.output,Nat.le_trans h.size k.size,λi hi hn=>(k.block i (nM hi h.size) hn).trans (h.block i hi hn)⟩
theorem Xvb{w:World}{sz:Nat}(h:Ext a w)(hg:(w.ownsRow a.heap.size e sz v m xs/\w.grownBy w' v.ownBlock)∨Ext w w'): Ext a w':=by
 rcases hg with⟨i,hg⟩|hg
 .exact Ja h hg λk j=>(World.ownsRow.lt i k j).1
 exact h.trans hg
theorem Qbl(hxa : Ext a w){sz:Nat}(hE : ElT P t e sz bytes z)(hx : ev al x = some v)(hy : ev al y = some (.slice A' m' c'))(ha : Apd w a.heap.size e sz v m xs)(hr : Rd w sz A' m' news)(h1 : ∀ u ∈ news, u.oneCell' = true)(h63 : m + m' ≤ maxLen)(hby : (m + m') * bytes ≤ 140737488355328)(hd : Nat.blt d n = true)(kk : ∀ v' w', Apd w' a.heap.size e sz v' (m + m') (xs ++ news) → (0 < m' → w'.ownsRow a.heap.size e sz v' (m + m') (xs ++ news)) → (w.ownsRow a.heap.size e sz v m xs → w'.ownsRow a.heap.size e sz v' (m + m') (xs ++ news)) →
      Ext a w' → w.grownBy w' v.ownBlock → (∀ g, v'.ownBlock = some g → v.ownBlock = some g ∨ w.heap.size ≤ g) → WL P n ops Q rest ((d, v') :: al) w'):
    WL P n ops Q (⟨some d, .call { callee := .builtin .append, args := #[x, y], argTypes := #[t, t] }, ty, pos, aft, none⟩ :: rest) al w := by
  obtain ⟨v', w', hrun, k1, k2, k3, k4, k5⟩ := Jrs hE a.heap.size ty ha (c' := c') hr h1 h63 hby hxa.size
  refine wop hd (fun a ha' => ?_) (kk v' w' k1 k2 k3 (Xvb hxa k4) (k4.elim (·.2) (fun h => Xl h _)) k5)
  simp [execOp, resolve, invoke, builtin, ha'.ev hx, ha'.ev hy, hrun]
theorem Blk.one{w:World}{t:TypeId}(h:Blk w g t [v]): Rd w 1 (some ⟨g,0,none⟩) 1 [v]:=h.rd (by simp)
theorem Qyx(hT:TOk P tt){i:Operand}{z:Int}(j:Nat)(ht:tk tt t=some k)(hk:k.desc=.slice e)(hz:k.esz=1)(hx:ev al x=some (.slice A m c))(hi:ev al i=some (.int kd z))(hr:Rd w 1 A m cs)(hj:z=(j:Int))(hlt:j<m)(hd:Nat.blt d n=true)(kk:WL P n ops Q rest ((d,.pointer (some (adr A j)))::al) w): WL P n ops Q (⟨some d,.indexAddr t x i,ty,pos,aft,none⟩::rest) al w :=
 Jnh hT j j ht hk hz hx hi hr hj hlt om om hd kk
theorem Xp{w:World}{sz:Nat}(h:w.ownsRow base e sz (.slice A m c) m xs)(hq:q<m*sz)(u:Value):
  w.cell? (adr A q)=xs[q]?/\w.frozen? (adr A q)=false/\(w.setCell (adr A q) u).ownsRow base e sz (.slice A m c) m (xs.set q u)/\base<=(adr A q).block/\w.grownBy (w.setCell (adr A q) u) (Value.slice A m c).ownBlock:=by
 have j:0<m:=by grind
 obtain⟨g,G,i,B,y⟩:=World.ownsRow.form h j;injection i with h1 _ h3
 subst h1;subst h3;have D:adr (some ⟨g,0,none⟩) q=⟨g,q,none⟩:=by simp[adr,Zm]
 rw[D];exact⟨World.ownsRow.cellAt h q hq,World.ownsRow.frozenAt h q,(World.ownsRow.stored h q u).1,B,(World.ownsRow.stored h q u).2⟩
theorem Blk.ne_own{w:World}(h:Blk w g t cs){sz:Nat}(ho:w.ownsRow base e sz v m xs)(hne:Nat.beq e t=false): some g≠v.ownBlock:=by
 have i:e≠t:=by intro u;subst u;simp at hne
 rcases ho.2 with⟨rfl,_⟩|⟨g',cap,cur,rfl,_,hh,_⟩
 .simp[Value.ownBlock]
 intro j;have:g=g':=by simpa [Value.ownBlock] using j
 subst this;unfold Blk at h;grind
theorem cut0(A:Option Addr)(q sz:Nat): (if q=0 then A else A.map (·.add (0*sz)))=A:=by
 split
 .rfl
 cases A<;>simp[Addr.add]
theorem Gz(hT:TOk P tt){dd:TypeDesc}(ht:tk tt t=some k)(hk:k.desc=dd)(hp:Vj dd=true): P.underlying t=some dd:=by
 have:=hT.at ht;grind [Yu,Vj]
theorem Jms(hT:TOk P tt){i:Operand}{s:ByteArray}{z:Int}(j:Nat)(ht:tk tt t=some k)(hk:k.desc=.string)(hx:ev al x=some (.string s))(hi:ev al i=some (.int kd z))(hj:z=(j:Int))(hlt:j<s.size)(hd:Nat.blt d n=true)(kk:WL P n ops Q rest ((d,.int .u8 ((s.data.toList.getD j 0).toNat:Int))::al) w): WL P n ops Q (⟨some d,.index t x i,ty,pos,aft,none⟩::rest) al w:=by
 have y:=Gz hT ht hk rfl;subst hj;refine wop hd (λa u=>?_) kk;have G:s[j]?=some s[j]:=by simp[hlt]
 have D:s.data.toList.getD j 0=s[j]:=by
  have B:j<s.data.toList.length:=by simpa using hlt
  simp[List.getD,List.getElem?_eq_getElem B];rfl
 rw[D];simp[execOp,u.ev hx,u.ev hi,Instr.index,asIntOf,run_underlying y,G]
def Bc(l:List UInt8): List Value:=l.map λc=>.int .u8 (c.toNat:Int)
theorem Jml(l:List UInt8): (Bc l).length=l.length:=by simp[Bc]
theorem Qyj{k:Nat}(h:k<l.length): (Bc l)[k]?=some (.int .u8 ((l.getD k 0).toNat:Int)):=by
 simp[Bc,List.getElem?_eq_getElem h]
def str(l:List UInt8): ByteArray:=⟨l.toArray⟩
theorem Qft{src dst e:TypeId}(hs:P.underlying src=some (.slice e))(he:P.underlying e=some (.int .u8))(hdst:P.underlying dst=some .string)(hr:Rd w 1 A m (Bc l)):
  (convert src dst (.slice A m c)).run P w=.ok (.string (str l)) w:=by
 have D:l.length=m:=by have:=hr.1;grind [Jml]
 cases A with
 | none=>
  have B:l=[]:=by
   rcases Nat.eq_zero_or_pos l.length with h|h
   .grind
   obtain⟨_,u,_⟩:=hr.2 (by rw[Jml];exact h);cases u
  subst B;exact run_convert_bytes_nil w src e hs he m c dst hdst
 | some ad=>
  rcases Nat.eq_zero_or_pos l.length with h|h
  .have B:l=[]:=List.eq_nil_of_length_eq_zero h;subst B;have y:m=0:=by simpa using D.symm
   subst y;rw[run_convert_bytes_string w src dst e _ 0 c hs he hdst];simp[Conv.bytesToString,loadCells,loadCellsFrom,str];rfl
  obtain⟨J,u,U,G⟩:=hr.2 (by rw[Jml];exact h);injection u with u
  subst u;have j:ad.spot=none:=by
   have h0:=G 0 _ (Qyj h);rw[add_zero]at h0;unfold World.cell? at h0;split at h0
   .split at h0
    .cases h0
    rename_i h3;simpa using h3
   cases h0
  obtain⟨b,o,O⟩:=ad;simp only at j;subst j;have:=run_convert_bytes_arg (P:=P) w src e hs he b o m c (l.map λc=>(c.toNat:Int)) (by simpa using D) (λi hi=>by
   have h0:=G i _ (Qyj om);grind [Zm,List.getD,List.getElem?_eq_getElem]) dst hdst
  rw[this];congr 2
  simp only[strOfNums,str,List.map_map];congr 2
  conv=>rhs;rw[<-List.map_id l]
  apply List.map_congr_left
  intro c _;simp
theorem Qbg(hT:TOk P tt){src dst:Nat}(hs:tk tt src=some k)(hk:k.desc=.slice e)(he:tk tt e=some k3)(hk3:k3.desc=.int .u8)(hdst:tk tt dst=some k2)(hk2:k2.desc=.string)(hx:ev al x=some (.slice A m c))(hr:Rd w 1 A m (Bc l))(hd:Nat.blt d n=true)(kk:WL P n ops Q rest ((d,.string (str l))::al) w): WL P n ops Q (⟨some d,.convert src dst x,ty,pos,aft,none⟩::rest) al w :=
 wop hd (λa i=>by simp[execOp,i.ev hx,Qft (Gp hT hs hk rfl).1 (Gz hT he hk3 rfl) (Gz hT hdst hk2 rfl) hr]) kk
end
end Go.Wk
namespace Go.Wk
open Go.RowKit
variable {a:Act}{K:Act->World->Prop}{p:Addr}{b:Bool}{z:Int}{kd:IntKind}{l:List (Nat×Oper)}{cs vs:List Value}{c e i id j m s t:Nat}{o oi:Oper}{x y:Operand}{A:Option Addr}{k:TK}{v:Value}
section
variable {P:Program} {ops:Array Oper} {Q:Exit->Act->World->Prop} {T:Nat->Bool}
def QF(Q:Exit->Act->World->Prop): Exit->Act->World->Prop
 | .normal,a,w=>Q .normal a w
 | _,_,_=>False
theorem Yo{Q Q':Exit->Act->World->Prop}(hp:∀ c a w,Q (.panic c) a w->Q' (.panic c) a w)(ho:LetsOut Q->LetsOut Q'){r:Result Next}(h:o.upon P a K Q r): o.upon P a K Q' r:=by
 cases r with
 | ok n w'=>
  cases n<;>simp only[Oper.upon]at h ⊢<;>first
   | exact h
   | exact Calls.mono h (λe i j=>by grind)
 | halt x w'=>cases x<;>simp only[Oper.upon]at h ⊢<;>first|exact h|exact hp _ _ _ h
theorem Jvj{w:World}(h:wpOp P ops (QF Q) i K a w): wpOp P ops Q i K a w:=by
 have j:¬ LetsOut (QF Q):=by rintro⟨a,w,h⟩;exact h
 unfold wpOp at *;split
 .grind
 rename_i o ho;simp only[ho]at h;split
 .rename_i hw;simp only[hw,if_true]at h;rcases h with h|⟨_,h⟩
  .exact .inl (Yo (Q:=QF Q) (λc a w u=>u.elim) (λu=>absurd u j) h)
  exact absurd h j
 repeat grind
def unl(ops:Array Oper)(listed:Array Bool)(i:Nat): Prop:=i<ops.size/\listed.getD i true=false
def Ub(P:Program)(ops:Array Oper)(Q:Exit->Act->World->Prop)(T:Nat->Bool): Nat->Array Bool->Act->World->Prop
 | 0,listed,a,w=>Region.ready .any ops listed=[]/\Q .normal a w
 | fuel+1,listed,a,w=>
  ((∀ i,unl ops listed i->T i=true)/\wpAny P .any ops Q (fuel+1) listed a w) ∨
  ((Region.ready .any ops listed=[]->Q .normal a w) /\
   ∀ i∈Region.ready .any ops listed,wpOp P ops (QF Q) i (λa' w'=>Ext w w'/\Ub P ops Q T fuel (listed.setIfInBounds i true) a' w') a w)
theorem Jdf: ∀(fuel:Nat) (listed:Array Bool) (a:Act) (w:World),Ub P ops Q T fuel listed a w->wpAny P .any ops Q fuel listed a w
 | 0,_,_,_,h=>h
 | fuel+1,_,_,_,h=>by
  rcases h with h|h
  .exact h.2
  exact⟨h.1,λi hi=>wpOp_mono (λa' w' h'=>Jdf fuel _ a' w' h'.2) (Jvj (h.2 i hi))⟩
def Jjb(ops:Array Oper)(T:Nat->Bool): Bool:=(List.range ops.size).all λt=>!T t || (List.range ops.size).all λi=>T i || match ops[t]? with
 | some o=>o.after.any λe=>Region.binds .any e && e.on == i
 | none=>false
theorem Qct(h:Jjb ops T=true)(ho:ops[t]?=some o)(ht:T t=true)(hi:i<ops.size)(hn:T i=false): ∃ e∈o.after,Region.binds .any e=true/\e.on=i:=by
 have j:t<ops.size:=by grind
 have u:=List.all_eq_true.1 h t (List.mem_range.2 j);grind
theorem Qgv(hT:Jjb ops T=true){listed:Array Bool}(hi:unl ops listed i)(hn:T i=false)(hj:j∈Region.ready .any ops listed): T j=false:=by
 cases h:T j with
 | false=>rfl
 | true=>
  obtain⟨D,U,B,u⟩:=mem_ready.1 hj;obtain⟨e,G,J,y⟩:=Qct hT B h hi.1 hn;have O:=u e G J;rw[y]at O;have h0:=hi.2;grind
theorem Jnc(hT:Jjb ops T=true)(hi:ops[i]?=some oi)(hn:T i=false)(hsel:∀(j:Nat) (o:Oper) cs b,ops[j]?=some o->o.op≠.select cs b):
  ∀(fuel:Nat) (listed:Array Bool) (a:Act) (w:World),
   (∀ j oj,ops[j]?=some oj->j≠i->listed.getD j true=false->(∀ e∈oj.after,Region.binds .any e=true->e.on≠i)->oi.apart ops oj=true) ->
   i∈Region.ready .any ops listed->YieldsIf P ops (Ext w) oi v a ->
   Ub P ops Q T fuel (listed.setIfInBounds i true) (a.put oi.dst v) w->Ub P ops Q T (fuel+1) listed a w:=by
 have a6:i<ops.size:=by grind
 intro fuel;induction fuel with
 | zero=>
  intro listed a w _ G hy H;refine .inr ⟨λh=>(by rw[h]at G;cases G),λj Z=>?_⟩;by_cases hji:j=i
  .subst hji;exact hy.wpOp hi (Ext.refl w) ⟨Ext.refl w,H⟩
  have:=ready_mono Z hji;rw[H.1]at this;cases this
 | succ fuel ih=>
  intro listed a w y G hy H;have a3:unl ops listed i:=⟨a6,(mem_ready.1 G).1⟩;refine .inr ⟨λh=>(by rw[h]at G;cases G),λj Z=>?_⟩;by_cases hji:j=i
  .subst hji;exact hy.wpOp hi (Ext.refl w) ⟨Ext.refl w,H⟩
  obtain⟨u,oj,B,a1⟩:=mem_ready.1 Z;have a7:T j=false:=Qgv hT a3 hn Z;rcases H with H|H
  .have:=H.1 j ⟨(Array.getElem?_eq_some_iff.1 B).1,by rw[getD_set_ne true (Ne.symm hji)];exact u⟩;grind
  have h1:=H.2 j (ready_mono Z hji);have U:∀ e∈oj.after,Region.binds .any e=true->e.on≠i:=λe he hb a8=>by
   have h1:=a1 e he hb;have h0:=(mem_ready.1 G).1;grind
  have h2:=wpOp_putIf B (y j oj B hji u U) (λcs b=>hsel i oi cs b hi) (λcs b=>hsel j oj cs b B) (λc a w h=>h) hy h1;have D:∀ k J,ops[k]?=some J->k≠i->(listed.setIfInBounds j true).getD k true=false ->
    (∀ e∈J.after,Region.binds .any e=true->e.on≠i)->oi.apart ops J=true:=λk J hk a5 O a4=>by
   refine y k J hk a5 ?_ a4;by_cases hjk:j=k
   .subst hjk;exact u
   rw[getD_set_ne true hjk]at O;exact O
  refine wpOp_mono (λa' w' h3=>⟨h3.2.1,ih (listed.setIfInBounds j true) a' w' D (ready_mono G (Ne.symm hji)) ?_ ?_⟩) h2
  .exact h3.1.imp (λ⟨h4,h5⟩=>⟨h4,λa2 hx=>h5 a2 (h3.2.1.trans hx)⟩) id
  rw[Array.setIfInBounds_comm _ _ hji];exact h3.2.2
def Xz(ops:Array Oper): List (Nat×Nat)->Array Bool->Bool
 | [],listed=>(Region.ready .any ops listed).isEmpty
 | (0,i)::r,listed=>(Region.ready .any ops listed).contains i && Region.free .any ops listed i && Xz ops r (listed.setIfInBounds i true)
 | (_,i)::r,listed=>(Region.ready .any ops listed == [i]) && Xz ops r (listed.setIfInBounds i true)
def Gr(s:List (Nat×Nat))(i:Nat): Bool:=s.any λp=>p.1 == 2 && p.2 == i
def Jbl: List (Nat×Nat)->Bool
 | []=>true
 | (k,_)::r=>Nat.ble k 2 && (k != 2 || r.all λp=>p.1 == 2) && Jbl r
def Jfb(ops:Array Oper)(s:List (Nat×Nat)): Bool :=
 Region.noSelect ops && (s.length == ops.size) && Jjb ops (Gr s) && Jbl s && (s.all λp=>(p.1 == 2) == Gr s p.2) && Xz ops s (Array.replicate ops.size false) && (s.all λp=>Nat.blt p.2 ops.size) && ((List.range ops.size).all λi=>s.any λp=>p.2 == i)
def wk1(P:Program)(ops:Array Oper)(Q:Exit->Act->World->Prop)(k:Nat)(o:Oper)(K:Act->World->Prop)(a:Act)(w:World): Prop :=
 match k with
 | 0=>∃ v,YieldsIf P ops (Ext w) o v a/\K (a.put o.dst v) w
 | 1=>if Region.wanted o (yielded ops a.tmps) then o.wp P a w (λa' w'=>Ext w w'/\K a' w') (QF Q) else K (a.put o.dst undef) w
 | _=>if Region.wanted o (yielded ops a.tmps) then o.wp P a w K (QF Q) else K (a.put o.dst undef) w
def Qc(P:Program)(ops:Array Oper)(Q:Exit->Act->World->Prop): List (Nat×Oper)->Act->World->Prop
 | [],a,w=>Q .normal a w
 | p::r,a,w=>wk1 P ops Q p.1 p.2 (Qc P ops Q r) a w
def Qk(l:List Oper): List (Nat×Nat)->List (Nat×Oper)
 | []=>[]
 | (k,i)::r=>match nth l i with
  | some o=>(k,o)::Qk l r
  | none=>Qk l r
theorem Jmw: ∀(s:List (Nat×Nat)) (listed:Array Bool) (a:Act) (w:World),(∀ p∈s,p.1=2)->(∀ p∈s,p.2<ops.size)->Xz ops s listed=true->Qc P ops Q (Qk ops.toList s) a w->wpAny P .any ops Q s.length listed a w
 | [],listed,a,w,_,_,hB,h=>⟨by simpa [Xz] using hB,h⟩
 | (k,i)::r,listed,a,w,hk,hlt,hB,h=>by
  obtain rfl:k=2:=hk _ (mC ..);have hi:i<ops.size:=hlt _ (mC ..);simp only[Xz,Bool.and_eq_true,beq_iff_eq]at hB;obtain⟨hr,hB'⟩:=hB;have ho:ops[i]?=some ops[i]:=Array.getElem?_eq_getElem hi;have hn:nth ops.toList i=some ops[i]:=by rw[Xq];simp[hi]
  simp only[Qk,hn,Qc,wk1]at h;refine⟨λh0=>(by rw[hr]at h0;cases h0),λj hj=>?_⟩;rw[hr]at hj;obtain rfl:j=i:=by simpa using hj
  have hrec:∀ a w,Qc P ops Q (Qk ops.toList r) a w->wpAny P .any ops Q r.length (listed.setIfInBounds j true) a w:=λa w h'=>
   Jmw r _ a w (λp hp=>hk p (List.mem_cons_of_mem _ hp)) (λp hp=>hlt p (List.mem_cons_of_mem _ hp)) hB' h'
  refine wpOp_mono hrec (Jvj ?_);unfold wpOp;grind
theorem Jnb(hsel:Region.noSelect ops=true)(hT:Jjb ops T=true): ∀(s:List (Nat×Nat)) (listed:Array Bool) (a:Act) (w:World),Jbl s=true->(∀ p∈s,p.2<ops.size)->(∀ p∈s,(p.1 == 2)=T p.2) ->
  (∀ i,unl ops listed i->∃ k,(k,i)∈s)->Xz ops s listed=true->Qc P ops Q (Qk ops.toList s) a w->Ub P ops Q T s.length listed a w
 | [],listed,a,w,_,_,_,_,hB,h=>⟨by simpa [Xz] using hB,h⟩
 | (k,i)::r,listed,a,w,hk,hlt,hKT,hall,hB,h=>by
  have hi:i<ops.size:=hlt _ (mC ..);have ho:ops[i]?=some ops[i]:=Array.getElem?_eq_getElem hi;have hn:nth ops.toList i=some ops[i]:=by rw[Xq];simp[hi]
  simp only[Jbl,Bool.and_eq_true]at hk;have hTi:=hKT _ (mC ..);simp only at hTi;have hall':∀ j,unl ops (listed.setIfInBounds i true) j->∃ k,(k,j)∈r:=λj hj=>by
   by_cases hji:j=i
   .subst hji;have h2:=hj.2;rcases Nat.lt_or_ge j listed.size with h'|h'
    .simp[h']at h2
    simp at h2
   obtain⟨k',hk'⟩:=hall j ⟨hj.1,by rw[<-getD_set_ne true (Ne.symm hji)];exact hj.2⟩;grind
  have hrec:Xz ops r (listed.setIfInBounds i true)=true->∀ a w,Qc P ops Q (Qk ops.toList r) a w->Ub P ops Q T r.length (listed.setIfInBounds i true) a w:=λhB' a w h'=>
   Jnb hsel hT r _ a w hk.2 (λp hp=>hlt p (List.mem_cons_of_mem _ hp)) (λp hp=>hKT p (List.mem_cons_of_mem _ hp)) hall' hB' h'
  match k,hTi,hk,hB,h with
  | 0,hTi,hk,hB,h=>
   simp only[Xz,Bool.and_eq_true]at hB;obtain⟨⟨hr,hf⟩,hB'⟩:=hB;simp only[Qk,hn,Qc,wk1]at h;obtain⟨v,hy,h⟩:=h;exact Jnc hT ho (by rw[<-hTi];rfl) (Region.noSelect_spec hsel) r.length listed a w (Region.free_spec ho hf) (by simpa using hr) hy (hrec hB' _ _ h)
  | 1,hTi,hk,hB,h=>
   simp only[Xz,Bool.and_eq_true,beq_iff_eq]at hB;obtain⟨hr,hB'⟩:=hB;simp only[Qk,hn,Qc,wk1]at h;refine .inr ⟨λh0=>(by rw[hr]at h0;cases h0),λj hj=>?_⟩;rw[hr]at hj;obtain rfl:j=i:=by simpa using hj
   unfold wpOp;simp only[ho];split
   .rename_i hw;simp only[hw,if_true]at h;exact .inl (Oper.wp_mono (λa' w' h'=>⟨h'.1,hrec hB' _ _ h'.2⟩) h)
   repeat grind [Ext.refl]
  | 2,hTi,hk,hB,h=>
   refine .inl ⟨λj hj=>?_,Jmw ((2,i)::r) listed a w ?_ hlt hB h⟩;repeat grind
  | k+3,hTi,hk,hB,h=>
   have:=hk.1.1;simp at this
end
section
variable {P:Program} {n:Nat} {al al':AL} {w:World} {Q:Exit->Act->World->Prop} {ops:Array Oper} {rest:List (Nat×Oper)}
def WD(P:Program)(n:Nat)(ops:Array Oper)(Q:Exit->Act->World->Prop)(l:List (Nat×Oper))(al:AL)(w:World): Prop:=∀ a,Fr n al a->Qc P ops Q l a w
theorem WD.sub{l:List (Nat×Oper)}(hs:Sub al' al)(h:WD P n ops Q l al' w): WD P n ops Q l al w:=λa i=>h a (i.sub hs)
theorem wdraw{l:List Oper}(s:List (Nat×Nat))(hm:P.follows .mixedOrders=true)(hB:Jfb l.toArray s=true)(h:WD P n l.toArray Q (Qk l s) al w.drew): WC P n (.region id l.toArray true) Q al w:=by
 intro a y;simp only[Jfb,Bool.and_eq_true,beq_iff_eq,List.all_eq_true,List.any_eq_true,List.mem_range]at hB;obtain⟨⟨⟨⟨⟨⟨⟨Z,u⟩,U⟩,O⟩,J⟩,G⟩,D⟩,B⟩:=hB;refine wp_region_any hm ?_;rw[<-u];refine Jdf (T:=Gr s) _ _ _ _ (Jnb Z U s _ a _ O (λp j=>?_) (λp j=>?_) (λi hi=>?_) (by rw[u];exact G) ?_)
 .have:=D p j;have h':p.2+1<=l.toArray.size:=by simpa [Nat.blt] using this
  omega
 .simpa using J p j
 .obtain⟨p,j,he⟩:=B i hi.1;grind
 have:=h a y;simpa using this
theorem Jzh(h:QX n Q .normal al w): WD P n ops Q [] al w:=λa i=>h a i
variable {d ty:Nat} {op:Op} {pos:String} {aft:Array Edge}
def Yld(P:Program)(n:Nat)(al:AL)(w:World)(o:Oper)(v:Value): Prop:=∀ w',Ext w w'->∀ a,Fr n al a->(execOp a.eval o).run P w'=.ok (.value v) w'
theorem dy(hy:Yld P n al w ⟨some d,op,ty,pos,aft,none⟩ v)(hd:Nat.blt d n=true)(k:WD P n ops Q rest ((d,v)::al) w): WD P n ops Q ((0,⟨some d,op,ty,pos,aft,none⟩)::rest) al w:=λa j=>by
 have i:d<n:=by(have:d+1<=n:=by simpa [Nat.blt] using hd);(omega)
 exact⟨v,.inl ⟨rfl,λw' u=>hy w' u a j⟩,k _ (j.put i v)⟩
theorem dp{tt:TT}(hT:TOk P tt)(hv:pv tt (ev al) op=some v)(hd:Nat.blt d n=true)(k:WD P n ops Q rest ((d,v)::al) w): WD P n ops Q ((0,⟨some d,op,ty,pos,aft,none⟩)::rest) al w :=
 dy (λw' _ a j=>Ge w' hT (λx u i=>j.ev i) hv) hd k
theorem dpn{tt:TT}(hT:TOk P tt)(hv:pv tt (ev al) op=some v)(k:WD P n ops Q rest al w): WD P n ops Q ((0,⟨none,op,ty,pos,aft,none⟩)::rest) al w:=λa j=>
 ⟨v,.inl ⟨rfl,λw' i=>Ge w' hT (λx u i=>j.ev i) hv⟩,k _ j⟩
theorem Xqk{kd:Nat}{dst:Option Nat}(hj:Zf ops j=some s)(hs:lk al s=some (.bool b))(k:WD P n ops Q ((kd,⟨dst,op,ty,pos,aft,none⟩)::rest) al w):
  WD P n ops Q ((kd,⟨dst,op,ty,pos,aft,some (j,b)⟩)::rest) al w:=λa y=>by
 have h:=k a y;have D:=Jqn (ops:=ops) y hj hs;have B:Region.wanted (⟨dst,op,ty,pos,aft,none⟩:Oper) (yielded ops a.tmps)=true:=rfl;have u:Region.wanted (⟨dst,op,ty,pos,aft,some (j,b)⟩:Oper) (yielded ops a.tmps)=true:=by simp[Region.wanted,D]
 unfold Qc wk1 at h ⊢;match kd,h with
 | 0,h=>
  obtain⟨v,i,G⟩:=h;refine⟨v,?_,G⟩;rcases i with i|i
  .exact .inl ⟨u,i.2⟩
  repeat grind
 | 1,h=>simp only[B,if_true]at h;simp only[u,if_true];exact h
 | k+2,h=>simp only[B,if_true]at h;simp only[u,if_true];exact h
theorem dpass{kd:Nat}{c:Bool}(hj:Zf ops j=some s)(hs:lk al s=some (.bool b))(hne:(b == c)=false)(hd:Nat.blt d n=true)(k:WD P n ops Q rest ((d,undef)::al) w):
  WD P n ops Q ((kd,⟨some d,op,ty,pos,aft,some (j,c)⟩)::rest) al w:=λa B=>by
 have i:d<n:=by(have:d+1<=n:=by simpa [Nat.blt] using hd);(omega)
 have D:=Jqn (ops:=ops) B hj hs;have y:Region.wanted (⟨some d,op,ty,pos,aft,some (j,c)⟩:Oper) (yielded ops a.tmps)=false:=by
  simp[Region.wanted,D];simpa using hne
 have u:=k _ (B.put i undef);unfold Qc wk1;match kd with
 | 0=>exact⟨undef,.inr ⟨y,rfl⟩,u⟩
 | 1=>simp only[y];exact u
 | m+2=>simp only[y];exact u
theorem dpart(s:Nat)(hs:lk al s=some (.bool b))(ht:b=true->WD P n ops Q l ((s,.bool true)::al) w)(hf:b=false->WD P n ops Q l ((s,.bool false)::al) w): WD P n ops Q l al w:=by
 cases b
 .exact(hf rfl).sub (Sub.cons hs Sub.refl)
 exact(ht rfl).sub (Sub.cons hs Sub.refl)
theorem dknow(s:Nat)(u:Value)(hs:lk al s=some v)(hv:v=u)(k:WD P n ops Q l ((s,u)::al) w): WD P n ops Q l al w:=by
 subst hv;exact k.sub (Sub.cons hs Sub.refl)
theorem dcall{f:FuncId}{xs:Array Operand}{ats:Array TypeId}{Φ:Value->World->Prop}(hx:evs al xs.toList=some vs)(hd:Nat.blt d n=true)(hc:Ret P f vs w Φ)(k:∀ v w',Φ v w'->Ext w w'/\WD P n ops Q rest ((d,v)::al) w'): WD P n ops Q ((1,⟨some d,.call { callee:=.value (.func f),args:=xs,argTypes:=ats },ty,pos,aft,none⟩)::rest) al w:=λa u=>by
 have i:d<n:=by(have:d+1<=n:=by simpa [Nat.blt] using hd);(omega)
 have B:xs.map a.eval=vs.toArray:=by rw[<-u.evs hx,<-List.map_toArray,Array.toArray_toList]
 have y:(execOp a.eval ⟨some d,.call { callee:=.value (.func f),args:=xs,argTypes:=ats },ty,pos,aft,none⟩).run P w=.ok (.enter f vs.toArray) w:=by
  simp[execOp,resolve,B,Act.eval,Deferred.ofValue,invoke,Jyh hc.ok]
 unfold Qc wk1;have D:Region.wanted (⟨some d,.call { callee:=.value (.func f),args:=xs,argTypes:=ats },ty,pos,aft,none⟩:Oper) (yielded ops a.tmps)=true:=rfl;simp only[D,if_true];exact Jcc y hc λv w' j=>⟨(k v w' j).1,(k v w' j).2 _ (u.put i v)⟩
variable {tt:TT}
theorem Zz{w w':World}(hx:Ext w w')(hc:w.cell? p=some v): w'.cell? p=some v:=by
 rw[<-hc];exact hx.cell (World.block_lt_of_cell? w p hc)
theorem dload(hT:TOk P tt)(ht:tk tt t=some k)(hk:Vj k.desc=true)(hx:ev al x=some (.pointer (some p)))(hc:w.cell? p=some v)(hd:Nat.blt d n=true)(kk:WD P n ops Q rest ((d,v)::al) w): WD P n ops Q ((0,⟨some d,.load t x,ty,pos,aft,none⟩)::rest) al w :=
 dy (λw' i a j=>by simp[execOp,j.ev hx,Instr.loadAt,Instr.sureAddr,Jrq (w:=w') hT ht hk (Zz i hc)]) hd kk
theorem Xqc(hT:TOk P tt)(ht:tk tt t=some k)(hk:k.desc=.invalid)(hl:k.size=cs.length)(hx:ev al x=some (.pointer (some p)))(hc:∀ j u,cs[j]?=some u->w.cell? (p.add j)=some u)(hd:Nat.blt d n=true)(kk:WD P n ops Q rest ((d,.agg cs.toArray)::al) w): WD P n ops Q ((0,⟨some d,.load t x,ty,pos,aft,none⟩)::rest) al w :=
 dy (λw' y a B=>by simp[execOp,B.ev hx,Instr.loadAt,Instr.sureAddr,Jjd (w:=w') hT ht hk hl (λj u i=>Zz y (hc j u i))]) hd kk
theorem Qkg(hT:TOk P tt){i:Operand}{sz:Nat}(q:Nat)(j:Nat)(ht:tk tt t=some k)(hk:k.desc=.slice e)(hz:k.esz=sz)(hx:ev al x=some (.slice A m c))(hi:ev al i=some (.int kd z))(hr:Rd w sz A m cs)(hj:z=(j:Int))(hlt:j<m)(h0:0<sz)(hq:j*sz=q)(hd:Nat.blt d n=true)(kk:WD P n ops Q rest ((d,.pointer (some (adr A q)))::al) w): WD P n ops Q ((0,⟨some d,.indexAddr t x i,ty,pos,aft,none⟩)::rest) al w:=by
 obtain⟨y,B⟩:=Gp hT ht hk hz;obtain⟨J,rfl,G⟩:=hr.isome om h0;subst hj;subst hq;refine dy (λw' D a u=>?_) hd kk;simp[execOp,u.ev hx,u.ev hi,Instr.indexAt,asIntOf,run_underlying y,Ve w' B,adr];intro h;omega
theorem Xqj(hT:TOk P tt){i:Operand}(j:Nat)(ht:tk tt t=some k)(hk:k.desc=.slice e)(hz:k.esz=1)(hx:ev al x=some (.slice A m c))(hi:ev al i=some (.int kd z))(hr:Rd w 1 A m cs)(hj:z=(j:Int))(hlt:j<m)(hd:Nat.blt d n=true)(kk:WD P n ops Q rest ((d,.pointer (some (adr A j)))::al) w): WD P n ops Q ((0,⟨some d,.indexAddr t x i,ty,pos,aft,none⟩)::rest) al w :=
 Qkg hT j j ht hk hz hx hi hr hj hlt om om hd kk
theorem dadd{t yt:TypeId}{a b:Int}(hx:ev al x=some (.int .i64 a))(hy:ev al y=some (.int .i64 b))(hc:-9223372036854775808<=a+b/\a+b<=9223372036854775807)(hd:Nat.blt d n=true)(k:WD P n ops Q rest ((d,.int .i64 (a+b))::al) w): WD P n ops Q ((0,⟨some d,.binOp .add t x y yt,ty,pos,aft,none⟩)::rest) al w:=by
 have e:IntKind.i64.wrap (a+b)=a+b:=by rw[IntKind.wrap_i64];omega
 exact dp (tt:=[]) trivial (v:=.int .i64 (a+b)) (by grind [pv,bop]) hd k
theorem dsub{t yt:TypeId}{a b:Int}(hx:ev al x=some (.int .i64 a))(hy:ev al y=some (.int .i64 b))(hc:-9223372036854775808<=a-b/\a-b<=9223372036854775807)(hd:Nat.blt d n=true)(k:WD P n ops Q rest ((d,.int .i64 (a-b))::al) w): WD P n ops Q ((0,⟨some d,.binOp .sub t x y yt,ty,pos,aft,none⟩)::rest) al w:=by
 have e:IntKind.i64.wrap (a-b)=a-b:=by rw[IntKind.wrap_i64];omega
 exact dp (tt:=[]) trivial (v:=.int .i64 (a-b)) (by grind [pv,bop]) hd k
theorem Xjz(hT:TOk P tt){lo hi mx:Option Operand}{sz:Nat}(l h q:Nat)(ht:tk tt t=some k)(hk:k.desc=.slice e)(hz:k.esz=sz)(hx:ev al x=some (.slice A m c))(hl:Bnd al lo 0 l)(hh:Bnd al hi m h)(hq:Bnd al mx c q)(hm:mx=none∨hi≠none)(h1:l<=h)(h2:h<=q)(h3:q<=c)(hd:Nat.blt d n=true)(kk:WD P n ops Q rest ((d,.slice (if q=l then A else A.map (·.add (l*sz))) (h-l) (q-l))::al) w): WD P n ops Q ((0,⟨some d,.slice t x lo hi mx,ty,pos,aft,none⟩)::rest) al w:=by
 obtain⟨i,j⟩:=Gp hT ht hk hz;exact dy (λw' y a u=>Jrk (w:=w') u i j hx hl hh hq hm h1 h2 h3) hd kk
end
end Go.Wk
namespace Go.Wk
open Go.RowKit
variable {p:Addr}{xs:Array Operand}{ats:Array TypeId}{b:Bool}{y:Code}{fn:Func}{f:FuncId}{a z:Int}{kd:IntKind}{l:List Oper}{cs vs:List Value}{e id id' j m s t:Nat}{c i x:Operand}{A:Option Addr}{dst:Option Nat}{k:TK}{yt:TypeId}{u v:Value}{Φ:Value->World->Prop}
class Tab (P:Program) (tt:outParam TT):Prop where
 ok:TOk P tt
 mixed:P.follows .mixedOrders=true
section
variable {P:Program} {n:Nat} {al:AL} {w:World} {Q Q':Exit->Act->World->Prop} {ops:Array Oper} {rest:List Oper} {drest:List (Nat×Oper)}
variable {d ty:Nat} {op:Op} {pos:String} {aft:Array Edge} {tt:TT}
theorem κ1{x:Code}(h:WC P n x (Exit.then (y.wp P Q) Q) al w): WC P n (.seq x y) Q al w:=wseq h
theorem κ2(h:WL P n l.toArray Q l al w): WC P n (.region id l.toArray false) Q al w:=Qyn h
theorem κ3{c:Code}(h:WC P n c (Exit.inBlock id Q) al w): WC P n (.block id c) Q al w:=Qbk h
theorem κ4(h:QX n Q .normal al w): WC P n .skip Q al w:=wskip h
theorem κ5(h:QX n Q (.exit id) al w): WC P n (.exit id) Q al w:=wexit h
theorem κ6(h:QX n Q .ret al w): WC P n .ret Q al w:=wret h
theorem κ7{x:Code}(h:WC P n x Q al w)(hc:ev al c=some (.bool true):=by rfl): WC P n (.cond c x y) Q al w:=Jnk hc h
theorem κ8{x:Code}(h:WC P n y Q al w)(hc:ev al c=some (.bool false):=by rfl): WC P n (.cond c x y) Q al w:=Jnm hc h
theorem χ1(h:WC P n y Q' al w): QX n (Exit.then (y.wp P Q') Q) .normal al w:=qnext h
theorem χ2(h:QX n Q .normal al w): QX n (Exit.inBlock id Q) .normal al w:=Xkk h
theorem χ3{y:Act->World->Prop}(h:QX n Q .ret al w): QX n (Exit.then y Q) .ret al w:=qret h
theorem χ4(h:QX n Q .ret al w): QX n (Exit.inBlock id Q) .ret al w:=bret h
theorem χ5(h:QX n Q .normal al w): QX n (Exit.inBlock id Q) (.exit id) al w:=bexit h
theorem χ6(h:QX n Q (.exit id') al w)(hne:Nat.beq id' id=false:=by rfl): QX n (Exit.inBlock id Q) (.exit id') al w:=Xkj hne h
theorem χ7{y:Act->World->Prop}(h:QX n Q (.exit id) al w): QX n (Exit.then y Q) (.exit id) al w:=qexit h
theorem ω1{y:Operand}{t:TypeId}{b:Int}(k:WL P n ops Q rest ((d,.int .i64 (a+b))::al) w)(hx:ev al x=some (.int .i64 a):=by rfl)(hy:ev al y=some (.int .i64 b):=by rfl)(hd:Nat.blt d n=true:=by rfl)(hc:-9223372036854775808<=a+b/\a+b<=9223372036854775807:=by omega):
  WL P n ops Q (⟨some d,.binOp .add t x y yt,ty,pos,aft,none⟩::rest) al w:=wadd hx hy hc hd k
theorem ω2{y:Operand}{t:TypeId}{b:Int}(k:WL P n ops Q rest ((d,.int .i64 (a-b))::al) w)(hx:ev al x=some (.int .i64 a):=by rfl)(hy:ev al y=some (.int .i64 b):=by rfl)(hd:Nat.blt d n=true:=by rfl)(hc:-9223372036854775808<=a-b/\a-b<=9223372036854775807:=by omega):
  WL P n ops Q (⟨some d,.binOp .sub t x y yt,ty,pos,aft,none⟩::rest) al w:=wsub hx hy hc hd k
theorem ω3{y:Operand}{t:TypeId}{b:Int}(k:WL P n ops Q rest ((d,.int .i64 (a*b))::al) w)(hx:ev al x=some (.int .i64 a):=by rfl)(hy:ev al y=some (.int .i64 b):=by rfl)(hd:Nat.blt d n=true:=by rfl)(hc:-9223372036854775808<=a*b/\a*b<=9223372036854775807:=by omega):
  WL P n ops Q (⟨some d,.binOp .mul t x y yt,ty,pos,aft,none⟩::rest) al w:=wmul hx hy hc hd k
theorem ω4[h:Tab P tt](k:WL P n ops Q rest ((d,v)::al) w)(hv:pv tt (ev al) op=some v:=by rfl)(hd:Nat.blt d n=true:=by rfl): WL P n ops Q (⟨some d,op,ty,pos,aft,none⟩::rest) al w:=wp h.ok hv hd k
theorem ω5(h:QX n Q .normal al w): WL P n ops Q [] al w:=Je h
theorem ω6(k:WL P n ops Q (⟨dst,op,ty,pos,aft,none⟩::rest) al w)(hj:Zf ops j=some s:=by rfl)(hs:lk al s=some (.bool b):=by rfl): WL P n ops Q (⟨dst,op,ty,pos,aft,some (j,b)⟩::rest) al w:=Qyz hj hs k
theorem ω7{c:Bool}(k:WL P n ops Q rest ((d,undef)::al) w)(hj:Zf ops j=some s:=by rfl)(hs:lk al s=some (.bool b):=by rfl)(hne:(b == c)=false:=by rfl)(hd:Nat.blt d n=true:=by rfl):
  WL P n ops Q (⟨some d,op,ty,pos,aft,some (j,c)⟩::rest) al w:=wpass hj hs hne hd k
theorem ω8[h:Tab P tt](k:WL P n ops Q rest al w)(hv:pv tt (ev al) op=some v:=by rfl): WL P n ops Q (⟨none,op,ty,pos,aft,none⟩::rest) al w:=wpn h.ok hv k
theorem Jdb{a:Act}(ha:Fr n al a)(hj:Zf ops j=some s)(hs:lk al s=some undef): yielded ops a.tmps j=none:=by
 unfold Zf at hj;rw[Xq]at hj;split at hj
 .rename_i o ho;have i:ops[j]?=some o:=by rw[<-ho];simp
  have:=ha.has s _ hs;simp only[Array.getD_eq_getD_getElem?]at this;cases hq:a.tmps[s]? with
  | none=>simp[yielded,i,hj,hq]
  | some u=>
   rw[hq]at this;simp only[Option.getD_some]at this;subst this;simp[yielded,i,hj,hq,undef]
 cases hj
theorem ω9{c:Bool}(k:WL P n ops Q rest ((d,undef)::al) w)(hj:Zf ops j=some s:=by rfl)(hs:lk al s=some undef:=by rfl)(hd:Nat.blt d n=true:=by rfl):
  WL P n ops Q (⟨some d,op,ty,pos,aft,some (j,c)⟩::rest) al w:=λa u=>by
 have i:d<n:=by(have:d+1<=n:=by simpa [Nat.blt] using hd);(omega)
 have y:=Jdb (ops:=ops) u hj hs;unfold wpList;have B:¬ Region.wanted (⟨some d,op,ty,pos,aft,some (j,c)⟩:Oper) (yielded ops a.tmps)=true:=by simp[Region.wanted,y]
 rw[if_neg B];exact k _ (u.put i undef)
theorem δ9{kd:Nat}{c:Bool}(k:WD P n ops Q drest ((d,undef)::al) w)(hj:Zf ops j=some s:=by rfl)(hs:lk al s=some undef:=by rfl)(hd:Nat.blt d n=true:=by rfl):
  WD P n ops Q ((kd,⟨some d,op,ty,pos,aft,some (j,c)⟩)::drest) al w:=λa B=>by
 have i:d<n:=by(have:d+1<=n:=by simpa [Nat.blt] using hd);(omega)
 have D:=Jdb (ops:=ops) B hj hs;have y:Region.wanted (⟨some d,op,ty,pos,aft,some (j,c)⟩:Oper) (yielded ops a.tmps)=false:=by simp[Region.wanted,D]
 have u:=k _ (B.put i undef);unfold Qc wk1;match kd with
 | 0=>exact⟨undef,.inr ⟨y,rfl⟩,u⟩
 | 1=>simp only[y];exact u
 | m+2=>simp only[y];exact u
theorem δ1{y:Operand}{t:TypeId}{b:Int}(k:WD P n ops Q drest ((d,.int .i64 (a+b))::al) w)(hx:ev al x=some (.int .i64 a):=by rfl)(hy:ev al y=some (.int .i64 b):=by rfl)(hd:Nat.blt d n=true:=by rfl)(hc:-9223372036854775808<=a+b/\a+b<=9223372036854775807:=by omega):
  WD P n ops Q ((0,⟨some d,.binOp .add t x y yt,ty,pos,aft,none⟩)::drest) al w:=dadd hx hy hc hd k
theorem δ2{y:Operand}{t:TypeId}{b:Int}(k:WD P n ops Q drest ((d,.int .i64 (a-b))::al) w)(hx:ev al x=some (.int .i64 a):=by rfl)(hy:ev al y=some (.int .i64 b):=by rfl)(hd:Nat.blt d n=true:=by rfl)(hc:-9223372036854775808<=a-b/\a-b<=9223372036854775807:=by omega):
  WD P n ops Q ((0,⟨some d,.binOp .sub t x y yt,ty,pos,aft,none⟩)::drest) al w:=dsub hx hy hc hd k
theorem δ4[h:Tab P tt](k:WD P n ops Q drest ((d,v)::al) w)(hv:pv tt (ev al) op=some v:=by rfl)(hd:Nat.blt d n=true:=by rfl): WD P n ops Q ((0,⟨some d,op,ty,pos,aft,none⟩)::drest) al w:=dp h.ok hv hd k
theorem δ5(h:QX n Q .normal al w): WD P n ops Q [] al w:=Jzh h
theorem δ6{kd:Nat}(k:WD P n ops Q ((kd,⟨dst,op,ty,pos,aft,none⟩)::drest) al w)(hj:Zf ops j=some s:=by rfl)(hs:lk al s=some (.bool b):=by rfl): WD P n ops Q ((kd,⟨dst,op,ty,pos,aft,some (j,b)⟩)::drest) al w:=Xqk hj hs k
theorem δ7{kd:Nat}{c:Bool}(k:WD P n ops Q drest ((d,undef)::al) w)(hj:Zf ops j=some s:=by rfl)(hs:lk al s=some (.bool b):=by rfl)(hne:(b == c)=false:=by rfl)(hd:Nat.blt d n=true:=by rfl):
  WD P n ops Q ((kd,⟨some d,op,ty,pos,aft,some (j,c)⟩)::drest) al w:=dpass hj hs hne hd k
theorem δ8[h:Tab P tt](k:WD P n ops Q drest al w)(hv:pv tt (ev al) op=some v:=by rfl): WD P n ops Q ((0,⟨none,op,ty,pos,aft,none⟩)::drest) al w:=dpn h.ok hv k
theorem ct{x:Code}(hb:b=true)(h:WC P n x Q al w)(hc:ev al c=some (.bool b):=by rfl): WC P n (.cond c x y) Q al w:=Qbd hc hb h
theorem cf{x:Code}(hb:b=false)(h:WC P n y Q al w)(hc:ev al c=some (.bool b):=by rfl): WC P n (.cond c x y) Q al w:=Jnl hc hb h
theorem ci{x:Code}(ht:b=true->WC P n x Q al w)(hf:b=false->WC P n y Q al w)(hc:ev al c=some (.bool b):=by rfl): WC P n (.cond c x y) Q al w:=wcond hc ht hf
theorem kt(s:Nat)(hb:b=true)(k:WL P n ops Q l ((s,.bool true)::al) w)(hs:lk al s=some (.bool b):=by rfl): WL P n ops Q l al w:=wkt s hs hb k
theorem kf(s:Nat)(hb:b=false)(k:WL P n ops Q l ((s,.bool false)::al) w)(hs:lk al s=some (.bool b):=by rfl): WL P n ops Q l al w:=wkf s hs hb k
theorem ki(s:Nat)(ht:b=true->WL P n ops Q l ((s,.bool true)::al) w)(hf:b=false->WL P n ops Q l ((s,.bool false)::al) w)(hs:lk al s=some (.bool b):=by rfl): WL P n ops Q l al w:=wpart s hs ht hf
theorem kv(s:Nat)(hv:v=u)(k:WL P n ops Q l ((s,u)::al) w)(hs:lk al s=some v:=by rfl): WL P n ops Q l al w:=wknow s u hs hv k
theorem dkf{l:List (Nat×Oper)}(s:Nat)(hb:b=false)(k:WD P n ops Q l ((s,.bool false)::al) w)(hs:lk al s=some (.bool b):=by rfl): WD P n ops Q l al w:=by subst hb;exact k.sub (Sub.cons hs Sub.refl)
theorem dki{l:List (Nat×Oper)}(s:Nat)(ht:b=true->WD P n ops Q l ((s,.bool true)::al) w)(hf:b=false->WD P n ops Q l ((s,.bool false)::al) w)(hs:lk al s=some (.bool b):=by rfl): WD P n ops Q l al w:=dpart s hs ht hf
theorem dkv{l:List (Nat×Oper)}(s:Nat)(hv:v=u)(k:WD P n ops Q l ((s,u)::al) w)(hs:lk al s=some v:=by rfl): WD P n ops Q l al w:=dknow s u hs hv k
theorem ld[h:Tab P tt](hc:w.cell? p=some v)(kk:WL P n ops Q rest ((d,v)::al) w)(ht:tk tt t=some k:=by rfl)(hk:Vj k.desc=true:=by rfl)(hx:ev al x=some (.pointer (some p)):=by rfl)(hd:Nat.blt d n=true:=by rfl): WL P n ops Q (⟨some d,.load t x,ty,pos,aft,none⟩::rest) al w:=wload h.ok ht hk hx hc hd kk
theorem dld[h:Tab P tt](hc:w.cell? p=some v)(kk:WD P n ops Q drest ((d,v)::al) w)(ht:tk tt t=some k:=by rfl)(hk:Vj k.desc=true:=by rfl)(hx:ev al x=some (.pointer (some p)):=by rfl)(hd:Nat.blt d n=true:=by rfl): WD P n ops Q ((0,⟨some d,.load t x,ty,pos,aft,none⟩)::drest) al w:=dload h.ok ht hk hx hc hd kk
theorem lds[h:Tab P tt](hc:∀ j u,cs[j]?=some u->w.cell? (p.add j)=some u)(kk:WL P n ops Q rest ((d,.agg cs.toArray)::al) w)(ht:tk tt t=some k:=by rfl)(hk:k.desc=.invalid:=by rfl)(hl:k.size=cs.length:=by rfl)(hx:ev al x=some (.pointer (some p)):=by rfl)(hd:Nat.blt d n=true:=by rfl): WL P n ops Q (⟨some d,.load t x,ty,pos,aft,none⟩::rest) al w:=Qyt h.ok ht hk hl hx hc hd kk
theorem Qb[h:Tab P tt](hc:∀ j u,cs[j]?=some u->w.cell? (p.add j)=some u)(kk:WD P n ops Q drest ((d,.agg cs.toArray)::al) w)(ht:tk tt t=some k:=by rfl)(hk:k.desc=.invalid:=by rfl)(hl:k.size=cs.length:=by rfl)(hx:ev al x=some (.pointer (some p)):=by rfl)(hd:Nat.blt d n=true:=by rfl): WD P n ops Q ((0,⟨some d,.load t x,ty,pos,aft,none⟩)::drest) al w:=Xqc h.ok ht hk hl hx hc hd kk
theorem ix[h:Tab P tt]{c:Nat}(j:Nat)(hr:Rd w 1 A m cs)(hlt:j<m)(kk:WL P n ops Q rest ((d,.pointer (some (adr A j)))::al) w)(ht:tk tt t=some k:=by rfl)(hk:k.desc=.slice e:=by rfl)(hz:k.esz=1:=by rfl)(hx:ev al x=some (.slice A m c):=by rfl)(hi:ev al i=some (.int kd z):=by rfl)(hj:z=(j:Int):=by first|rfl|omega)(hd:Nat.blt d n=true:=by rfl):
  WL P n ops Q (⟨some d,.indexAddr t x i,ty,pos,aft,none⟩::rest) al w:=Qyx h.ok j ht hk hz hx hi hr hj hlt hd kk
theorem dix[h:Tab P tt]{c:Nat}(j:Nat)(hr:Rd w 1 A m cs)(hlt:j<m)(kk:WD P n ops Q drest ((d,.pointer (some (adr A j)))::al) w)(ht:tk tt t=some k:=by rfl)(hk:k.desc=.slice e:=by rfl)(hz:k.esz=1:=by rfl)(hx:ev al x=some (.slice A m c):=by rfl)(hi:ev al i=some (.int kd z):=by rfl)(hj:z=(j:Int):=by first|rfl|omega)(hd:Nat.blt d n=true:=by rfl):
  WD P n ops Q ((0,⟨some d,.indexAddr t x i,ty,pos,aft,none⟩)::drest) al w:=Xqj h.ok j ht hk hz hx hi hr hj hlt hd kk
theorem ixq[h:Tab P tt]{c:Nat}(sz j:Nat)(hr:Rd w sz A m cs)(hlt:j<m)(kk:WL P n ops Q rest ((d,.pointer (some (adr A (j*sz))))::al) w)(ht:tk tt t=some k:=by rfl)(hk:k.desc=.slice e:=by rfl)(hz:k.esz=sz:=by rfl)(hx:ev al x=some (.slice A m c):=by rfl)(hi:ev al i=some (.int kd z):=by rfl)(hj:z=(j:Int):=by first|rfl|omega)(h0:0<sz:=by omega)(hd:Nat.blt d n=true:=by rfl):
  WL P n ops Q (⟨some d,.indexAddr t x i,ty,pos,aft,none⟩::rest) al w:=Jnh h.ok (j*sz) j ht hk hz hx hi hr hj hlt h0 rfl hd kk
theorem Xc[h:Tab P tt]{c:Nat}(sz j:Nat)(hr:Rd w sz A m cs)(hlt:j<m)(kk:WD P n ops Q drest ((d,.pointer (some (adr A (j*sz))))::al) w)(ht:tk tt t=some k:=by rfl)(hk:k.desc=.slice e:=by rfl)(hz:k.esz=sz:=by rfl)(hx:ev al x=some (.slice A m c):=by rfl)(hi:ev al i=some (.int kd z):=by rfl)(hj:z=(j:Int):=by first|rfl|omega)(h0:0<sz:=by omega)(hd:Nat.blt d n=true:=by rfl):
  WD P n ops Q ((0,⟨some d,.indexAddr t x i,ty,pos,aft,none⟩)::drest) al w:=Qkg h.ok (j*sz) j ht hk hz hx hi hr hj hlt h0 rfl hd kk
theorem sto[h:Tab P tt]{y:Operand}(hc:w.cell? p=some u)(hf:w.frozen? p=false)(kk:WL P n ops Q rest al (w.setCell p v))(ht:tk tt t=some k:=by rfl)(hk:k.size=1:=by rfl)(hp:Vj k.desc=true:=by rfl)(hx:ev al x=some (.pointer (some p)):=by rfl)(hy:ev al y=some v:=by rfl)(hv:v.oneCell'=true:=by rfl): WL P n ops Q (⟨none,.store t x y,ty,pos,aft,none⟩::rest) al w:=Jmr h.ok ht hk hp hx hy hv hc hf kk
theorem bx(kk:∀ w1 b,Ext w w1->w.heap.size<=b->Blk w1 b t cs->WL P n ops Q rest ((d,.pointer (some ⟨b,0,none⟩))::al) w1)(hx:ev al x=some v:=by rfl)(hv:v.cells=cs.toArray:=by rfl)(hd:Nat.blt d n=true:=by rfl): WL P n ops Q (⟨some d,.box t x,ty,pos,aft,none⟩::rest) al w:=wbox hx hv hd kk
theorem cl(hc:Ret P f vs w Φ)(k:∀ v w',Φ v w'->WL P n ops Q rest ((d,v)::al) w')(hx:evs al xs.toList=some vs:=by rfl)(hd:Nat.blt d n=true:=by rfl):
  WL P n ops Q (⟨some d,.call { callee:=.value (.func f),args:=xs,argTypes:=ats },ty,pos,aft,none⟩::rest) al w:=wcall hx hd hc k
theorem dcl(hc:Ret P f vs w Φ)(k:∀ v w',Φ v w'->Ext w w'/\WD P n ops Q drest ((d,v)::al) w')(hx:evs al xs.toList=some vs:=by rfl)(hd:Nat.blt d n=true:=by rfl):
  WD P n ops Q ((1,⟨some d,.call { callee:=.value (.func f),args:=xs,argTypes:=ats },ty,pos,aft,none⟩)::drest) al w:=dcall hx hd hc k
theorem dr[h:Tab P tt](s:List (Nat×Nat))(hB:Jfb l.toArray s=true)(k:WD P n l.toArray Q (Qk l s) al w.drew): WC P n (.region id l.toArray true) Q al w:=wdraw s h.mixed hB k
theorem Jq(h:Φ v w)(hr:fn.results = #[.tmp t]:=by rfl)(ht:lk al t=some v:=by rfl): QX n (Yk P fn Φ) .ret al w:=done1 hr ht h
theorem Xb{u:Nat}{x y:Value}(h:Φ (.tuple #[x,y]) w)(hr:fn.results = #[.tmp t,.tmp u]:=by rfl)(ht:lk al t=some x:=by rfl)(hu:lk al u=some y:=by rfl): QX n (Yk P fn Φ) .ret al w:=done2 hr ht hu h
theorem Jwn{u:Nat}{x y z:Value}(h:Φ (.tuple #[x,y,z]) w)(hr:fn.results = #[.tmp t,.tmp u,.tmp s]:=by rfl)(ht:lk al t=some x:=by rfl)(hu:lk al u=some y:=by rfl)(hs:lk al s=some z:=by rfl): QX n (Yk P fn Φ) .ret al w:=done3 hr ht hu hs h
end
end Go.Wk
namespace Go.Wk
open Go.RowKit
variable {parts:Array (Nat×Operand)}{pw:Array (Nat×Value)}{kc kd kl:IntKind}{cs news vs xs xs':List Value}{bytes c c' dst e len m m' n src t:Nat}{x y:Operand}{A A':Option Addr}{k k2 k3:TK}{v v' z:Value}{a w w':World}
theorem Rd.take{sz:Nat}(h:Rd w sz A n cs)(hm:m<=n): Rd w sz A m (cs.take (m*sz)):=by
 refine⟨?_,λh0=>?_⟩
 .rw[List.length_take,h.1];exact Nat.min_eq_left (nO _ hm)
 obtain⟨u,e,j,i⟩:=h.2 (by grind);grind
theorem Rd.drop{sz:Nat}(h:Rd w sz A n cs){k:Nat}(hk:k<=n)(hc:n<=c): Rd w sz (if c=k then A else A.map (·.add (k*sz))) (n-k) (cs.drop (k*sz)):=by
 have:=h.cut k n c hk (Nat.le_refl _) (.inl hc);rwa [List.take_of_length_le (by rw[List.length_drop,h.1,Nat.sub_mul];exact Nat.le_refl _)]at this
theorem Vg{base sz base' e' sz':Nat}(h:w.ownsRow base e sz v m xs)(h':w.ownsRow base' e' sz' v' m' xs')(hg:w.grownBy w' v'.ownBlock)(hne:Nat.beq e e'=false): w'.ownsRow base e sz v m xs:=by
 refine h.kept hg ?_;have j:e≠e':=by intro i;subst i;simp at hne
 rcases h.2 with⟨rfl,_⟩|⟨g,cap,cur,rfl,_,hh,_⟩
 .exact .inl rfl
 right
 intro u;rcases h'.2 with⟨rfl,_⟩|⟨g',cap',cur',rfl,_,hh',_⟩
 .simp[Value.ownBlock]at u
 have:g=g':=by simpa [Value.ownBlock] using u
 grind
section
variable {P:Program} {n:Nat} {al:AL} {w:World} {Q Q' Q2:Exit->Act->World->Prop} {ops:Array Oper}
theorem Jvk(hq:∀ e a w,Q e a w->Q2 e a w): ∀(l:List Oper) (a:Act) (w:World),wpList P ops Q l a w->wpList P ops Q2 l a w
 | [],a,w,h=>hq _ _ _ h
 | o::l,a,w,h=>by
  unfold wpList at h ⊢;split
  .rename_i hw;rw[if_pos hw]at h;rcases h with h|⟨h1,a',w',h2⟩
   .exact .inl (Yo (Q:=Q) (λc a w hp=>hq _ _ _ hp) (λ⟨a,w,h⟩=>⟨a,w,hq _ _ _ h⟩) (Oper.wp_mono (λa w h=>Jvk hq l a w h) h))
   exact .inr ⟨h1,a',w',hq _ _ _ h2⟩
  rename_i hw;rw[if_neg hw]at h;exact Jvk hq l _ _ h
theorem Gj{α:Type}{d:Code}{l:List Oper}(fr:α->AL)(I:α->World->Prop)(h1:WL P n ops (Exit.then (λa w=>∃ x,Fr n (fr x) a/\I x w) Q) l al w)(h2:∀ x w,I x w->WC P n d Q' (fr x) w): WL P n ops (Exit.then (d.wp P Q') Q) l al w:=by
 intro a j;refine Jvk ?_ l a w (h1 a j);intro e B w' i;cases e with
 | normal=>obtain⟨x,y,u⟩:=i;exact h2 x w' u B y
 | exit id=>exact i
 | goto l=>exact i
 | ret=>exact i
 | panic c=>exact i
 | outgrown=>exact i
end
section
variable {P:Program} {n:Nat} {al:AL} {w:World} {Q Q':Exit->Act->World->Prop} {ops:Array Oper} {rest:List Oper} {drest:List (Nat×Oper)}
variable {d ty:Nat} {op:Op} {pos:String} {aft:Array Edge} {tt:TT}
theorem mkn{sz:Nat}(hE:ElT P t e sz bytes z){zl zc:Int}(m:Nat)(hb:bytes*m<=281474976710656)(h63:m<=maxLen)(kk:∀ w1 A,Ext w w1->w1.ownsRow w.heap.size e sz (.slice A m m) m (madeCells z.cells (m*sz)).toList->(∀ g,A=some g->w.heap.size<=g.block)->WL P n ops Q rest ((d,.slice A m m)::al) w1)(hx:ev al x=some (.int kl zl):=by rfl)(hy:ev al y=some (.int kc zc):=by rfl)(hl:zl=(m:Int):=by first|rfl|omega)(hc:zc=(m:Int):=by first|rfl|omega)(hd:Nat.blt d n=true:=by rfl): WL P n ops Q (⟨some d,.makeSlice t x y,ty,pos,aft,none⟩::rest) al w:=by
 subst hc;subst hl;obtain⟨i,hi,G,u,B⟩:=hE.info;subst B;obtain⟨w1,U,O,j⟩:=run_make_full (P:=P) w w.heap.size t e i z sz hE.sl hi G u kl kc m hb h63 (Nat.le_refl _);exact wop hd (λa D=>by simp[execOp,D.ev hx,D.ev hy,U]) (kk w1 _ ⟨j.os,j.tape,j.output,j.size,λk J=>j.block k J (by simp)⟩ O (λg Z=>by grind))
theorem slh[hT:Tab P tt]{z:Int}(h:Nat)(kk:WL P n ops Q rest ((d,.slice A h c)::al) w)(ht:tk tt t=some k:=by rfl)(hk:k.desc=.slice e:=by rfl)(hx:ev al x=some (.slice A m c):=by rfl)(hy:ev al y=some (.int kd z):=by rfl)(hz:z=(h:Int):=by first|rfl|omega)(h2:h<=c:=by omega)(hd:Nat.blt d n=true:=by rfl):
  WL P n ops Q (⟨some d,.slice t x none (some y) none,ty,pos,aft,none⟩::rest) al w :=
 Jzv hT.ok 0 h c A h c ht hk rfl hx rfl ⟨kd,z,hy,hz⟩ rfl (.inl rfl) (Nat.zero_le _) h2 (Nat.le_refl _) (cut0 A _ _) rfl rfl hd kk
theorem sll[hT:Tab P tt]{z:Int}(l:Nat)(kk:WL P n ops Q rest ((d,.slice (if c=l then A else A.map (·.add (l*k.esz))) (m-l) (c-l))::al) w)(ht:tk tt t=some k:=by rfl)(hk:k.desc=.slice e:=by rfl)(hx:ev al x=some (.slice A m c):=by rfl)(hy:ev al y=some (.int kd z):=by rfl)(hz:z=(l:Int):=by first|rfl|omega)(h1:l<=m:=by omega)(h2:m<=c:=by omega)(hd:Nat.blt d n=true:=by rfl):
  WL P n ops Q (⟨some d,.slice t x (some y) none none,ty,pos,aft,none⟩::rest) al w :=
 Jzv hT.ok l m c _ _ _ ht hk rfl hx ⟨kd,z,hy,hz⟩ rfl rfl (.inl rfl) h1 h2 (Nat.le_refl _) rfl rfl rfl hd kk
theorem apo(hxa:Ext a w){sz:Nat}(hE:ElT P t e sz bytes z)(ha:w.ownsRow a.heap.size e sz v m xs)(hr:Rd w sz A' m' news)(h1:∀ u∈news,u.oneCell'=true)(h63:m+m'<=maxLen)(hby:(m+m')*bytes<=140737488355328)(kk:∀ v' w',w'.ownsRow a.heap.size e sz v' (m+m') (xs++news)->Ext a w'->w.grownBy w' v.ownBlock->(∀ g,v'.ownBlock=some g->v.ownBlock=some g∨w.heap.size<=g)->WL P n ops Q rest ((d,v')::al) w')(hx:ev al x=some v:=by rfl)(hy:ev al y=some (.slice A' m' c'):=by rfl)(hd:Nat.blt d n=true:=by rfl):
  WL P n ops Q (⟨some d,.call { callee:=.builtin .append,args:=#[x,y],argTypes:=#[t,t] },ty,pos,aft,none⟩::rest) al w :=
 Qbl hxa hE hx hy (.inl ha) hr h1 h63 hby hd λv' w' _ _ D B j i=>kk v' w' (D ha) B j i
theorem bsl(hb:∀ w:World,(Instr.buildSlice t len pw).run P w=.ok (.slice (some ⟨w.heap.size,0,none⟩) len len) (w.alloc (.cells cs.toArray e)))(kk:∀ w1 b,Ext w w1->w.heap.size<=b->Blk w1 b e cs->WL P n ops Q rest ((d,.slice (some ⟨b,0,none⟩) len len)::al) w1)(hx:evs al (parts.toList.map (·.2))=some vs:=by rfl)(hp:((parts.toList.map (·.1)).zip vs).toArray=pw:=by rfl)(hd:Nat.blt d n=true:=by rfl):
  WL P n ops Q (⟨some d,.buildSlice t len parts,ty,pos,aft,none⟩::rest) al w:=by subst hp;exact Qbh hx hb hd kk
theorem bld(hb:(Instr.build t pw).run P w=.ok v w)(kk:WL P n ops Q rest ((d,v)::al) w)(hx:evs al (parts.toList.map (·.2))=some vs:=by rfl)(hp:((parts.toList.map (·.1)).zip vs).toArray=pw:=by rfl)(hd:Nat.blt d n=true:=by rfl): WL P n ops Q (⟨some d,.build t parts,ty,pos,aft,none⟩::rest) al w:=by grind [Qbj]
theorem sb[h:Tab P tt]{l:List UInt8}(hr:Rd w 1 A m (Bc l))(kk:WL P n ops Q rest ((d,.string (str l))::al) w)(hs:tk tt src=some k:=by rfl)(hk:k.desc=.slice e:=by rfl)(he:tk tt e=some k3:=by rfl)(hk3:k3.desc=.int .u8:=by rfl)(hdst:tk tt dst=some k2:=by rfl)(hk2:k2.desc=.string:=by rfl)(hx:ev al x=some (.slice A m c):=by rfl)(hd:Nat.blt d n=true:=by rfl): WL P n ops Q (⟨some d,.convert src dst x,ty,pos,aft,none⟩::rest) al w:=Qbg h.ok hs hk he hk3 hdst hk2 hx hr hd kk
end
end Go.Wk
namespace Go.Wk
open Go.RowKit
section
variable {P:Program} {n:Nat} {al:AL} {w:World} {Q:Exit->Act->World->Prop} {ops:Array Oper} {rest:List Oper}
variable {d ty:Nat} {op:Op} {pos:String} {aft:Array Edge} {tt:TT}
theorem wext{f:FuncId}{xs:Array Operand}{ats:Array TypeId}{vs:List Value}{v:Value}{w':World}(hc:(callFunc f vs.toArray).run P w=.ok (.value v) w')(k:WL P n ops Q rest ((d,v)::al) w')(hx:evs al xs.toList=some vs:=by rfl)(hd:Nat.blt d n=true:=by rfl): WL P n ops Q (⟨some d,.call { callee:=.value (.func f),args:=xs,argTypes:=ats },ty,pos,aft,none⟩::rest) al w :=
 wop hd (λa i=>by
  have j:xs.map a.eval=vs.toArray:=by rw[<-i.evs hx,<-List.map_toArray,Array.toArray_toList]
  simp[execOp,resolve,j,Act.eval,Deferred.ofValue,invoke,hc]) k
end
end Go.Wk
namespace Go.Wk
open Go.RowKit
variable {fn:Func}{cs cs':List Value}{b c t tb:Nat}{x y:Operand}{k:TK}{Φ:Value->World->Prop}
section
variable {P:Program} {n:Nat} {al:AL} {w:World} {Q:Exit->Act->World->Prop} {ops:Array Oper} {rest:List Oper}
variable {d ty:Nat} {op:Op} {pos:String} {aft:Array Edge} {tt:TT}
theorem Jjz(w:World)(g:Nat)(cs:Array Value): w.grownBy (w.setRow g cs) (some g) :=
 ⟨rfl,rfl,rfl,by rw[setRow_size];exact Nat.le_refl _,λk _ i=>setRow_other w g k cs (λe=>i (by rw[e]))⟩
theorem alc{z:Value}(hz:Qe P t=some z)(kk:∀ w1 b,Ext w w1->w.heap.size<=b->Blk w1 b t cs->WL P n ops Q rest ((d,.pointer (some ⟨b,0,none⟩))::al) w1)(hv:z.cells=cs.toArray:=by rfl)(hd:Nat.blt d n=true:=by rfl):
  WL P n ops Q (⟨some d,.alloc t,ty,pos,aft,none⟩::rest) al w:=Qbm hz hv hd kk
theorem stb[h:Tab P tt](hb:Blk w b t cs)(kk:∀ w1,Blk w1 b t cs'->w.grownBy w1 (some b)->(∀ a,Ext a w->a.heap.size<=b->Ext a w1)->WL P n ops Q rest al w1)(h1:∀ u∈cs',u.oneCell'=true)(hl:cs.length=cs'.length:=by rfl)(ht:tk tt t=some k:=by rfl)(hk:k.desc=.invalid:=by rfl)(hs:k.size=cs'.length:=by rfl)(hx:ev al x=some (.pointer (some ⟨b,0,none⟩)):=by rfl)(hy:ev al y=some (.agg cs'.toArray):=by rfl):
  WL P n ops Q (⟨none,.store t x y,ty,pos,aft,none⟩::rest) al w:=by
 have D:=Jjz w b cs'.toArray;refine Jqq (λa B=>?_) (kk (w.setRow b cs'.toArray) (setRow_heap w b _ _ _ _ hb) D (λa hx B=>Ja hx D (λk hk=>by grind)));have j:=Ve w (Jkc h.ok ht hk w).2;have i:=run_storeCells_from (P:=P) b t cs' 0 cs.toArray w hb (by simpa using hl.symm) h1;simp only[List.take_zero,List.nil_append]at i;simp[execOp,B.ev hx,B.ev hy,Instr.storeAt,Instr.sureAddr,storeVar,Value.cells,j,hs,i]
theorem ldW[h:Tab P tt](hb:Blk w b tb cs)(kk:WL P n ops Q rest ((d,.agg cs.toArray)::al) w)(ht:tk tt t=some k:=by rfl)(hk:k.desc=.invalid:=by rfl)(hl:k.size=cs.length:=by rfl)(hx:ev al x=some (.pointer (some ⟨b,0,none⟩)):=by rfl)(hd:Nat.blt d n=true:=by rfl): WL P n ops Q (⟨some d,.load t x,ty,pos,aft,none⟩::rest) al w:=lds (λj u i=>hb.at i) kk ht hk hl hx hd
theorem stW[h:Tab P tt](hb:Blk w b t cs)(kk:∀ w1,Blk w1 b t cs'->w.grownBy w1 (some b)->(∀ a,Ext a w->a.heap.size<=b->Ext a w1)->WL P n ops Q rest al w1)(hy:ev al y=some (.agg cs'.toArray):=by rfl)(h1:cs'.all Value.oneCell'=true:=by rfl)(hl:cs.length=cs'.length:=by rfl)(ht:tk tt t=some k:=by rfl)(hk:k.desc=.invalid:=by rfl)(hs:k.size=cs'.length:=by rfl)(hx:ev al x=some (.pointer (some ⟨b,0,none⟩)):=by rfl):
  WL P n ops Q (⟨none,.store t x y,ty,pos,aft,none⟩::rest) al w:=stb hb kk (λu i=>List.all_eq_true.1 h1 u i) hl ht hk hs hx hy
theorem Qzk[h:Tab P tt]{t1 t2:Nat}{x y:Value}(hb:Blk w b t cs)(hp:Φ (.tuple #[.agg cs.toArray,x,y]) w)(hr:fn.results = #[.cell c t,.tmp t1,.tmp t2]:=by rfl)(ht:tk tt t=some k:=by rfl)(hk:k.desc=.invalid:=by rfl)(hs:k.size=cs.length:=by rfl)(hc:lk al c=some (.pointer (some ⟨b,0,none⟩)):=by rfl)(h1:lk al t1=some x:=by rfl)(h2:lk al t2=some y:=by rfl):
  QX n (Yk P fn Φ) .ret al w :=
 Jzg (rs:=[.cell c t,.tmp t1,.tmp t2]) (vs:=[.agg cs.toArray,x,y]) hr ⟨⟨_,hc,Jjd h.ok ht hk hs (λj u i=>hb.at i)⟩,h1,h2,trivial⟩ rfl hp
theorem Vp[h:Tab P tt](hb:Blk w b t cs)(hp:Φ (.agg cs.toArray) w)(hr:fn.results = #[.cell c t]:=by rfl)(ht:tk tt t=some k:=by rfl)(hk:k.desc=.invalid:=by rfl)(hs:k.size=cs.length:=by rfl)(hc:lk al c=some (.pointer (some ⟨b,0,none⟩)):=by rfl):
  QX n (Yk P fn Φ) .ret al w :=
 Jzg (rs:=[.cell c t]) (vs:=[.agg cs.toArray]) hr ⟨⟨_,hc,Jjd h.ok ht hk hs (λj u i=>hb.at i)⟩,trivial⟩ rfl hp
end
end Go.Wk
namespace Go.Wk
open Go.RowKit
section
variable {P:Program} {ops:Array Oper} {Q:Exit->Act->World->Prop} {T:Nat->Bool}
def wk1B(P:Program)(ops:Array Oper)(Q:Exit->Act->World->Prop)(k:Nat)(o:Oper)(K:Act->World->Prop)(a:Act)(w:World): Prop :=
 match k with
 | 0=>∃ v,YieldsIf P ops (λ_=>True) o v a/\K (a.put o.dst v) w
 | 1=>if Region.wanted o (yielded ops a.tmps) then o.wp P a w (λa' w'=>True/\K a' w') (QF Q) else K (a.put o.dst undef) w
 | _=>if Region.wanted o (yielded ops a.tmps) then o.wp P a w K (QF Q) else K (a.put o.dst undef) w
def Jmt(P:Program)(ops:Array Oper)(Q:Exit->Act->World->Prop): List (Nat×Oper)->Act->World->Prop
 | [],a,w=>Q .normal a w
 | p::r,a,w=>wk1B P ops Q p.1 p.2 (Jmt P ops Q r) a w
end
section
variable {P:Program} {n:Nat} {al al':AL} {w:World} {Q:Exit->Act->World->Prop} {ops:Array Oper} {rest:List (Nat×Oper)}
def WDB(P:Program)(n:Nat)(ops:Array Oper)(Q:Exit->Act->World->Prop)(l:List (Nat×Oper))(al:AL)(w:World): Prop:=∀ a,Fr n al a->Jmt P ops Q l a w
theorem WDB.sub{l:List (Nat×Oper)}(hs:Sub al' al)(h:WDB P n ops Q l al' w): WDB P n ops Q l al w:=λa i=>h a (i.sub hs)
variable {d ty:Nat} {op:Op} {pos:String} {aft:Array Edge}
variable {d ty:Nat} {op:Op} {pos:String} {aft:Array Edge} {tt:TT} {drest:List (Nat×Oper)}
end
end Go.Wk
namespace Go.Wk
open Go.RowKit
variable {xs:Array Operand}{ats:Array TypeId}{captured first:Array Value}{fn:Func}{f:FuncId}{us vs:List Value}{x:Operand}{Φ:Value->World->Prop}
section
variable {P:Program} {n:Nat} {al al':AL} {w:World} {Q:Exit->Act->World->Prop} {ops:Array Oper} {drest:List (Nat×Oper)} {rest:List Oper}
variable {d ty:Nat} {op:Op} {pos:String} {aft:Array Edge} {tt:TT}
def toD(P:Program)(ops:Array Oper)(Q:Exit->Act->World->Prop)(rest:List (Nat×Oper)): Exit->Act->World->Prop
 | .normal,a,w=>Qc P ops Q rest a w
 | _,_,_=>False
theorem Qf(h:WD P n ops Q drest al w): QX n (toD P ops Q drest) .normal al w:=h
theorem Jd{o:Oper}(h:WL P n ops (toD P ops Q drest) [o] al w): WD P n ops Q ((2,o)::drest) al w:=λa y=>by
 have i:=h a y;unfold wpList at i;unfold Qc wk1;simp only;have j:¬ LetsOut (toD P ops Q drest):=by rintro⟨a,w,h⟩;exact h
 split
 .rename_i hw;simp only[hw,if_true]at i;rcases i with i|⟨_,i⟩
  .refine Oper.wp_mono (K:=Qc P ops Q drest) (λD w' B=>B) ?_;unfold Oper.wp at i ⊢;exact Yo (Q:=toD P ops Q drest) (λc a w u=>u.elim) (λu=>absurd u j) i
  exact absurd i j
 rename_i hw;simp only[hw]at i;exact i
theorem Vy(hc:Ret P f us w Φ)(k:∀ v w',Φ v w'->Ext w w'/\WD P n ops Q drest ((d,v)::al) w')(hf:ev al x=some (.func (.func f) first captured):=by rfl)(hx:evs al xs.toList=some vs:=by rfl)(hu:first.toList++vs++captured.toList=us:=by rfl)(hd:Nat.blt d n=true:=by rfl):
  WD P n ops Q ((1,⟨some d,.call { callee:=.value x,args:=xs,argTypes:=ats },ty,pos,aft,none⟩)::drest) al w:=λa j=>by
 subst hu;have i:d<n:=by(have:d+1<=n:=by simpa [Nat.blt] using hd);(omega)
 have B:xs.map a.eval=vs.toArray:=by rw[<-j.evs hx,<-List.map_toArray,Array.toArray_toList]
 have y:(execOp a.eval ⟨some d,.call { callee:=.value x,args:=xs,argTypes:=ats },ty,pos,aft,none⟩).run P w=.ok (.enter f (first.toList++vs++captured.toList).toArray) w:=by
  have e:(first.toList++vs++captured.toList).toArray=first++vs.toArray++captured:=by apply Array.ext';simp
  rw[e];simp[execOp,resolve,B,j.ev hf,Deferred.ofValue,invoke,Jyh hc.ok]
 unfold Qc wk1;have D:Region.wanted (⟨some d,.call { callee:=.value x,args:=xs,argTypes:=ats },ty,pos,aft,none⟩:Oper) (yielded ops a.tmps)=true:=rfl;simp only[D,if_true];exact Jcc y hc λv w' u=>⟨(k v w' u).1,(k v w' u).2 _ (j.put i v)⟩
theorem clv(hc:Ret P f us w Φ)(k:∀ v w',Φ v w'->WL P n ops Q rest ((d,v)::al) w')(hf:ev al x=some (.func (.func f) first captured):=by rfl)(hx:evs al xs.toList=some vs:=by rfl)(hu:first.toList++vs++captured.toList=us:=by rfl)(hd:Nat.blt d n=true:=by rfl):
  WL P n ops Q (⟨some d,.call { callee:=.value x,args:=xs,argTypes:=ats },ty,pos,aft,none⟩::rest) al w:=by grind [Qbf]
theorem Jzd(h:Φ (.tuple #[]) w)(hr:fn.results = #[]:=by rfl): QX n (Yk P fn Φ) .ret al w :=
 Jzg (rs:=[]) (vs:=[]) hr trivial rfl h
theorem Yx(h:Φ (.tuple #[]) w)(hr:fn.results = #[]:=by rfl): QX n (Yk P fn Φ) .normal al w:=λa i=>
 Jzd (n:=n) (al:=al) h hr a i
end
end Go.Wk
namespace Go.Wk
open Go.RowKit
variable {listed:Array Bool}{a b:Int}{l:List Oper}{i id j:Nat}{oi oj:Oper}{x y:Operand}{t yt:TypeId}{v:Value}
section
variable {P:Program} {ops:Array Oper} {Q:Exit->Act->World->Prop} {T:Nat->Bool}
def Zp(P:Program)(ops:Array Oper)(Q:Exit->Act->World->Prop)(T:Nat->Bool): Nat->Array Bool->Act->World->Prop
 | 0,listed,a,w=>Region.ready .any ops listed=[]/\Q .normal a w
 | fuel+1,listed,a,w=>
  (Region.ready .any ops listed=[]->Q .normal a w) /\
   ∀ i∈Region.ready .any ops listed,wpOp P ops (QF Q) i (λa' w'=>(T i=false->Ext w w')/\Zp P ops Q T fuel (listed.setIfInBounds i true) a' w') a w
theorem Jdg: ∀(fuel:Nat) (listed:Array Bool) (a:Act) (w:World),Zp P ops Q T fuel listed a w->wpAny P .any ops Q fuel listed a w
 | 0,_,_,_,h=>h
 | fuel+1,_,_,_,h=>⟨h.1,λi hi=>wpOp_mono (λa' w' h'=>Jdg fuel _ a' w' h'.2) (Jvj (h.2 i hi))⟩
def Yl(ops:Array Oper): Nat->Nat->Nat->Bool
 | 0,_,_=>false
 | f+1,t,r=>match ops[t]? with
  | none=>false
  | some o=>(o.after.any λe=>Region.binds .any e && e.on == r) || o.after.any λe=>Region.binds .any e && Yl ops f e.on r
def Closed(ops:Array Oper)(listed:Array Bool): Prop:=∀ k o,ops[k]?=some o->listed.getD k false=true->∀ e∈o.after,Region.binds .any e=true->listed.getD e.on false=true
theorem Jjh{listed:Array Bool}(hc:Closed ops listed): ∀(f t r:Nat) (o:Oper),ops[t]?=some o->(∀ e∈o.after,Region.binds .any e=true->listed.getD e.on false=true)->Yl ops f t r=true->listed.getD r false=true
 | 0,_,_,_,_,_,h=>by cases h
 | f+1,t,r,o,ho,hl,h=>by
  simp only[Yl,ho,Bool.or_eq_true,Array.any_eq_true',Bool.and_eq_true,beq_iff_eq]at h;rcases h with⟨e,he,hb,hr⟩|⟨e,he,hb,hr⟩
  .grind
  have h1:=hl e he hb;cases ho':ops[e.on]? with
  | none=>
   cases f with
   | zero=>cases hr
   | succ f=>simp[Yl,ho']at hr
  | some o'=>exact Jjh hc f e.on r o' ho' (hc e.on o' ho' h1) hr
theorem Jjg(hoj:ops[j]?=some oj)(hj:j∈Region.ready .any ops listed): ∀ e∈oj.after,Region.binds .any e=true->listed.getD e.on false=true:=by
 obtain⟨_,y,u,i⟩:=mem_ready.1 hj;grind
theorem Closed.step(hc:Closed ops listed)(hi:i∈Region.ready .any ops listed): Closed ops (listed.setIfInBounds i true):=by
 have keep:∀ k,listed.getD k false=true->(listed.setIfInBounds i true).getD k false=true:=λk u=>by
  by_cases hik:i=k
  .subst hik;have j:i<listed.size:=by grind
   simp[j]
  simpa [Array.getElem?_setIfInBounds_ne hik] using u
 intro k o y u e B D;by_cases hik:i=k
 .grind [Jjg]
 have:listed.getD k false=true:=by simpa [Array.getElem?_setIfInBounds_ne hik] using u
 exact keep _ (hc k o y this e B D)
theorem Jvm(S:World->World->Prop)(hS0:∀ w,S w w)(hSt:∀ {a b c},S a b->S b c->S a c)(hi:ops[i]?=some oi)(hsel:∀(j:Nat) (o:Oper) cs b,ops[j]?=some o->o.op≠.select cs b)(hSx:∀ listed j,Closed ops listed->i∈Region.ready .any ops listed->j∈Region.ready .any ops listed->∀ w w',(T j=false->Ext w w')->S w w'):
  ∀(fuel:Nat) (listed:Array Bool) (a:Act) (w:World),Closed ops listed ->
   (∀ j oj,ops[j]?=some oj->j≠i->listed.getD j true=false->(∀ e∈oj.after,Region.binds .any e=true->e.on≠i)->oi.apart ops oj=true) ->
   i∈Region.ready .any ops listed->YieldsIf P ops (S w) oi v a ->
   Zp P ops Q T fuel (listed.setIfInBounds i true) (a.put oi.dst v) w->Zp P ops Q T (fuel+1) listed a w:=by
 intro fuel;induction fuel with
 | zero=>
  intro listed a w J _ B hy H;refine⟨λh=>(by rw[h]at B;cases B),λj O=>?_⟩;by_cases hji:j=i
  .subst hji;exact hy.wpOp hi (hS0 w) ⟨λ_=>Ext.refl w,H⟩
  have:=ready_mono O hji;rw[H.1]at this;cases this
 | succ fuel ih=>
  intro listed a w J u B hy H;refine⟨λh=>(by rw[h]at B;cases B),λj O=>?_⟩;by_cases hji:j=i
  .subst hji;exact hy.wpOp hi (hS0 w) ⟨λ_=>Ext.refl w,H⟩
  obtain⟨D,oj,G,a2⟩:=mem_ready.1 O;have h1:=H.2 j (ready_mono O hji);have a1:∀ e∈oj.after,Region.binds .any e=true->e.on≠i:=λe he hb a6=>by
   have h1:=a2 e he hb;have h0:=(mem_ready.1 B).1;grind
  have h2:=wpOp_putIf G (u j oj G hji D a1) (λcs b=>hsel i oi cs b hi) (λcs b=>hsel j oj cs b G) (λc a w h=>h) hy h1;have y:∀ k U,ops[k]?=some U->k≠i->(listed.setIfInBounds j true).getD k true=false ->
    (∀ e∈U.after,Region.binds .any e=true->e.on≠i)->oi.apart ops U=true:=λk U hk a5 Z a4=>by
   refine u k U hk a5 ?_ a4;by_cases hjk:j=k
   .subst hjk;exact D
   rw[getD_set_ne true hjk]at Z;exact Z
  refine wpOp_mono (λa' w' h3=>⟨h3.2.1,ih (listed.setIfInBounds j true) a' w' (J.step O) y (ready_mono B (Ne.symm hji)) ?_ ?_⟩) h2
  .exact h3.1.imp (λ⟨h4,h5⟩=>⟨h4,λa3 hx=>h5 a3 (hSt (hSx listed j J B O w w' h3.2.1) hx)⟩) id
  rw[Array.setIfInBounds_comm _ _ hji];exact h3.2.2
theorem Jnd(hsel:Region.noSelect ops=true)(F:Nat): ∀(s:List (Nat×Nat)) (listed:Array Bool) (a:Act) (w:World),Closed ops listed->(∀ p∈s,Nat.ble p.1 2=true)->(∀ p∈s,p.2<ops.size)->(∀ p∈s,(p.1 == 2)=T p.2) ->
  (∀ t,T t=true->t<ops.size->∀ p∈s,p.1=0->Yl ops F t p.2=true)->Xz ops s listed=true->Qc P ops Q (Qk ops.toList s) a w->Zp P ops Q T s.length listed a w
 | [],listed,a,w,_,_,_,_,_,hB,h=>⟨by simpa [Xz] using hB,h⟩
 | (k,i)::r,listed,a,w,hcl,hk,hlt,hKT,hR,hB,h=>by
  have hi:i<ops.size:=hlt _ (mC ..);have ho:ops[i]?=some ops[i]:=Array.getElem?_eq_getElem hi;have hn:nth ops.toList i=some ops[i]:=by rw[Xq];simp[hi]
  have hTi:=hKT _ (mC ..);have hk0:=hk _ (mC ..);simp only at hTi hk0;have hrec:Closed ops (listed.setIfInBounds i true)->Xz ops r (listed.setIfInBounds i true)=true->∀ a w,Qc P ops Q (Qk ops.toList r) a w->Zp P ops Q T r.length (listed.setIfInBounds i true) a w:=λhc' hB' a w h'=>
   Jnd hsel F r _ a w hc' (λp hp=>hk p (List.mem_cons_of_mem _ hp)) (λp hp=>hlt p (List.mem_cons_of_mem _ hp)) (λp hp=>hKT p (List.mem_cons_of_mem _ hp)) (λt ht htl p hp=>hR t ht htl p (List.mem_cons_of_mem _ hp)) hB' h'
  have one:Xz ops r (listed.setIfInBounds i true)=true->Region.ready .any ops listed=[i]->(T i=false->if Region.wanted ops[i] (yielded ops a.tmps) then ops[i].wp P a w (λa' w'=>Ext w w'/\Qc P ops Q (Qk ops.toList r) a' w') (QF Q) else Qc P ops Q (Qk ops.toList r) (a.put ops[i].dst undef) w) ->
    (T i=true->if Region.wanted ops[i] (yielded ops a.tmps) then ops[i].wp P a w (Qc P ops Q (Qk ops.toList r)) (QF Q) else Qc P ops Q (Qk ops.toList r) (a.put ops[i].dst undef) w)->Zp P ops Q T (r.length+1) listed a w:=λhB' hr hf ht=>by
   have hcl':Closed ops (listed.setIfInBounds i true):=hcl.step (by grind);refine⟨λh0=>(by rw[hr]at h0;cases h0),λj hj=>?_⟩;rw[hr]at hj;obtain rfl:j=i:=by simpa using hj
   unfold wpOp;simp only[ho];cases hT:T j with
   | false=>
    have h:=hf hT;split
    .rename_i hw;simp only[hw,if_true]at h;exact .inl (Oper.wp_mono (λa' w' h'=>⟨λ_=>h'.1,hrec hcl' hB' _ _ h'.2⟩) h)
    repeat grind [Ext.refl]
   | true=>
    have h:=ht hT;split
    .rename_i hw;simp only[hw,if_true]at h;exact .inl (Oper.wp_mono (λa' w' h'=>⟨λh0=>(by cases h0),hrec hcl' hB' _ _ h'⟩) h)
    repeat grind
  match k,hTi,hk0,hR,hB,h with
  | 0,hTi,_,hR,hB,h=>
   simp only[Xz,Bool.and_eq_true]at hB;obtain⟨⟨hr,hf⟩,hB'⟩:=hB;have hr':i∈Region.ready .any ops listed:=by simpa using hr
   simp only[Qk,hn,Qc,wk1]at h;obtain⟨v,hy,h⟩:=h;refine Jvm Ext Ext.refl Ext.trans ho (Region.noSelect_spec hsel) ?_ r.length listed a w hcl (Region.free_spec ho hf) hr' hy (hrec (hcl.step hr') hB' _ _ h);intro listed' j hcl' hri hrj w w' hx;cases hT:T j with
   | false=>exact hx hT
   | true=>
    obtain⟨_,oj,hoj,_⟩:=mem_ready.1 hrj;have h1:=Jjh hcl' F j i oj hoj (Jjg hoj hrj) (hR j hT (Array.getElem?_eq_some_iff.1 hoj).1 _ (mC ..) rfl);have h0:=(mem_ready.1 hri).1;grind
  | 1,hTi,_,hR,hB,h=>
   simp only[Xz,Bool.and_eq_true,beq_iff_eq]at hB;simp only[Qk,hn,Qc,wk1]at h;grind
  | 2,hTi,_,hR,hB,h=>
   simp only[Xz,Bool.and_eq_true,beq_iff_eq]at hB;simp only[Qk,hn,Qc,wk1]at h;grind
  | k+3,_,hk0,_,_,_=>simp at hk0
def Jvh(P:Program)(ops:Array Oper)(K:Act->World->Prop): List Oper->Act->World->Prop
 | [],a,w=>K a w
 | o::r,a,w=>∃ v,YieldsIf P ops (λ_=>True) o v a/\Jvh P ops K r (a.put o.dst v) w
def Jcm(ops:Array Oper)(s:List (Nat×Nat)): List Nat->Array Bool->Bool
 | [],listed=>Xz ops s listed
 | i::r,listed=>Nat.blt i ops.size && (Region.ready .any ops listed).contains i && Region.free .any ops listed i && Jcm ops s r (listed.setIfInBounds i true)
def Jxj(l:List Oper): List Nat->List Oper
 | []=>[]
 | i::r=>match nth l i with
  | some o=>o::Jxj l r
  | none=>Jxj l r
theorem Jnf(hsel:Region.noSelect ops=true)(F:Nat){s:List (Nat×Nat)}(hk:∀ p∈s,Nat.ble p.1 2=true)(hlt:∀ p∈s,p.2<ops.size)(hKT:∀ p∈s,(p.1 == 2)=T p.2)(hR:∀ t,T t=true->t<ops.size->∀ p∈s,p.1=0->Yl ops F t p.2=true): ∀(s0:List Nat) (listed:Array Bool) (a:Act) (w:World),Closed ops listed->Jcm ops s s0 listed=true ->
  Jvh P ops (Qc P ops Q (Qk ops.toList s)) (Jxj ops.toList s0) a w->Zp P ops Q T (s0.length+s.length) listed a w
 | [],listed,a,w,hcl,hB,h=>by
  simp only[List.length_nil,Nat.zero_add];exact Jnd hsel F s listed a w hcl hk hlt hKT hR hB h
 | i::r,listed,a,w,hcl,hB,h=>by
  simp only[Jcm,Bool.and_eq_true]at hB;obtain⟨⟨⟨hi0,hr⟩,hf⟩,hB'⟩:=hB;have hi:i<ops.size:=by(have:i+1<=ops.size:=by simpa [Nat.blt] using hi0);(omega)
  have ho:ops[i]?=some ops[i]:=Array.getElem?_eq_getElem hi;have hn:nth ops.toList i=some ops[i]:=by rw[Xq];simp[hi]
  have hr':i∈Region.ready .any ops listed:=by simpa using hr
  simp only[Jxj,hn,Jvh]at h;obtain⟨v,hy,h⟩:=h;have e:(i::r).length+s.length=(r.length+s.length)+1:=by simp;omega
  rw[e];exact Jvm (λ_ _=>True) (λ_=>trivial) (λ_ _=>trivial) ho (Region.noSelect_spec hsel) (λ_ _ _ _ _ _ _ _=>trivial) _ listed a w hcl (Region.free_spec ho hf) hr' hy
   (Jnf hsel F hk hlt hKT hR r _ _ _ (hcl.step hr') hB' h)
def Jdz(ops:Array Oper)(F:Nat)(s0:List Nat)(s:List (Nat×Nat)): Bool :=
 Region.noSelect ops && (s0.length+s.length == ops.size) && (s.all λp=>Nat.ble p.1 2) && (s.all λp=>Nat.blt p.2 ops.size) && (s.all λp=>(p.1 == 2) == Gr s p.2) &&
 ((List.range ops.size).all λt=>!Gr s t || s.all λp=>p.1 != 0 || Yl ops F t p.2) && Jcm ops s s0 (Array.replicate ops.size false)
end
section
variable {P:Program} {n:Nat} {al al':AL} {w:World} {Q:Exit->Act->World->Prop} {ops:Array Oper} {s:List (Nat×Oper)} {rest:List Oper}
def WP(P:Program)(n:Nat)(ops:Array Oper)(Q:Exit->Act->World->Prop)(s:List (Nat×Oper))(l:List Oper)(al:AL)(w:World): Prop:=∀ a,Fr n al a->Jvh P ops (Qc P ops Q s) l a w
theorem WP.sub{l:List Oper}(hs:Sub al' al)(h:WP P n ops Q s l al' w): WP P n ops Q s l al w:=λa i=>h a (i.sub hs)
theorem Qbc(F:Nat)(s0:List Nat)(s:List (Nat×Nat))(hm:P.follows .mixedOrders=true)(hB:Jdz l.toArray F s0 s=true)(h:WP P n l.toArray Q (Qk l s) (Jxj l s0) al w.drew): WC P n (.region id l.toArray true) Q al w:=by
 intro a B;simp only[Jdz,Bool.and_eq_true,beq_iff_eq,List.all_eq_true,List.mem_range,Bool.or_eq_true,Bool.not_eq_true',bne_iff_ne]at hB;obtain⟨⟨⟨⟨⟨⟨U,j⟩,O⟩,J⟩,G⟩,h6⟩,D⟩:=hB;refine wp_region_any hm ?_;rw[<-j];refine Jdg (T:=Gr s) _ _ _ _ (Jnf U F (λp i=>O p i) (λp i=>?_) (λp i=>?_) (λt ht u p i h0=>?_) s0 _ a _ ?_ (by rw[j];exact D) ?_)
 .have:=J p i;have h':p.2+1<=l.toArray.size:=by simpa [Nat.blt] using this
  omega
 .simpa using G p i
 .grind
 .intro k o Z y e he hb;exfalso
  simp only[Array.getD_eq_getD_getElem?,Array.getElem?_replicate]at y;grind
 have:=h a B;simpa using this
variable {d ty:Nat} {op:Op} {pos:String} {aft:Array Edge} {tt:TT}
theorem pnil(h:WD P n ops Q s al w): WP P n ops Q s [] al w:=λa i=>h a i
theorem py(hy:∀ w' a,Fr n al a->(execOp a.eval ⟨some d,op,ty,pos,aft,none⟩).run P w'=.ok (.value v) w')(hd:Nat.blt d n=true)(k:WP P n ops Q s rest ((d,v)::al) w): WP P n ops Q s (⟨some d,op,ty,pos,aft,none⟩::rest) al w:=λa j=>by
 have i:d<n:=by(have:d+1<=n:=by simpa [Nat.blt] using hd);(omega)
 exact⟨v,.inl ⟨rfl,λw' _=>hy w' a j⟩,k _ (j.put i v)⟩
theorem π4[h:Tab P tt](k:WP P n ops Q s rest ((d,v)::al) w)(hv:pv tt (ev al) op=some v:=by rfl)(hd:Nat.blt d n=true:=by rfl): WP P n ops Q s (⟨some d,op,ty,pos,aft,none⟩::rest) al w :=
 py (λw' a j=>Ge w' h.ok (λx u i=>j.ev i) hv) hd k
theorem π1(k:WP P n ops Q s rest ((d,.int .i64 (a+b))::al) w)(hx:ev al x=some (.int .i64 a):=by rfl)(hy:ev al y=some (.int .i64 b):=by rfl)(hd:Nat.blt d n=true:=by rfl)(hc:-9223372036854775808<=a+b/\a+b<=9223372036854775807:=by omega):
  WP P n ops Q s (⟨some d,.binOp .add t x y yt,ty,pos,aft,none⟩::rest) al w :=
 py (λw' e j=>by
  have B:IntKind.i64.wrap (a+b)=a+b:=Vn hc;have:=Ge (P:=P) (tt:=[]) w' trivial (o:=⟨some d,.binOp .add t x y yt,ty,pos,aft,none⟩) (ρ:=e.eval) (e:=ev al) (λz u i=>j.ev i) (v:=.int .i64 (IntKind.i64.wrap (a+b))) (by grind [pv,bop]);grind) hd k
theorem π2(k:WP P n ops Q s rest ((d,.int .i64 (a-b))::al) w)(hx:ev al x=some (.int .i64 a):=by rfl)(hy:ev al y=some (.int .i64 b):=by rfl)(hd:Nat.blt d n=true:=by rfl)(hc:-9223372036854775808<=a-b/\a-b<=9223372036854775807:=by omega):
  WP P n ops Q s (⟨some d,.binOp .sub t x y yt,ty,pos,aft,none⟩::rest) al w :=
 py (λw' e j=>by
  have B:IntKind.i64.wrap (a-b)=a-b:=Vn hc;have:=Ge (P:=P) (tt:=[]) w' trivial (o:=⟨some d,.binOp .sub t x y yt,ty,pos,aft,none⟩) (ρ:=e.eval) (e:=ev al) (λz u i=>j.ev i) (v:=.int .i64 (IntKind.i64.wrap (a-b))) (by grind [pv,bop]);grind) hd k
theorem π5(h:WD P n ops Q s al w): WP P n ops Q s [] al w:=pnil h
theorem drC[h:Tab P tt](F:Nat)(s0:List Nat)(s:List (Nat×Nat))(hB:Jdz l.toArray F s0 s=true)(k:WP P n l.toArray Q (Qk l s) (Jxj l s0) al w.drew): WC P n (.region id l.toArray true) Q al w:=Qbc F s0 s h.mixed hB k
end
end Go.Wk
namespace Go.Wk
open Go.RowKit
section
variable {P:Program} {n:Nat} {al al':AL} {w:World} {Q:Exit->Act->World->Prop} {ops:Array Oper} {drest:List (Nat×Oper)} {rest:List Oper} {s:List (Nat×Oper)}
variable {d ty:Nat} {op:Op} {pos:String} {aft:Array Edge} {tt:TT}
end
end Go.Wk
namespace Go.Wk
variable {a b:AL}{p q:Prop}
structure Hold(p:Prop): Prop where
 of:p
theorem ρ(h:p)(t:Hold p->q:=by intro h;(repeat first|refine ω1 ?_|refine ω2 ?_|refine ω3 ?_|refine ω4 ?_|refine ω5 ?_|refine χ1 ?_|refine κ1 ?_|refine κ2 ?_|refine χ2 ?_|refine κ3 ?_|refine ω6 ?_|refine ω7 ?_|refine ω9 ?_|refine κ4 ?_|refine κ7 ?_|refine κ8 ?_|refine χ3 ?_|refine χ4 ?_|refine κ5 ?_|refine κ6 ?_|refine χ5 ?_|refine χ6 ?_|refine χ7 ?_|refine ω8 ?_);exact h.of): q:=t ⟨h⟩
theorem ρd(h:p)(t:Hold p->q:=by intro h;(repeat first|refine δ1 ?_|refine δ2 ?_|refine δ4 ?_|refine δ5 ?_|refine δ6 ?_|refine δ7 ?_|refine δ9 ?_|refine δ8 ?_|refine χ1 ?_|refine χ2 ?_|refine χ3 ?_|refine χ4 ?_|refine χ5 ?_|refine χ6 ?_|refine χ7 ?_);exact h.of): q:=t ⟨h⟩
theorem ρp(h:p)(t:Hold p->q:=by intro h;(repeat first|refine π1 ?_|refine π2 ?_|refine π4 ?_|refine π5 ?_);exact h.of): q:=t ⟨h⟩
theorem sB(h:Sub a b:=by repeat' (first|exact Sub.nil|refine Sub.cons rfl ?_)): Sub a b:=h
theorem sO(h:Sub a b:=by repeat' (first|exact Sub.nil|refine Sub.cons (by first|rfl|(refine congrArg (λz=>some (Value.int .i64 z)) ?_;omega)) ?_)): Sub a b:=h
end Go.Wk
namespace Go.Wk
open Go.RowKit
variable {cs xs:List Value}{base c e j m:Nat}{A:Option Addr}
section
variable {P:Program} {n:Nat} {al:AL} {w:World} {Q:Exit->Act->World->Prop} {ops:Array Oper} {rest:List Oper}
variable {d ty:Nat} {op:Op} {pos:String} {aft:Array Edge} {tt:TT}
theorem Qlw{sz:Nat}(ho:w.ownsRow base e sz (.slice A m c) m xs)(hj:j<m)(hl:cs.length=sz)(h1:∀ u∈cs,u.oneCell'=true):
  ∃ w',(storeCells (adr A (j*sz)) cs).run P w=.ok () w'/\w'.ownsRow base e sz (.slice A m c) m (xs.take (j*sz)++cs++xs.drop (j*sz+sz))/\w.grownBy w' (Value.slice A m c).ownBlock:=by
 rcases ho.2 with⟨_,h0⟩|⟨g,cap,cur,hv,hb,hg,hc,hcm,hcs,ht⟩
 .omega
 injection hv with B _ e3
 subst B;subst e3;have G:j*sz+sz<=m*sz:=by have:=nO sz hj;grind
 have D:m*sz<=c*sz:=nO _ hc;have J:adr (some ⟨g,0,none⟩) (j*sz)=⟨g,j*sz,none⟩:=by simp[adr,Zm]
 rw[J];have i:=run_storeCells_at (P:=P) g (j*sz) e cs 0 cur w hg om h1;simp only[Nat.add_zero]at i;refine⟨_,i,⟨?_,.inr ⟨g,c,_,rfl,hb,setRow_heap w g cur _ e (0,0) hg,hc,hcm,?_,?_⟩⟩,?_⟩
 .grind
 .grind
 .simp only;have y:(cur.toList.take (j*sz)++cs).length=j*sz+sz:=by grind
  rw[List.take_append,y];have B:(cur.toList.take (j*sz)++cs).take (m*sz)=cur.toList.take (j*sz)++cs:=List.take_of_length_le om;rw[B,<-ht,List.take_take,Nat.min_eq_left om,List.drop_take,hl]
 have:=Jjz w g (cur.toList.take (j*sz)++cs++cur.toList.drop (j*sz+cs.length)).toArray;exact this
theorem stoE[h:Tab P tt]{x y:Operand}{t sz:Nat}{k:TK}(ho:w.ownsRow base e sz (.slice A m c) m xs)(hj:j<m)(kk:∀ w1,w1.ownsRow base e sz (.slice A m c) m (xs.take (j*sz)++cs++xs.drop (j*sz+sz))->w.grownBy w1 (Value.slice A m c).ownBlock->WL P n ops Q rest al w1)(h1:∀ u∈cs,u.oneCell'=true)(ht:tk tt t=some k:=by rfl)(hk:k.desc=.invalid:=by rfl)(hs:k.size=sz:=by rfl)(hl:cs.length=sz:=by rfl)(hx:ev al x=some (.pointer (some (adr A (j*sz)))):=by rfl)(hy:ev al y=some (.agg cs.toArray):=by rfl):
  WL P n ops Q (⟨none,.store t x y,ty,pos,aft,none⟩::rest) al w:=by
 obtain⟨w',B,D,G⟩:=Qlw (P:=P) ho hj hl h1;refine Jqq (λa J=>?_) (kk w' D G);have i:=Ve w (Jkc h.ok ht hk w).2;simp[execOp,J.ev hx,J.ev hy,Instr.storeAt,Instr.sureAddr,storeVar,Value.cells,i,hs,hl,B]
end
end Go.Wk
namespace Go.Wk
open Go.RowKit
variable {p q:Bool}{x y:Operand}{k:TK}{t t2:TypeId}
section
variable {P:Program} {n:Nat} {al:AL} {w:World} {Q:Exit->Act->World->Prop} {ops:Array Oper} {rest:List Oper} {drest:List (Nat×Oper)}
variable {d ty:Nat} {op:Op} {pos:String} {aft:Array Edge} {tt:TT}
def toE(P:Program)(ops:Array Oper)(Q:Exit->Act->World->Prop)(w0:World)(rest:List (Nat×Oper)): Exit->Act->World->Prop
 | .normal,a,w=>Ext w0 w/\Qc P ops Q rest a w
 | _,_,_=>False
theorem Jwq{w0:World}(hx:Ext w0 w)(h:WD P n ops Q drest al w): QX n (toE P ops Q w0 drest) .normal al w:=λa i=>⟨hx,h a i⟩
theorem Jwr{o:Oper}(h:WL P n ops (toE P ops Q w drest) [o] al w): WD P n ops Q ((1,o)::drest) al w:=λa u=>by
 have i:=h a u;unfold wpList at i;unfold Qc wk1;simp only;have j:¬ LetsOut (toE P ops Q w drest):=by rintro⟨a,w,h⟩;exact h
 split
 .rename_i hw;simp only[hw,if_true]at i;rcases i with i|⟨_,i⟩
  .refine Oper.wp_mono (K:=wpList P ops (toE P ops Q w drest) []) (λB w' y=>y) ?_;unfold Oper.wp at i ⊢;grind [Yo,toE]
  exact absurd i j
 rename_i hw;simp only[hw]at i;exact i.2
theorem Qfr(hT:TOk P tt)(ht:tk tt t=some k)(hk:k.desc=.bool){a:Act}(ha:Fr n al a)(hx:ev al x=some (.bool p))(hy:ev al y=some (.bool q))(dst:Option Nat)(w:World):
  (execOp a.eval ⟨dst,.binOp .eql t x y t2,ty,pos,aft,none⟩).run P w=.ok (.value (.bool (p == q))) w:=by
 have i:=Gz hT ht hk rfl;have h:∀ d:Nat,(Op.equalIn (d+1) t (.bool p) (.bool q)).run P w=.ok (p == q) w:=λd=>by simp[Op.equalIn,run_underlying i]
 simp[execOp,ha.ev hx,ha.ev hy,eqGuard,binOp,Op.equal,Op.maxDepth,h 9999]
theorem eqb[h:Tab P tt](kk:WL P n ops Q rest ((d,.bool (p == q))::al) w)(ht:tk tt t=some k:=by rfl)(hk:k.desc=.bool:=by rfl)(hx:ev al x=some (.bool p):=by rfl)(hy:ev al y=some (.bool q):=by rfl)(hd:Nat.blt d n=true:=by rfl):
  WL P n ops Q (⟨some d,.binOp .eql t x y t2,ty,pos,aft,none⟩::rest) al w:=wop hd (λa i=>Qfr h.ok ht hk i hx hy (some d) w) kk
end
end Go.Wk
namespace Go.Wk
open Go.RowKit
variable {L listed:Array Bool}{l:List Oper}{fuel fuel' i id:Nat}{o oi oj:Oper}{w w0:World}
section
variable {P:Program} {ops:Array Oper} {Q:Exit->Act->World->Prop}
def noT: Nat->Bool:=λ_=>false
theorem Qcs: Jjb ops noT=true:=by simp[Jjb,noT]
def Im(ops:Array Oper): List (Nat×Nat)->Array Bool->Option (Array Bool)
 | [],listed=>some listed
 | (0,i)::r,listed=>if(Region.ready .any ops listed).contains i && Region.free .any ops listed i && Nat.blt i ops.size then Im ops r (listed.setIfInBounds i true) else none
 | (1,i)::r,listed=>if(Region.ready .any ops listed == [i]) && Nat.blt i ops.size then Im ops r (listed.setIfInBounds i true) else none
 | _::_,_=>none
def toK(P:Program)(ops:Array Oper)(Q:Exit->Act->World->Prop)(fuel:Nat)(listed:Array Bool): Exit->Act->World->Prop
 | .normal,a,w=>Ub P ops Q noT fuel listed a w
 | _,_,_=>False
theorem Xvp{a:Act}{K:Act->World->Prop}(h:o.wp P a w K (QF (toK P ops Q fuel listed))): o.wp P a w K (QF Q):=by
 unfold Oper.wp at h ⊢;have i:¬ LetsOut (QF (toK P ops Q fuel listed)):=by rintro⟨a,w,h⟩;exact h
 grind [Yo,QF,toK]
theorem Jvl(hsel:Region.noSelect ops=true)(fuel:Nat)(listed':Array Bool): ∀(s:List (Nat×Nat)) (listed:Array Bool) (a:Act) (w:World),Im ops s listed=some listed'->Qc P ops (toK P ops Q fuel listed') (Qk ops.toList s) a w->Ub P ops Q noT (s.length+fuel) listed a w
 | [],listed,a,w,hB,h=>by
  simp only[Im,Option.some.injEq]at hB;subst hB;simp only[List.length_nil,Nat.zero_add];exact h
 | (0,i)::r,listed,a,w,hB,h=>by
  simp only[Im]at hB;split at hB
  .rename_i hc;simp only[Bool.and_eq_true]at hc;obtain⟨⟨hr,hf⟩,hi0⟩:=hc;have hi:i<ops.size:=by(have:i+1<=ops.size:=by simpa [Nat.blt] using hi0);(omega)
   have ho:ops[i]?=some ops[i]:=Array.getElem?_eq_getElem hi;have hn:nth ops.toList i=some ops[i]:=by rw[Xq];simp[hi]
   simp only[Qk,hn,Qc,wk1]at h;obtain⟨v,hy,h⟩:=h;rw[show((0,i)::r).length+fuel=(r.length+fuel)+1 by simp;omega];exact Jnc Qcs ho rfl (Region.noSelect_spec hsel) _ listed a w (Region.free_spec ho hf) (by simpa using hr) hy (Jvl hsel fuel listed' r _ _ _ hB h)
  cases hB
 | (1,i)::r,listed,a,w,hB,h=>by
  simp only[Im]at hB;split at hB
  .rename_i hc;simp only[Bool.and_eq_true,beq_iff_eq]at hc;obtain⟨hr,hi0⟩:=hc;have hi:i<ops.size:=by(have:i+1<=ops.size:=by simpa [Nat.blt] using hi0);(omega)
   have ho:ops[i]?=some ops[i]:=Array.getElem?_eq_getElem hi;have hn:nth ops.toList i=some ops[i]:=by rw[Xq];simp[hi]
   simp only[Qk,hn,Qc,wk1]at h;rw[show((1,i)::r).length+fuel=(r.length+fuel)+1 by simp;omega];refine .inr ⟨λh0=>(by rw[hr]at h0;cases h0),λj hj=>?_⟩;rw[hr]at hj;obtain rfl:j=i:=by simpa using hj
   unfold wpOp;simp only[ho];split
   .rename_i hw;simp only[hw,if_true]at h;exact .inl (Oper.wp_mono (λa' w' h'=>⟨h'.1,Jvl hsel fuel listed' r _ _ _ hB h'.2⟩) (Xvp h))
   rename_i hw;simp only[hw]at h;exact⟨Ext.refl w,Jvl hsel fuel listed' r _ _ _ hB h⟩
  cases hB
 | (k+2,i)::r,listed,a,w,hB,h=>by simp[Im]at hB
end
section
variable {P:Program} {n:Nat} {al al':AL} {w:World} {Q:Exit->Act->World->Prop} {ops:Array Oper}
def WG(P:Program)(n:Nat)(ops:Array Oper)(Q:Exit->Act->World->Prop)(fuel:Nat)(listed:Array Bool)(al:AL)(w:World): Prop:=∀ a,Fr n al a->Ub P ops Q noT fuel listed a w
theorem WG.sub{fuel:Nat}{listed:Array Bool}(hs:Sub al' al)(h:WG P n ops Q fuel listed al' w): WG P n ops Q fuel listed al w:=λa i=>h a (i.sub hs)
theorem drG{tt:TT}[ht:Tab P tt](hsel:Region.noSelect l.toArray=true)(h:WG P n l.toArray Q l.toArray.size (Array.replicate l.toArray.size false) al w.drew): WC P n (.region id l.toArray true) Q al w:=λa i=>
 wp_region_any ht.mixed (Jdf (T:=noT) _ _ _ _ (h a i))
theorem gpre(s:List (Nat×Nat))(listed':Array Bool)(hsel:Region.noSelect l.toArray=true)(hB:Im l.toArray s listed=some listed')(hf:fuel=s.length+fuel')(h:WD P n l.toArray (toK P l.toArray Q fuel' listed') (Qk l s) al w): WG P n l.toArray Q fuel listed al w:=λa i=>by
 subst hf;refine Jvl hsel fuel' listed' s listed a w hB ?_;have:=h a i;simpa using this
theorem Jbv(h:WG P n ops Q fuel listed al w): QX n (toK P ops Q fuel listed) .normal al w:=h
theorem gend(hr:Region.ready .any ops listed=[])(h:QX n Q .normal al w): WG P n ops Q 0 listed al w:=λa i=>⟨hr,h a i⟩
def toJ(P:Program)(ops:Array Oper)(Q:Exit->Act->World->Prop)(w0:World)(fuel:Nat)(listed:Array Bool): Exit->Act->World->Prop
 | .normal,a,w=>Ext w0 w/\Ub P ops Q noT fuel listed a w
 | _,_,_=>False
theorem Qqv(hx:Ext w0 w)(h:WG P n ops Q fuel listed al w): QX n (toJ P ops Q w0 fuel listed) .normal al w:=λa i=>⟨hx,h a i⟩
theorem Qyq(ho:ops[i]?=some o)(h:WL P n ops (toJ P ops Q w fuel listed) [o] al w): ∀ a,Fr n al a->wpOp P ops (QF Q) i (λa' w'=>Ext w w'/\Ub P ops Q noT fuel listed a' w') a w:=λa y=>by
 have j:=h a y;unfold wpList at j;unfold wpOp;simp only[ho];have u:¬ LetsOut (toJ P ops Q w fuel listed):=by rintro⟨a,w,h⟩;exact h
 split
 .rename_i hw;simp only[hw,if_true]at j;rcases j with j|⟨_,j⟩
  .left
   refine Oper.wp_mono (K:=wpList P ops (toJ P ops Q w fuel listed) []) (λa' w' B=>B) ?_;unfold Oper.wp at j ⊢;grind [Yo,toJ]
  exact absurd j u
 rename_i hw;simp only[hw]at j;exact j
theorem gtwo(i j:Nat)(hr:Region.ready .any l.toArray listed=[i,j])(hf:fuel=fuel'+1)(hi:nth l i=some oi)(hj:nth l j=some oj)(h1:WL P n l.toArray (toJ P l.toArray Q w fuel' (listed.setIfInBounds i true)) [oi] al w)(h2:WL P n l.toArray (toJ P l.toArray Q w fuel' (listed.setIfInBounds j true)) [oj] al w): WG P n l.toArray Q fuel listed al w:=λa y=>by
 subst hf;have D:l.toArray[i]?=some oi:=by rw[<-hi,Xq];simp
 have B:l.toArray[j]?=some oj:=by rw[<-hj,Xq];simp
 refine .inr ⟨λh0=>(by rw[hr]at h0;cases h0),λk u=>?_⟩;grind [Qyq]
theorem gcut{α:Type}(fuel':Nat)(L':Array Bool)(fr:α->AL)(I:α->World->Prop)(h2:∀ x w,I x w->WG P n ops Q fuel' L' (fr x) w)(h1:(∀ x al w,I x w->Sub (fr x) al->WG P n ops Q fuel' L' al w)->WG P n ops Q fuel L al w): WG P n ops Q fuel L al w:=h1 λx al w hi i=>(h2 x w hi).sub i
def lst(m k:Nat): Array Bool:=((List.range m).map λi=>Nat.blt i k).toArray
end
end Go.Wk
namespace Go.Wk
open Go.RowKit
variable {L listed listed':Array Bool}{l:List Oper}{fuel fuel' i id:Nat}{o oi oj:Oper}{w w0:World}
section
variable {P:Program} {ops:Array Oper} {Q:Exit->Act->World->Prop} {T:Nat->Bool}
def Gf(ops:Array Oper)(T:Nat->Bool)(F:Nat): List (Nat×Nat)->Array Bool->Option (Array Bool)
 | [],listed=>some listed
 | (0,i)::r,listed=>if(Region.ready .any ops listed).contains i && Region.free .any ops listed i && Nat.blt i ops.size && !T i && (List.range ops.size).all (λt=>!T t || Yl ops F t i) then Gf ops T F r (listed.setIfInBounds i true) else none
 | (1,i)::r,listed=>if(Region.ready .any ops listed == [i]) && Nat.blt i ops.size then Gf ops T F r (listed.setIfInBounds i true) else none
 | (2,i)::r,listed=>if(Region.ready .any ops listed == [i]) && Nat.blt i ops.size && T i then Gf ops T F r (listed.setIfInBounds i true) else none
 | _::_,_=>none
def Io(P:Program)(ops:Array Oper)(Q:Exit->Act->World->Prop)(T:Nat->Bool)(fuel:Nat)(listed:Array Bool): Exit->Act->World->Prop
 | .normal,a,w=>Closed ops listed->Zp P ops Q T fuel listed a w
 | _,_,_=>False
theorem Qyd{a:Act}{K:Act->World->Prop}(h:o.wp P a w K (QF (Io P ops Q T fuel listed))): o.wp P a w K (QF Q):=by
 unfold Oper.wp at h ⊢;have i:¬ LetsOut (QF (Io P ops Q T fuel listed)):=by rintro⟨a,w,h⟩;exact h
 grind [Yo,QF,Io]
theorem Jqp(hsel:Region.noSelect ops=true)(F fuel:Nat)(listed':Array Bool): ∀(s:List (Nat×Nat)) (listed:Array Bool) (a:Act) (w:World),Closed ops listed->Gf ops T F s listed=some listed'->Qc P ops (Io P ops Q T fuel listed') (Qk ops.toList s) a w->Zp P ops Q T (s.length+fuel) listed a w
 | [],listed,a,w,hcl,hB,h=>by
  simp only[Gf,Option.some.injEq]at hB;subst hB;simp only[List.length_nil,Nat.zero_add];exact h hcl
 | (0,i)::r,listed,a,w,hcl,hB,h=>by
  simp only[Gf]at hB;split at hB
  .rename_i hc;simp only[Bool.and_eq_true]at hc;obtain⟨⟨⟨⟨hr,hf⟩,hi0⟩,hTi⟩,hre⟩:=hc;have hi:i<ops.size:=by(have:i+1<=ops.size:=by simpa [Nat.blt] using hi0);(omega)
   have ho:ops[i]?=some ops[i]:=Array.getElem?_eq_getElem hi;have hn:nth ops.toList i=some ops[i]:=by rw[Xq];simp[hi]
   have hr':i∈Region.ready .any ops listed:=by simpa using hr
   simp only[Qk,hn,Qc,wk1]at h;obtain⟨v,hy,h⟩:=h;rw[show((0,i)::r).length+fuel=(r.length+fuel)+1 by simp;omega];refine Jvm Ext Ext.refl Ext.trans ho (Region.noSelect_spec hsel) ?_ _ listed a w hcl (Region.free_spec ho hf) hr' hy (Jqp hsel F fuel listed' r _ _ _ (hcl.step hr') hB h);intro listed2 j hcl2 hri hrj w w' hx;cases hT:T j with
   | false=>exact hx hT
   | true=>
    obtain⟨_,oj,hoj,_⟩:=mem_ready.1 hrj;have hjl:j<ops.size:=by grind
    have h9:=List.all_eq_true.1 hre j (List.mem_range.2 hjl);rw[hT]at h9;have h1:=Jjh hcl2 F j i oj hoj (Jjg hoj hrj) (by simpa using h9);have h0:=(mem_ready.1 hri).1;grind
  cases hB
 | (1,i)::r,listed,a,w,hcl,hB,h=>by
  simp only[Gf]at hB;split at hB
  .rename_i hc;simp only[Bool.and_eq_true,beq_iff_eq]at hc;obtain⟨hr,hi0⟩:=hc;have hi:i<ops.size:=by(have:i+1<=ops.size:=by simpa [Nat.blt] using hi0);(omega)
   have ho:ops[i]?=some ops[i]:=Array.getElem?_eq_getElem hi;have hn:nth ops.toList i=some ops[i]:=by rw[Xq];simp[hi]
   have hcl':Closed ops (listed.setIfInBounds i true):=hcl.step (by grind);simp only[Qk,hn,Qc,wk1]at h;rw[show((1,i)::r).length+fuel=(r.length+fuel)+1 by simp;omega];refine⟨λh0=>(by rw[hr]at h0;cases h0),λj hj=>?_⟩;rw[hr]at hj;obtain rfl:j=i:=by simpa using hj
   unfold wpOp;simp only[ho];split
   .rename_i hw;simp only[hw,if_true]at h;exact .inl (Oper.wp_mono (λa' w' h'=>⟨λ_=>h'.1,Jqp hsel F fuel listed' r _ _ _ hcl' hB h'.2⟩) (Qyd h))
   rename_i hw;simp only[hw]at h;exact⟨λ_=>Ext.refl w,Jqp hsel F fuel listed' r _ _ _ hcl' hB h⟩
  cases hB
 | (2,i)::r,listed,a,w,hcl,hB,h=>by
  simp only[Gf]at hB;split at hB
  .rename_i hc;simp only[Bool.and_eq_true,beq_iff_eq]at hc;obtain⟨⟨hr,hi0⟩,hTi⟩:=hc;have hi:i<ops.size:=by(have:i+1<=ops.size:=by simpa [Nat.blt] using hi0);(omega)
   have ho:ops[i]?=some ops[i]:=Array.getElem?_eq_getElem hi;have hn:nth ops.toList i=some ops[i]:=by rw[Xq];simp[hi]
   have hcl':Closed ops (listed.setIfInBounds i true):=hcl.step (by grind);simp only[Qk,hn,Qc,wk1]at h;rw[show((2,i)::r).length+fuel=(r.length+fuel)+1 by simp;omega];refine⟨λh0=>(by rw[hr]at h0;cases h0),λj hj=>?_⟩;rw[hr]at hj;obtain rfl:j=i:=by simpa using hj
   unfold wpOp;simp only[ho];split
   .rename_i hw;simp only[hw,if_true]at h;exact .inl (Oper.wp_mono (λa' w' h'=>⟨λh0=>(by grind),Jqp hsel F fuel listed' r _ _ _ hcl' hB h'⟩) (Qyd h))
   rename_i hw;simp only[hw]at h;exact⟨λ_=>Ext.refl w,Jqp hsel F fuel listed' r _ _ _ hcl' hB h⟩
  cases hB
 | (k+3,i)::r,listed,a,w,hcl,hB,h=>by simp[Gf]at hB
end
section
variable {P:Program} {n:Nat} {al al':AL} {w:World} {Q:Exit->Act->World->Prop} {ops:Array Oper} {T:Nat->Bool}
def WH(P:Program)(n:Nat)(ops:Array Oper)(Q:Exit->Act->World->Prop)(T:Nat->Bool)(fuel:Nat)(listed:Array Bool)(al:AL)(w:World): Prop:=Closed ops listed->∀ a,Fr n al a->Zp P ops Q T fuel listed a w
theorem WH.sub{fuel:Nat}{listed:Array Bool}(hs:Sub al' al)(h:WH P n ops Q T fuel listed al' w): WH P n ops Q T fuel listed al w:=λi a j=>h i a (j.sub hs)
theorem Xzq(ops:Array Oper)(m:Nat): Closed ops (Array.replicate m false):=λk o _ i=>by
 exfalso
 rcases Nat.lt_or_ge k m with h|h
 .simp[h]at i
 repeat grind
theorem drH{tt:TT}[ht:Tab P tt](T:Nat->Bool)(h:WH P n l.toArray Q T l.toArray.size (Array.replicate l.toArray.size false) al w.drew): WC P n (.region id l.toArray true) Q al w:=λa i=>
 wp_region_any ht.mixed (Jdg (T:=T) _ _ _ _ (h (Xzq _ _) a i))
theorem Ux(F:Nat)(s:List (Nat×Nat))(listed':Array Bool)(hsel:Region.noSelect l.toArray=true)(hB:Gf l.toArray T F s listed=some listed')(hf:fuel=s.length+fuel')(h:WD P n l.toArray (Io P l.toArray Q T fuel' listed') (Qk l s) al w): WH P n l.toArray Q T fuel listed al w:=λi a j=>by
 subst hf;refine Jqp hsel F fuel' listed' s listed a w i hB ?_;have:=h a j;simpa using this
theorem Yq(h:WH P n ops Q T fuel listed al w): QX n (Io P ops Q T fuel listed) .normal al w:=λa j i=>h i a j
theorem Vz(hr:Region.ready .any ops listed=[])(h:QX n Q .normal al w): WH P n ops Q T 0 listed al w:=λ_ a i=>⟨hr,h a i⟩
def Iu(P:Program)(ops:Array Oper)(Q:Exit->Act->World->Prop)(T:Nat->Bool)(w0:World)(fuel:Nat)(listed:Array Bool): Exit->Act->World->Prop
 | .normal,a,w=>Ext w0 w/\(Closed ops listed->Zp P ops Q T fuel listed a w)
 | _,_,_=>False
theorem Qqt(hx:Ext w0 w)(h:WH P n ops Q T fuel listed al w): QX n (Iu P ops Q T w0 fuel listed) .normal al w:=λa j=>⟨hx,λi=>h i a j⟩
theorem Jmv(ho:ops[i]?=some o)(hc:Closed ops listed)(h:WL P n ops (Iu P ops Q T w fuel listed) [o] al w): ∀ a,Fr n al a->wpOp P ops (QF Q) i (λa' w'=>(T i=false->Ext w w')/\Zp P ops Q T fuel listed a' w') a w:=λa B=>by
 have j:=h a B;unfold wpList at j;unfold wpOp;simp only[ho];have u:¬ LetsOut (Iu P ops Q T w fuel listed):=by rintro⟨a,w,h⟩;exact h
 split
 .rename_i hw;simp only[hw,if_true]at j;rcases j with j|⟨_,j⟩
  .left
   refine Oper.wp_mono (K:=wpList P ops (Iu P ops Q T w fuel listed) []) (λa' w' y=>⟨λ_=>y.1,y.2 hc⟩) ?_;unfold Oper.wp at j ⊢;grind [Yo,Iu]
  exact absurd j u
 rename_i hw;simp only[hw]at j;exact⟨λ_=>j.1,j.2 hc⟩
theorem htwo(i j:Nat)(hr:Region.ready .any l.toArray listed=[i,j])(hf:fuel=fuel'+1)(hi:nth l i=some oi)(hj:nth l j=some oj)(h1:WL P n l.toArray (Iu P l.toArray Q T w fuel' (listed.setIfInBounds i true)) [oi] al w)(h2:WL P n l.toArray (Iu P l.toArray Q T w fuel' (listed.setIfInBounds j true)) [oj] al w): WH P n l.toArray Q T fuel listed al w:=λB a D=>by
 subst hf;have J:l.toArray[i]?=some oi:=by rw[<-hi,Xq];simp
 have G:l.toArray[j]?=some oj:=by rw[<-hj,Xq];simp
 refine⟨λh0=>(by rw[hr]at h0;cases h0),λk y=>?_⟩;have u:=y;rw[hr]at y;simp only[List.mem_cons,List.not_mem_nil,or_false]at y;rcases y with rfl|rfl
 .exact Jmv J (B.step u) h1 a D
 exact Jmv G (B.step u) h2 a D
theorem hlist(e:listed=listed')(h:WH P n ops Q T fuel listed' al w): WH P n ops Q T fuel listed al w:=by subst e;exact h
theorem hcut{α:Type}(fuel':Nat)(L':Array Bool)(fr:α->AL)(I:α->World->Prop)(h2:∀ x w,I x w->WH P n ops Q T fuel' L' (fr x) w)(h1:(∀ x al w,I x w->Sub (fr x) al->WH P n ops Q T fuel' L' al w)->WH P n ops Q T fuel L al w): WH P n ops Q T fuel L al w:=h1 λx al w hi i=>(h2 x w hi).sub i
end
end Go.Wk
namespace Go.Wk
open Go.RowKit
variable {a:Act}{p:Addr}{b z z1 z2:Int}{k1 kd kd1 kd2:IntKind}{c e m:Nat}{i x y y1 y2:Operand}{k:TK}{t t2 yt:TypeId}
section
variable {P:Program} {n:Nat} {al:AL} {w:World} {Q:Exit->Act->World->Prop} {ops:Array Oper} {rest:List Oper} {drest:List (Nat×Oper)}
variable {d ty:Nat} {op:Op} {pos:String} {aft:Array Edge} {tt:TT}
theorem Qcn(hT:TOk P tt){t sz:Nat}(ht:tk tt t=some k)(hk:k.desc=.array m e)(hz:k.esz=sz): P.underlying t=some (.array m e)/\Zy P e=some sz:=by
 have:=hT.at ht;grind [Yu]
theorem Jyg(hT:TOk P tt){t:Nat}(j:Nat)(ht:tk tt t=some k)(hk:k.desc=.array m e)(hlt:j<m)(ha:Fr n al a)(hx:ev al x=some (.pointer (some p)))(hi:ev al i=some (.int kd z))(hj:z=(j:Int))(dst:Option Nat)(w:World):
  (execOp a.eval ⟨dst,.indexAddr t x i,ty,pos,aft,none⟩).run P w=.ok (.value (.pointer (some (p.add (j*k.esz))))) w:=by
 obtain⟨u,y⟩:=Qcn hT ht hk rfl;subst hj;simp[execOp,ha.ev hx,ha.ev hi,Instr.indexAt,asIntOf,run_underlying u,Ve w y,Instr.sureAddr];intro h;omega
theorem ixa[h:Tab P tt]{t:Nat}(j:Nat)(kk:WL P n ops Q rest ((d,.pointer (some (p.add (j*k.esz))))::al) w)(ht:tk tt t=some k:=by rfl)(hk:k.desc=.array m e:=by rfl)(hlt:Nat.blt j m=true:=by rfl)(hx:ev al x=some (.pointer (some p)):=by rfl)(hi:ev al i=some (.int kd z):=by rfl)(hj:z=(j:Int):=by first|rfl|omega)(hd:Nat.blt d n=true:=by rfl): WL P n ops Q (⟨some d,.indexAddr t x i,ty,pos,aft,none⟩::rest) al w :=
 wop hd (λa u=>Jyg h.ok j ht hk (Nat.le_of_ble_eq_true (n:=j+1) hlt) u hx hi hj (some d) w) kk
theorem Jrm{a:Int}(h0:b≠0){e:Act}(he:Fr n al e)(hx:ev al x=some (.int k1 a))(hy:ev al y=some (.int k1 b))(dst:Option Nat)(w:World):
  (execOp e.eval ⟨dst,.binOp .rem t x y yt,ty,pos,aft,none⟩).run P w=.ok (.value (.int k1 (a.tmod b))) w:=by
 simp[execOp,he.ev hx,he.ev hy,eqGuard,binOp,Op.intDiv,h0]
theorem drem{a:Int}(h0:b≠0)(kk:WD P n ops Q drest ((d,.int k1 (a.tmod b))::al) w)(hx:ev al x=some (.int k1 a):=by rfl)(hy:ev al y=some (.int k1 b):=by rfl)(hd:Nat.blt d n=true:=by rfl):
  WD P n ops Q ((0,⟨some d,.binOp .rem t x y yt,ty,pos,aft,none⟩)::drest) al w:=dy (λw' _ e i=>Jrm h0 i hx hy (some d) w') hd kk
theorem rem{a:Int}(h0:b≠0)(kk:WL P n ops Q rest ((d,.int k1 (a.tmod b))::al) w)(hx:ev al x=some (.int k1 a):=by rfl)(hy:ev al y=some (.int k1 b):=by rfl)(hd:Nat.blt d n=true:=by rfl):
  WL P n ops Q (⟨some d,.binOp .rem t x y yt,ty,pos,aft,none⟩::rest) al w:=by grind [wop,Jrm]
theorem Qfq(hT:TOk P tt){p q:Bool}(ht:tk tt t=some k)(hk:k.desc=.bool)(ha:Fr n al a)(hx:ev al x=some (.bool p))(hy:ev al y=some (.bool q))(dst:Option Nat)(w:World):
  (execOp a.eval ⟨dst,.binOp .neq t x y t2,ty,pos,aft,none⟩).run P w=.ok (.value (.bool (!(p == q)))) w:=by
 have i:=Gz hT ht hk rfl;have h:∀ d:Nat,(Op.equalIn (d+1) t (.bool p) (.bool q)).run P w=.ok (p == q) w:=λd=>by simp[Op.equalIn,run_underlying i]
 simp[execOp,ha.ev hx,ha.ev hy,eqGuard,binOp,Op.equal,Op.maxDepth,h 9999]
theorem slb[hT:Tab P tt]{t:Nat}{A:Option Addr}(l h:Nat)(kk:WL P n ops Q rest ((d,.slice (if c=l then A else A.map (·.add (l*k.esz))) (h-l) (c-l))::al) w)(h1:l<=h)(h2:h<=c)(hz1:z1=(l:Int))(hz2:z2=(h:Int))(ht:tk tt t=some k:=by rfl)(hk:k.desc=.slice e:=by rfl)(hx:ev al x=some (.slice A m c):=by rfl)(hy1:ev al y1=some (.int kd1 z1):=by rfl)(hy2:ev al y2=some (.int kd2 z2):=by rfl)(hd:Nat.blt d n=true:=by rfl):
  WL P n ops Q (⟨some d,.slice t x (some y1) (some y2) none,ty,pos,aft,none⟩::rest) al w :=
 Jzv hT.ok l h c _ _ _ ht hk rfl hx ⟨kd1,z1,hy1,hz1⟩ ⟨kd2,z2,hy2,hz2⟩ rfl (.inl rfl) h1 h2 (Nat.le_refl _) rfl rfl rfl hd kk
end
end Go.Wk
