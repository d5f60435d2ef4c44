/- Part 0. -/
import Derived.Tactics
import Derived.Orders
import Derived.Below
import Derived.Laws.Entries
import Derived.Laws.Cells
import Derived.Laws.Slices
import Derived.Deep.Draws
import Derived.Deep.LoopGhost
import Derived.WalkKit
import Derived.Maps.AppendAt
import Derived.ArgAppend
import Derived.Laws.OwnMore
import Derived.Laws.BytesArg
import Derived.OwnWalk
import Derived.Deep.AppendLies
import Derived.Deep.Onto
set_option linter.unusedVariables false
set_option maxRecDepth 100000
set_option maxHeartbeats 40000000
abbrev oT:=@of_decide_eq_true
abbrev oF:=@of_decide_eq_false
abbrev nL:=@Nat.le_trans
abbrev nM:=@Nat.lt_of_lt_of_le
abbrev dF:=@decide_eq_false
abbrev nO:=@Nat.mul_le_mul_right
abbrev mC:=@List.mem_cons_self
theorem om{p:Prop}(h:p:=by omega):p:=h
theorem kr{p:Prop}(h:p:=by kernel_rfl):p:=h
namespace Go.Wk
open Go.RowKit
variable {b:Bool}{c d:Code}{R:Ending->World->Prop}{fn:Func}{a z:Int}{k1 k2:IntKind}{l:List Oper}{id id' j m s u:Nat}{x y:Operand}{α β γ δ σ:Type}{t yt:TypeId}{r v v':Value}{w':World}
abbrev AL:= List (Nat×Value)
def lk: AL->Nat->Option Value
 | [],_=>none
 | (k,v)::r,t=>match Nat.beq k t with
  | true=>some v
  | false=>lk r t
def ev(al:AL): Operand->Option Value
 | .tmp t=>lk al t
 | .const v=>some v
 | .global g=>some (.pointer (some ⟨g,0,none⟩))
 | .func f=>some (.func (.func f) #[] #[])
def evs(al:AL): List Operand->Option (List Value)
 | []=>some []
 | x::r=>match ev al x with
  | none=>none
  | some v=>match evs al r with
   | none=>none
   | some vs=>some (v::vs)
structure Fr(n:Nat)(al:AL)(a:Act): Prop where
 size:a.tmps.size=n
 defers:a.defers=[]
 has:∀ t v,lk al t=some v->a.tmps.getD t undef=v
theorem Jkm(d:Nat)(v:Value)(al:AL): lk ((d,v)::al) d=some v:=by simp [lk]
theorem Jjm{d t:Nat}(v:Value)(al:AL)(h:d≠t): lk ((d,v)::al) t=lk al t:=by
 have:Nat.beq d t=false:=by
  cases hb:Nat.beq d t with
  | false=>rfl
  | true=>exact absurd (Nat.eq_of_beq_eq_true hb) h
 simp [lk,this]
section
variable {n:Nat} {al al':AL} {a:Act}
theorem Fr.ev(h:Fr n al a){x:Operand}{v:Value}(hx:ev al x=some v): a.eval x=v:=by
 cases x with
 | tmp t=>exact h.has t v hx
 | const u=>simp only [Wk.ev,Option.some.injEq]at hx;subst hx;rfl
 | global g=>simp only [Wk.ev,Option.some.injEq]at hx;subst hx;rfl
 | func f=>simp only [Wk.ev,Option.some.injEq]at hx;subst hx;rfl
theorem Fr.evs(h:Fr n al a): ∀ {xs:List Operand} {vs:List Value},evs al xs=some vs->xs.map a.eval=vs
 | [],vs,hx=>by simp only [Wk.evs,Option.some.injEq]at hx;subst hx;rfl
 | x::r,vs,hx=>by
  unfold Wk.evs at hx;split at hx
  .cases hx
  .rename_i v hv;split at hx
   .cases hx
   .rename_i us hu;simp only [Option.some.injEq]at hx;subst hx;rw [List.map_cons,h.ev hv,h.evs hu]
theorem Fr.put(h:Fr n al a){d:Nat}(hd:d<n)(v:Value): Fr n ((d,v)::al) (a.put (some d) v):=by
 refine ⟨by simp [Act.put,h.size],h.defers,λt u o=>?_⟩;by_cases e:d=t
 .subst e;rw [Jkm]at o;simp only [Option.some.injEq]at o;subst o;simp [Act.put,Array.getElem?_setIfInBounds_self_of_lt (by rw [h.size];exact hd:d<a.tmps.size)]
 .rw [Jjm _ _ e]at o;have:=h.has t u o;simpa [Act.put,Array.getElem?_setIfInBounds_ne e] using this
def Sub(al' al:AL): Prop:=∀ t v,lk al' t=some v->lk al t=some v
theorem Fr.sub(h:Fr n al a)(hs:Sub al' al): Fr n al' a:=⟨h.size,h.defers,λt v ht=>h.has t v (hs t v ht)⟩
theorem Sub.nil: Sub [] al:=λt v h=>by cases h
theorem Sub.cons{t:Nat}(h1:lk al t=some v)(h:Sub al' al): Sub ((t,v)::al') al:=by
 intro s u o;by_cases e:t=s
 .subst e;rw [Jkm]at o;rw [<-o];exact h1
 .rw [Jjm _ _ e]at o;exact h s u o
theorem Sub.refl: Sub al al:=λ_ _ h=>h
end
def WC(P:Program)(n:Nat)(c:Code)(Q:Exit->Act->World->Prop)(al:AL)(w:World): Prop:=∀ a,Fr n al a->c.wp P Q a w
def WL(P:Program)(n:Nat)(ops:Array Oper)(Q:Exit->Act->World->Prop)(l:List Oper)(al:AL)(w:World): Prop:=∀ a,Fr n al a->wpList P ops Q l a w
def QX(n:Nat)(Q:Exit->Act->World->Prop)(e:Exit)(al:AL)(w:World): Prop:=∀ a,Fr n al a->Q e a w
section
variable {P:Program} {n:Nat} {al al':AL} {w:World} {Q Q':Exit->Act->World->Prop} {ops:Array Oper} {rest:List Oper}
theorem WL.sub{l:List Oper}(hs:Sub al' al)(h:WL P n ops Q l al' w): WL P n ops Q l al w:=λa o=>h a (o.sub hs)
theorem wseq{x y:Code}(h:WC P n x (Exit.then (y.wp P Q) Q) al w): WC P n (.seq x y) Q al w:=λa o=>wp_seq (h a o)
theorem wskip(h:QX n Q .normal al w): WC P n .skip Q al w:=λa o=>wp_skip (h a o)
theorem wexit(h:QX n Q (.exit id) al w): WC P n (.exit id) Q al w:=λa o=>wp_exit (h a o)
theorem wret(h:QX n Q .ret al w): WC P n .ret Q al w:=λa o=>wp_ret (h a o)
theorem Qyc(h:WC P n c (Exit.inBlock id Q) al w): WC P n (.block id c) Q al w:=λa o=>wp_block (h a o)
theorem Qvg(h:WL P n l.toArray Q l al w): WC P n (.region id l.toArray false) Q al w:=λa o=>wp_region_lit (h a o)
theorem Jg(h:QX n Q .normal al w): WL P n ops Q [] al w:=λa o=>h a o
theorem wcond{c:Operand}{x y:Code}(hc:ev al c=some (.bool b))(ht:b=true->WC P n x Q al w)(hf:b=false->WC P n y Q al w):
  WC P n (.cond c x y) Q al w:=λa o=>by
 have u:=o.ev hc;cases b
 .exact wp_cond_false u (hf rfl a o)
 .exact wp_cond_true u (ht rfl a o)
theorem Jms{c:Operand}{x y:Code}(hc:ev al c=some (.bool true))(h:WC P n x Q al w): WC P n (.cond c x y) Q al w:=λa o=>wp_cond_true (o.ev hc) (h a o)
theorem Jmt{c:Operand}{x y:Code}(hc:ev al c=some (.bool false))(h:WC P n y Q al w): WC P n (.cond c x y) Q al w:=λa o=>wp_cond_false (o.ev hc) (h a o)
theorem Qvv{c:Operand}{x y:Code}(hc:ev al c=some (.bool b))(hb:b=true)(h:WC P n x Q al w): WC P n (.cond c x y) Q al w:=by subst hb;exact Jms hc h
theorem Qvt{c:Operand}{x y:Code}(hc:ev al c=some (.bool b))(hb:b=false)(h:WC P n y Q al w): WC P n (.cond c x y) Q al w:=by subst hb;exact Jmt hc h
theorem qnext{y:Code}(h:WC P n y Q' al w): QX n (Exit.then (y.wp P Q') Q) .normal al w:=h
theorem qret{y:Act->World->Prop}(h:QX n Q .ret al w): QX n (Exit.then y Q) .ret al w:=h
theorem qexit{y:Act->World->Prop}(h:QX n Q (.exit id) al w): QX n (Exit.then y Q) (.exit id) al w:=h
theorem Qsh(h:QX n Q .normal al w): QX n (Exit.inBlock id Q) .normal al w:=h
theorem bret(h:QX n Q .ret al w): QX n (Exit.inBlock id Q) .ret al w:=h
theorem bexit(h:QX n Q .normal al w): QX n (Exit.inBlock id Q) (.exit id) al w:=λa o=>by
 simp only [Exit.inBlock,if_true];exact h a o
theorem Qsg(hne:Nat.beq id' id=false)(h:QX n Q (.exit id') al w): QX n (Exit.inBlock id Q) (.exit id') al w:=λa o=>by
 have:id'≠id:=by intro e;subst e;simp at hne
 simp only [Exit.inBlock,this,if_false];exact h a o
theorem Jvf(fr:σ->AL)(I:σ->World->Prop)(μ:σ->Nat)(s₀:σ)(h₀:Sub (fr s₀) al)(hI:I s₀ w)(round:∀ s w,I s w->WC P n c (Exit.then (λa' w'=>∃ s',Fr n (fr s') a'/\I s' w'/\μ s'<μ s) Q) (fr s) w): WC P n (.loop c) Q al w:=by
 intro a C;refine wp_loop_ghost (λk a w=>∃ s,Fr n (fr s) a/\I s w/\μ s=k) (μ s₀) ⟨s₀,C.sub h₀,hI,rfl⟩ ?_;rintro k a w ⟨s,u,hi,rfl⟩;refine wp_mono (round s w hi a u) ?_;intro e a' w' o;cases e with
 | normal=>obtain ⟨s',O,J,G⟩:=o;exact ⟨_,G,s',O,J,rfl⟩
 | exit id=>exact o
 | goto l=>exact o
 | ret=>exact o
 | panic c=>exact o
 | outgrown=>exact o
theorem Qh(fr:α->AL)(I:α->World->Prop)(μ:α->Nat)(x₀:α)(h₀:Sub (fr x₀) al)(hI:I x₀ w)(round:∀ x w,I x w->WC P n c (Exit.then (λa' w'=>∃ x',Fr n (fr x') a'/\I x' w'/\μ x'<μ x) Q) (fr x) w): WC P n (.loop c) Q al w:=by
 refine Jvf (σ:=α) (λs=>fr s) (λs=>I s) (λs=>μ s) (x₀) h₀ hI ?_;intro s w hi a u;refine wp_mono (round s w hi a u) ?_;intro e a' w' o;cases e with
 | normal=>obtain ⟨x',h⟩:=o;exact ⟨(x'),h⟩
 | exit id=>exact o
 | goto l=>exact o
 | ret=>exact o
 | panic c=>exact o
 | outgrown=>exact o
theorem Qv{fr:α->AL}{I:α->World->Prop}{μ:α->Nat}(x':α)(hs:Sub (fr x') al)(hi:I x' w)(hm:μ x'<m):
  QX n (Exit.then (λa' w'=>∃ x',Fr n (fr x') a'/\I x' w'/\μ x'<m) Q) .normal al w:=λa o=>⟨x',o.sub hs,hi,hm⟩
theorem Je(fr:α->β->AL)(I:α->β->World->Prop)(μ:α->β->Nat)(x₀:α)(y₀:β)(h₀:Sub (fr x₀ y₀) al)(hI:I x₀ y₀ w)(round:∀ x y w,I x y w->WC P n c (Exit.then (λa' w'=>∃ x' y',Fr n (fr x' y') a'/\I x' y' w'/\μ x' y'<μ x y) Q) (fr x y) w): WC P n (.loop c) Q al w:=by
 refine Jvf (σ:=α×β) (λs=>fr (s.1) (s.2)) (λs=>I (s.1) (s.2)) (λs=>μ (s.1) (s.2)) (x₀,y₀) h₀ hI ?_;intro s w hi a u;refine wp_mono (round (s.1) (s.2) w hi a u) ?_;intro e a' w' o;cases e with
 | normal=>obtain ⟨x',y',h⟩:=o;exact ⟨(x',y'),h⟩
 | exit id=>exact o
 | goto l=>exact o
 | ret=>exact o
 | panic c=>exact o
 | outgrown=>exact o
theorem Jl{fr:α->β->AL}{I:α->β->World->Prop}{μ:α->β->Nat}(x':α)(y':β)(hs:Sub (fr x' y') al)(hi:I x' y' w)(hm:μ x' y'<m):
  QX n (Exit.then (λa' w'=>∃ x' y',Fr n (fr x' y') a'/\I x' y' w'/\μ x' y'<m) Q) .normal al w:=λa o=>⟨x',y',o.sub hs,hi,hm⟩
theorem Xm(fr:α->β->γ->AL)(I:α->β->γ->World->Prop)(μ:α->β->γ->Nat)(x₀:α)(y₀:β)(z₀:γ)(h₀:Sub (fr x₀ y₀ z₀) al)(hI:I x₀ y₀ z₀ w)(round:∀ x y z w,I x y z w->WC P n c (Exit.then (λa' w'=>∃ x' y' z',Fr n (fr x' y' z') a'/\I x' y' z' w'/\μ x' y' z'<μ x y z) Q) (fr x y z) w): WC P n (.loop c) Q al w:=by
 refine Jvf (σ:=α×β×γ) (λs=>fr (s.1) (s.2.1) (s.2.2)) (λs=>I (s.1) (s.2.1) (s.2.2)) (λs=>μ (s.1) (s.2.1) (s.2.2)) (x₀,y₀,z₀) h₀ hI ?_;intro s w hi a u;refine wp_mono (round (s.1) (s.2.1) (s.2.2) w hi a u) ?_;intro e a' w' o;cases e with
 | normal=>obtain ⟨x',y',z',h⟩:=o;exact ⟨(x',y',z'),h⟩
 | exit id=>exact o
 | goto l=>exact o
 | ret=>exact o
 | panic c=>exact o
 | outgrown=>exact o
theorem Qt{fr:α->β->γ->AL}{I:α->β->γ->World->Prop}{μ:α->β->γ->Nat}(x':α)(y':β)(z':γ)(hs:Sub (fr x' y' z') al)(hi:I x' y' z' w)(hm:μ x' y' z'<m):
  QX n (Exit.then (λa' w'=>∃ x' y' z',Fr n (fr x' y' z') a'/\I x' y' z' w'/\μ x' y' z'<m) Q) .normal al w:=λa o=>⟨x',y',z',o.sub hs,hi,hm⟩
theorem Jqf(fr:α->β->γ->δ->AL)(I:α->β->γ->δ->World->Prop)(μ:α->β->γ->δ->Nat)(x₀:α)(y₀:β)(z₀:γ)(u₀:δ)(h₀:Sub (fr x₀ y₀ z₀ u₀) al)(hI:I x₀ y₀ z₀ u₀ w)(round:∀ x y z u w,I x y z u w->WC P n c (Exit.then (λa' w'=>∃ x' y' z' u',Fr n (fr x' y' z' u') a'/\I x' y' z' u' w'/\μ x' y' z' u'<μ x y z u) Q) (fr x y z u) w): WC P n (.loop c) Q al w:=by
 refine Jvf (σ:=α×β×γ×δ) (λs=>fr (s.1) (s.2.1) (s.2.2.1) (s.2.2.2)) (λs=>I (s.1) (s.2.1) (s.2.2.1) (s.2.2.2)) (λs=>μ (s.1) (s.2.1) (s.2.2.1) (s.2.2.2)) (x₀,y₀,z₀,u₀) h₀ hI ?_;intro s w hi a C;refine wp_mono (round (s.1) (s.2.1) (s.2.2.1) (s.2.2.2) w hi a C) ?_;intro e a' w' o;cases e with
 | normal=>obtain ⟨x',y',z',u',h⟩:=o;exact ⟨(x',y',z',u'),h⟩
 | exit id=>exact o
 | goto l=>exact o
 | ret=>exact o
 | panic c=>exact o
 | outgrown=>exact o
theorem Gg{fr:α->β->γ->δ->AL}{I:α->β->γ->δ->World->Prop}{μ:α->β->γ->δ->Nat}(x':α)(y':β)(z':γ)(u':δ)(hs:Sub (fr x' y' z' u') al)(hi:I x' y' z' u' w)(hm:μ x' y' z' u'<m):
  QX n (Exit.then (λa' w'=>∃ x' y' z' u',Fr n (fr x' y' z' u') a'/\I x' y' z' u' w'/\μ x' y' z' u'<m) Q) .normal al w:=λa o=>⟨x',y',z',u',o.sub hs,hi,hm⟩
theorem Qvl{x y:Code}(fr:AL)(I:World->Prop)(h1:WC P n x (Exit.then (λa w=>Fr n fr a/\I w) Q) al w)(h2:∀ w,I w->WC P n y Q' fr w): WC P n x (Exit.then (y.wp P Q') Q) al w:=by
 intro a u;refine wp_mono (h1 a u) ?_;intro e C w' o;cases e with
 | normal=>exact h2 w' o.2 C o.1
 | exit id=>exact o
 | goto l=>exact o
 | ret=>exact o
 | panic c=>exact o
 | outgrown=>exact o
theorem Jsc{fr:AL}{I:World->Prop}(hs:Sub fr al)(hi:I w): QX n (Exit.then (λa w=>Fr n fr a/\I w) Q) .normal al w:=λa o=>⟨o.sub hs,hi⟩
theorem Xt(fr:α->AL)(I:α->World->Prop)(h1:WC P n c (Exit.then (λa w=>∃ x,Fr n (fr x) a/\I x w) Q) al w)(h2:∀ x w,I x w->WC P n d Q' (fr x) w): WC P n c (Exit.then (d.wp P Q') Q) al w:=by
 intro a u;refine wp_mono (h1 a u) ?_;intro e J w' o;cases e with
 | normal=>obtain ⟨x,G,C⟩:=o;exact h2 x w' C J G
 | exit id=>exact o
 | goto l=>exact o
 | ret=>exact o
 | panic c=>exact o
 | outgrown=>exact o
theorem Jf{fr:α->AL}{I:α->World->Prop}(x:α)(hs:Sub (fr x) al)(hi:I x w): QX n (Exit.then (λa w=>∃ x,Fr n (fr x) a/\I x w) Q) .normal al w:=λa o=>⟨x,o.sub hs,hi⟩
theorem Ib(fr:α->β->AL)(I:α->β->World->Prop)(h1:WC P n c (Exit.then (λa w=>∃ x y,Fr n (fr x y) a/\I x y w) Q) al w)(h2:∀ x y w,I x y w->WC P n d Q' (fr x y) w): WC P n c (Exit.then (d.wp P Q') Q) al w:=by
 intro a u;refine wp_mono (h1 a u) ?_;intro e J w' o;cases e with
 | normal=>obtain ⟨x,y,G,C⟩:=o;exact h2 x y w' C J G
 | exit id=>exact o
 | goto l=>exact o
 | ret=>exact o
 | panic c=>exact o
 | outgrown=>exact o
theorem Zt{fr:α->β->AL}{I:α->β->World->Prop}(x:α)(y:β)(hs:Sub (fr x y) al)(hi:I x y w): QX n (Exit.then (λa w=>∃ x y,Fr n (fr x y) a/\I x y w) Q) .normal al w:=λa o=>⟨x,y,o.sub hs,hi⟩
theorem Jmp(fr:α->β->γ->AL)(I:α->β->γ->World->Prop)(h1:WC P n c (Exit.then (λa w=>∃ x y z,Fr n (fr x y z) a/\I x y z w) Q) al w)(h2:∀ x y z w,I x y z w->WC P n d Q' (fr x y z) w): WC P n c (Exit.then (d.wp P Q') Q) al w:=by
 intro a u;refine wp_mono (h1 a u) ?_;intro e J w' o;cases e with
 | normal=>obtain ⟨x,y,z,G,C⟩:=o;exact h2 x y z w' C J G
 | exit id=>exact o
 | goto l=>exact o
 | ret=>exact o
 | panic c=>exact o
 | outgrown=>exact o
theorem Jvv{fr:α->β->γ->AL}{I:α->β->γ->World->Prop}(x:α)(y:β)(z:γ)(hs:Sub (fr x y z) al)(hi:I x y z w): QX n (Exit.then (λa w=>∃ x y z,Fr n (fr x y z) a/\I x y z w) Q) .normal al w:=λa o=>⟨x,y,z,o.sub hs,hi⟩
end
section
variable {P:Program} {n:Nat} {al:AL} {w:World}
def al0: Nat->List Value->AL
 | _,[]=>[]
 | i,v::r=>(i,v)::al0 (i+1) r
theorem Jtz: ∀ (l:List Value) (i t:Nat) (v:Value),lk (al0 i l) t=some v->i<=t/\l[t-i]?=some v
 | [],_,_,_,h=>by cases h
 | u::r,i,t,v,h=>by
  by_cases e:i=t
  .subst e;simp only [al0]at h;rw [Jkm]at h;simpa using h
  .simp only [al0]at h;rw [Jjm _ _ e]at h;obtain ⟨h1,h2⟩:=Jtz r (i+1) t v h;refine ⟨om,?_⟩;obtain ⟨k,hk⟩:∃ k,t-i=k+1:=⟨t-i-1,om⟩;rw [hk,List.getElem?_cons_succ,<-h2];congr 1
   omega
theorem enter{f:FuncId}{args:List Value}(hf:P.funcs[f]?=some fn)(hb:fn.body=some c)(hn:fn.ntmps=n)(hle:Nat.ble args.length n=true)(h:WC P n c (bodyPost P fn R) (al0 0 args) w): Calls P f args.toArray w R:=by
 have C:args.length<=n:=by simpa using hle
 refine calls_of_wp hf hb (h _ ⟨?_,rfl,λt v ht=>?_⟩)
 .simp [hn];omega
 .obtain ⟨_,u⟩:=Jtz args 0 t v ht;simp only [Nat.sub_zero]at u;have o:t<args.length:=(List.getElem?_eq_some_iff.1 u).1;simp [Array.getElem?_append,o];exact (List.getElem?_eq_some_iff.1 u).2
theorem Qff{t:Nat}(hr:fn.results = #[.tmp t])(ht:lk al t=some v)(h:R (.returned v) w): QX n (bodyPost P fn R) .ret al w:=λa o=>
 bodyPost_ret (v:=v) (by rw [results_tmp hr,o.has t v ht]) o.defers h
theorem Qfd{t:Nat}{x y:Value}(hr:fn.results = #[.tmp t,.tmp u])(ht:lk al t=some x)(hu:lk al u=some y)(h:R (.returned (.tuple #[x,y])) w): QX n (bodyPost P fn R) .ret al w:=λa o=>
 bodyPost_ret (v:=.tuple #[x,y]) (by rw [results_tmp2 hr,o.has t x ht,o.has u y hu]) o.defers h
theorem Qfc{t:Nat}{x y z:Value}(hr:fn.results = #[.tmp t,.tmp u,.tmp s])(ht:lk al t=some x)(hu:lk al u=some y)(hs:lk al s=some z)(h:R (.returned (.tuple #[x,y,z])) w): QX n (bodyPost P fn R) .ret al w:=λa o=>
 bodyPost_ret (v:=.tuple #[x,y,z]) (by simp [results,hr];exact ⟨by simpa using o.has t x ht,by simpa using o.has u y hu,by simpa using o.has s z hs⟩) o.defers h
theorem Qfb{t r:Nat}{x y z q:Value}(hr:fn.results = #[.tmp t,.tmp u,.tmp s,.tmp r])(ht:lk al t=some x)(hu:lk al u=some y)(hs:lk al s=some z)(hq:lk al r=some q)(h:R (.returned (.tuple #[x,y,z,q])) w): QX n (bodyPost P fn R) .ret al w:=λa o=>
 bodyPost_ret (v:=.tuple #[x,y,z,q]) (by simp [results,hr];exact ⟨by simpa using o.has t x ht,by simpa using o.has u y hu,by simpa using o.has s z hs,by simpa using o.has r q hq⟩) o.defers h
end
structure TK where
 desc: TypeDesc
 size:Nat:=1
 esz:Nat:=0
 offs:List Nat:=[]
 zero:List Value:=[]
abbrev TT:= List (Nat×TK)
def tk: TT->Nat->Option TK
 | [],_=>none
 | (k,v)::r,t=>match Nat.beq k t with
  | true=>some v
  | false=>tk r t
def Zh(P:Program)(t:TypeId): Option Nat:=(P.info? t).map (·.size)
def Qp(P:Program)(t:TypeId): Option Value:=(P.info? t).bind (·.zero)
def Jxx(P:Program): List Field->List Nat->Bool
 | [],[]=>true
 | f::r,o::s=>Nat.beq f.offset o && (match Zh P f.type with|some z=>Nat.blt 0 z|none=>false) && Jxx P r s
 | _,_=>false
def Yh(P:Program)(t:Nat)(k:TK): Prop :=
 match k.desc with
 | .invalid=>∃ fs,P.underlying t=some (.struct fs)/\Jxx P fs.toList k.offs=true/\Zh P t=some k.size
 | .slice e=>P.underlying t=some (.slice e)/\Zh P e=some k.esz/\Zh P t=some k.size
 | .array m e=>P.underlying t=some (.array m e)/\Zh P e=some k.esz/\Zh P t=some k.size
 | d=>P.underlying t=some d/\Zh P t=some k.size
def TOk(P:Program): TT->Prop
 | []=>True
 | p::r=>Yh P p.1 p.2/\TOk P r
theorem TOk.at{P:Program}: ∀ {tt:TT} (_:TOk P tt) {t:Nat} {k:TK},tk tt t=some k->Yh P t k
 | (p1,p2)::r,h,t,k,hk=>by
  unfold tk at hk;split at hk
  .rename_i hb;have e:p1=t:=Nat.eq_of_beq_eq_true hb;simp only [Option.some.injEq]at hk;subst hk;subst e;exact h.1
  .exact TOk.at h.2 hk
def bop(op:BinOp)(u v:Value): Option Value :=
 match u,v with
 | .int k a,.int k' b=>
  if k=k' then
   match op with
   | .add=>some (.int k (k.wrap (a+b)))
   | .sub=>some (.int k (k.wrap (a-b)))
   | .mul=>some (.int k (k.wrap (a*b)))
   | .and=>some (.int k (bits .and k a b))
   | .or=>some (.int k (bits .or k a b))
   | .xor=>some (.int k (bits .xor k a b))
   | .andNot=>some (.int k (bits .andNot k a b))
   | .eql=>some (.bool (a == b))
   | .neq=>some (.bool (a != b))
   | .lss=>some (.bool (decide (a<b)))
   | .leq=>some (.bool (decide (a<=b)))
   | .gtr=>some (.bool (decide (b<a)))
   | .geq=>some (.bool (decide (b<=a)))
   | _=>none
  else none
 | .string s,.string t=>
  match op with
  | .eql=>some (.bool (s.toList == t.toList))
  | .neq=>some (.bool (!(s.toList == t.toList)))
  | .lss=>some (.bool (Op.bytesLess s.toList t.toList))
  | .leq=>some (.bool (Op.bytesLess s.toList t.toList || s.toList == t.toList))
  | .gtr=>some (.bool (!(Op.bytesLess s.toList t.toList || s.toList == t.toList)))
  | .geq=>some (.bool (!(Op.bytesLess s.toList t.toList)))
  | _=>none
 | _,_=>none
def uop(op:UnOp)(u:Value): Option Value :=
 match op,u with
 | .not,.bool b=>some (.bool (!b))
 | .neg,.int k a=>some (.int k (k.wrap (0-a)))
 | .xor,.int k a=>some (.int k (bits .xor k (if k.signed then -1 else k.max) a))
 | _,_=>none
def nth{α:Type}: List α->Nat->Option α
 | [],_=>none
 | x::_,0=>some x
 | _::r,n+1=>nth r n
theorem Xz{α:Type}: ∀ (l:List α) (i:Nat),nth l i=l[i]?
 | [],_=>by simp [nth]
 | x::r,0=>by simp [nth]
 | x::r,n+1=>by simp [nth,Xz r n]
def pv(tt:TT)(e:Operand->Option Value)(op:Op): Option Value :=
 match op with
 | .move x=>e x
 | .assign x=>e x
 | .pick c a b=>match e c with
  | some (.bool true)=>e a
  | some (.bool false)=>e b
  | _=>none
 | .binOp op _ x y _=>match e x with
  | some u=>match e y with
   | some v=>bop op u v
   | none=>none
  | none=>none
 | .unOp op _ x=>match e x with
  | some u=>uop op u
  | none=>none
 | .convert src dst x=>match (tk tt src).map TK.desc with
  | some (.int _)=>match (tk tt dst).map TK.desc with
   | some (.int k)=>match e x with
    | some (.int _ m)=>some (.int k (k.wrap m))
    | _=>none
   | _=>none
  | _=>none
 | .extract t i=>match e t with
  | some (.tuple vs)=>nth vs.toList i
  | _=>none
 | .fieldAddr s x f=>match tk tt s with
  | some ⟨.invalid,_,_,offs,_⟩=>match nth offs f with
   | some o=>match e x with
    | some (.pointer (some a))=>some (.pointer (some (a.add o)))
    | _=>none
   | none=>none
  | _=>none
 | .nilCheck x=>match e x with
  | some (.pointer (some a))=>some (.pointer (some a))
  | _=>none
 | .call c=>match c.callee with
  | .builtin .len=>match c.args.toList with
   | [x]=>match c.argTypes.toList with
    | [t]=>match (tk tt t).map TK.desc with
     | some (.slice _)=>match e x with
      | some (.slice _ n _)=>some (.int .i64 (n:Int))
      | _=>none
     | some .string=>match e x with
      | some (.string s)=>some (.int .i64 (s.size:Int))
      | _=>none
     | _=>none
    | _=>none
   | _=>none
  | .builtin .min=>match c.args.toList with
   | [x,y]=>match e x with
    | some (.int k a)=>match e y with
     | some (.int k' b)=>if k=k' then some (.int k (if b<a then b else a)) else none
     | _=>none
    | _=>none
   | _=>none
  | .builtin .max=>match c.args.toList with
   | [x,y]=>match e x with
    | some (.int k a)=>match e y with
     | some (.int k' b)=>if k=k' then some (.int k (if a<b then b else a)) else none
     | _=>none
    | _=>none
   | _=>none
  | _=>none
 | .makeFunc fn first captured=>match evl e first.toList with
  | some us=>match evl e captured.toList with
   | some vs=>some (.func fn us.toArray vs.toArray)
   | none=>none
  | none=>none
 | _=>none
where
 evl (e:Operand->Option Value):List Operand->Option (List Value)
  | []=>some []
  | x::r=>match e x with
   | none=>none
   | some v=>match evl e r with
    | none=>none
    | some vs=>some (v::vs)
theorem Jhb{e:Operand->Option Value}{ρ:Operand->Value}(he:∀ x v,e x=some v->ρ x=v): ∀ {xs:List Operand} {vs:List Value},pv.evl e xs=some vs->xs.map ρ=vs
 | [],vs,hx=>by simp only [pv.evl,Option.some.injEq]at hx;subst hx;rfl
 | x::r,vs,hx=>by
  unfold pv.evl at hx;split at hx
  .cases hx
  .rename_i v hv;split at hx
   .cases hx
   .rename_i us hu;simp only [Option.some.injEq]at hx;subst hx;rw [List.map_cons,he x v hv,Jhb he hu]
section
variable {P:Program} (w:World)
theorem Qcr{op:BinOp}{u:Value}(h:bop op u v=some r):
  (do eqGuard op t x y u v;binOp op t u v:Sem Value).run P w=.ok r w:=by
 unfold bop at h;split at h
 .rename_i k a k' b;split at h
  .rename_i hk;subst hk;have o:(eqGuard op t x y (.int k a) (.int k b)).run P w=.ok () w:=by unfold eqGuard;split<;>rfl
   rw [Sem.run_bind,o,Result.andThen_ok];cases op<;>simp only [Option.some.injEq,reduceCtorEq]at h<;>subst h<;>simp [binOp,Op.intArith,Op.intBits,Op.intCmp,bits]
  .cases h
 .rename_i s z;have o:(eqGuard op t x y (.string s) (.string z)).run P w=.ok () w:=by unfold eqGuard;split<;>rfl
  rw [Sem.run_bind,o,Result.andThen_ok];cases op<;>simp only [Option.some.injEq,reduceCtorEq]at h<;>subst h<;>simp [binOp,Op.stringOp]
 .cases h
theorem Qcm{op:UnOp}{u:Value}(h:uop op u=some r): (Op.unary op u).run P w=.ok r w:=by
 unfold uop at h;split at h<;>simp only [Option.some.injEq,reduceCtorEq]at h<;>subst h<;>simp [Op.unary,Op.intArith,Op.intBits,bits]
theorem Qqs: ∀ {fs:List Field} {offs:List Nat} {i o:Nat},Jxx P fs offs=true->nth offs i=some o->∃ f z,fs[i]?=some f/\f.offset=o/\Zh P f.type=some z/\0<z
 | [],[],_,_,_,h=>by cases h
 | [],_::_,_,_,h,_=>by cases h
 | _::_,[],_,_,h,_=>by cases h
 | f::r,p::s,0,o,h,hn=>by
  simp only [nth,Option.some.injEq]at hn;subst hn;simp only [Jxx,Bool.and_eq_true]at h;obtain ⟨⟨h1,h2⟩,_⟩:=h;cases hz:Zh P f.type with
  | none=>rw [hz]at h2;cases h2
  | some z=>rw [hz]at h2;exact ⟨f,z,rfl,Nat.eq_of_beq_eq_true h1,hz,by (have:1<=z:=by simpa [Nat.blt] using h2);(omega)⟩
 | f::r,p::s,i+1,o,h,hn=>by
  simp only [nth]at hn;simp only [Jxx,Bool.and_eq_true]at h;obtain ⟨f',z,h1,h2⟩:=Qqs (i:=i) h.2 hn;exact ⟨f',z,by simpa using h1,h2⟩
theorem Vw{z:Nat}(h:Zh P t=some z): (sizeOf t).run P w=.ok z w:=by
 unfold Zh at h;cases hi:P.info? t with
 | none=>simp [hi]at h
 | some i=>simp [hi]at h;simp [sizeOf,typeInfo,hi,h]
theorem Gh{tt:TT}(hT:TOk P tt){o:Oper}{ρ:Operand->Value}{e:Operand->Option Value}(he:∀ x v,e x=some v->ρ x=v)(h:pv tt e o.op=some v):
  (execOp ρ o).run P w=.ok (.value v) w:=by
 unfold execOp;generalize ho:o.op=op at h
 cases op with
 | move x=>simp only [pv]at h;simp [he x v h]
 | assign x=>simp only [pv]at h;simp [he x v h]
 | pick c a b=>
  simp only [pv]at h;split at h
  .rename_i hc;simp [he c _ hc,asBool,he a v h]
  .rename_i hc;simp [he c _ hc,asBool,he b v h]
  .cases h
 | binOp op t x y ty=>
  simp only [pv]at h;split at h
  .rename_i u O;split at h
   .rename_i r G;have:=Qcr (P:=P) w (t:=t) (x:=x) (y:=y) h;simp only [Sem.run_bind,he x u O,he y r G]at this ⊢;rw [this];rfl
   .cases h
  .cases h
 | unOp op t x=>
  simp only [pv]at h;split at h
  .rename_i u O;simp only [Sem.run_bind,he x u O,Qcm w h,Result.andThen_ok];rfl
  .cases h
 | convert src dst x=>
  simp only [pv]at h;split at h
  .rename_i k0 hs;split at h
   .rename_i k hd;split at h
    .rename_i k2 m hx;simp only [Option.some.injEq]at h;subst h;have J:P.underlying src=some (.int k0):=by
      obtain ⟨r,G,C⟩:=Option.map_eq_some_iff.1 hs;have:=hT.at G;unfold Yh at this;rw [C]at this;exact this.1
     have h2:P.underlying dst=some (.int k):=by
      obtain ⟨r,G,C⟩:=Option.map_eq_some_iff.1 hd;have:=hT.at G;unfold Yh at this;rw [C]at this;exact this.1
     simp [he x _ hx,convert,run_underlying J,run_underlying h2,Conv.intToInt]
    .cases h
   .cases h
  .cases h
 | extract t i=>
  simp only [pv]at h;split at h
  .rename_i vs hv;rw [Xz]at h;have h':vs[i]?=some v:=by rw [<-h];simp
   simp [he t _ hv,Instr.extract,h']
  .cases h
 | fieldAddr s x f=>
  simp only [pv]at h;split at h
  .rename_i q1 q2 offs q3 hs;split at h
   .rename_i o' hn;split at h
    .rename_i a hx;simp only [Option.some.injEq]at h;subst h;obtain ⟨fs,O,hf,_⟩:∃ fs,P.underlying s=some (.struct fs)/\Jxx P fs.toList offs=true/\Zh P s=some q1:=hT.at hs;obtain ⟨fl,z,J,h2,h3,h4⟩:=Qqs (P:=P) hf hn;have U:fs[f]?=some fl:=by rw [<-J];simp
     have hz:¬ z=0:=om
     simp [he x _ hx,Instr.fieldAt,run_underlying O,U,Instr.sureAddr,fieldPlace,Vw w h3,hz,h2]
    .cases h
   .cases h
  .cases h
 | nilCheck x=>
  simp only [pv]at h;split at h
  .rename_i a hx;simp only [Option.some.injEq]at h;subst h;simp [he x _ hx]
  .cases h
 | call c=>
  simp only [pv]at h;split at h
  .rename_i hcal;split at h
   .rename_i x hargs;split at h
    .rename_i t hty;have Z:c.args = #[x]:=by rw [<-Array.toList_inj];exact hargs
     have hb:c.argTypes = #[t]:=by rw [<-Array.toList_inj];exact hty
     split at h
     .rename_i e' hk;split at h
      .rename_i A m c' hx;simp only [Option.some.injEq]at h;subst h;have J:P.underlying t=some (.slice e'):=by
        obtain ⟨r,G,C⟩:=Option.map_eq_some_iff.1 hk;have:=hT.at G;unfold Yh at this;rw [C]at this;exact this.1
       simp [resolve,hcal,Z,hb,invoke,builtin,Builtin.len_,run_underlying J,he x _ hx,goInt]
      .cases h
     .rename_i hk;split at h
      .rename_i s hx;simp only [Option.some.injEq]at h;subst h;have J:P.underlying t=some .string:=by
        obtain ⟨r,G,C⟩:=Option.map_eq_some_iff.1 hk;have:=hT.at G;unfold Yh at this;rw [C]at this;exact this.1
       simp [resolve,hcal,Z,hb,invoke,builtin,Builtin.len_,run_underlying J,he x _ hx,goInt]
      .cases h
     .cases h
    .cases h
   .cases h
  .rename_i hcal;split at h
   .rename_i x y hargs;have Z:c.args = #[x,y]:=by rw [<-Array.toList_inj];exact hargs
    split at h
    .rename_i k a hx;split at h
     .rename_i k' b hy;split at h
      .simp only [Option.some.injEq]at h;subst h;simp [resolve,hcal,Z,invoke,builtin,Builtin.min_,Builtin.min2,he x _ hx,he y _ hy]
      .cases h
     .cases h
    .cases h
   .cases h
  .rename_i hcal;split at h
   .rename_i x y hargs;have Z:c.args = #[x,y]:=by rw [<-Array.toList_inj];exact hargs
    split at h
    .rename_i k a hx;split at h
     .rename_i k' b hy;split at h
      .simp only [Option.some.injEq]at h;subst h;simp [resolve,hcal,Z,invoke,builtin,Builtin.max_,Builtin.max2,he x _ hx,he y _ hy]
      .cases h
     .cases h
    .cases h
   .cases h
  .cases h
 | makeFunc fn first captured=>
  simp only [pv]at h;split at h
  .rename_i us O;split at h
   .rename_i vs hv;simp only [Option.some.injEq]at h;subst h;have J:=Jhb he O;have h2:=Jhb he hv;have U:first.map ρ=us.toArray:=by rw [<-J,<-List.map_toArray,Array.toArray_toList]
    have a1:captured.map ρ=vs.toArray:=by rw [<-h2,<-List.map_toArray,Array.toArray_toList]
    simp [U,a1,Instr.makeFunc]
   .cases h
  .cases h
 | _=>simp [pv]at h
end
section
variable {P:Program} {n:Nat} {al:AL} {w:World} {Q:Exit->Act->World->Prop} {ops:Array Oper} {rest:List Oper}
variable {d ty:Nat} {op:Op} {pos:String} {aft:Array Edge}
theorem wop(hd:Nat.blt d n=true)(h:∀ a,Fr n al a->(execOp a.eval ⟨some d,op,ty,pos,aft,none⟩).run P w=.ok (.value v) w')(k:WL P n ops Q rest ((d,v)::al) w'): WL P n ops Q (⟨some d,op,ty,pos,aft,none⟩::rest) al w:=λa u=>
 wpList_plain rfl λK C=>by
  have o:d<n:=by (have:d+1<=n:=by simpa [Nat.blt] using hd);(omega)
  unfold Oper.wp;rw [h a u,Oper.upon_value];exact C _ _ (k _ (u.put o v))
theorem Iy(h:∀ a,Fr n al a->(execOp a.eval ⟨none,op,ty,pos,aft,none⟩).run P w=.ok .skip w')(k:WL P n ops Q rest al w'): WL P n ops Q (⟨none,op,ty,pos,aft,none⟩::rest) al w:=λa o=>
 wpList_plain rfl λK u=>by
  unfold Oper.wp;rw [h a o,Oper.upon_skip];exact u _ _ (k _ o)
theorem wp{tt:TT}(hT:TOk P tt)(hv:pv tt (ev al) op=some v)(hd:Nat.blt d n=true)(k:WL P n ops Q rest ((d,v)::al) w):
  WL P n ops Q (⟨some d,op,ty,pos,aft,none⟩::rest) al w :=
 wop hd (λa C=>Gh w hT (λx u o=>C.ev o) hv) k
theorem wpn{tt:TT}(hT:TOk P tt)(hv:pv tt (ev al) op=some v)(k:WL P n ops Q rest al w):
  WL P n ops Q (⟨none,op,ty,pos,aft,none⟩::rest) al w:=λa o=>
 wpList_plain rfl λK G=>by
  unfold Oper.wp;rw [Gh w hT (λx u C=>o.ev C) hv,Oper.upon_value];exact G _ _ (k _ o)
theorem wpe{tt:TT}(hT:TOk P tt)(hv:pv tt (ev al) op=some v)(hd:Nat.blt d n=true)(e:v=v')(k:WL P n ops Q rest ((d,v')::al) w):
  WL P n ops Q (⟨some d,op,ty,pos,aft,none⟩::rest) al w:=by subst e;exact wp hT hv hd k
theorem wadd{b:Int}(hx:ev al x=some (.int .i64 a))(hy:ev al y=some (.int .i64 b))(hc:-9223372036854775808<=a+b/\a+b<=9223372036854775807)(hd:Nat.blt d n=true)(k:WL P n ops Q rest ((d,.int .i64 (a+b))::al) w): WL P n ops Q (⟨some d,.binOp .add t x y yt,ty,pos,aft,none⟩::rest) al w :=
 wpe (tt:=[]) trivial (v:=.int .i64 (IntKind.i64.wrap (a+b))) (by simp only [pv,hx,hy,bop,if_true]) hd (by rw [IntKind.wrap_i64];congr 1;omega) k
theorem wsub{b:Int}(hx:ev al x=some (.int .i64 a))(hy:ev al y=some (.int .i64 b))(hc:-9223372036854775808<=a-b/\a-b<=9223372036854775807)(hd:Nat.blt d n=true)(k:WL P n ops Q rest ((d,.int .i64 (a-b))::al) w): WL P n ops Q (⟨some d,.binOp .sub t x y yt,ty,pos,aft,none⟩::rest) al w :=
 wpe (tt:=[]) trivial (v:=.int .i64 (IntKind.i64.wrap (a-b))) (by simp only [pv,hx,hy,bop,if_true]) hd (by rw [IntKind.wrap_i64];congr 1;omega) k
theorem wmul{b:Int}(hx:ev al x=some (.int .i64 a))(hy:ev al y=some (.int .i64 b))(hc:-9223372036854775808<=a*b/\a*b<=9223372036854775807)(hd:Nat.blt d n=true)(k:WL P n ops Q rest ((d,.int .i64 (a*b))::al) w): WL P n ops Q (⟨some d,.binOp .mul t x y yt,ty,pos,aft,none⟩::rest) al w :=
 wpe (tt:=[]) trivial (v:=.int .i64 (IntKind.i64.wrap (a*b))) (by simp only [pv,hx,hy,bop,if_true]) hd (by rw [IntKind.wrap_i64];congr 1;omega) k
theorem wshl{b:Int}(hx:ev al x=some (.int k1 a))(hy:ev al y=some (.int k2 b))(h0:0<=b)(hd:Nat.blt d n=true)(k:WL P n ops Q rest ((d,.int k1 (k1.wrap (a*2^(min b.toNat k1.bits))))::al) w): WL P n ops Q (⟨some d,.binOp .shl t x y yt,ty,pos,aft,none⟩::rest) al w :=
 wop hd (λe o=>by
  have u:¬ b<0:=om
  simp [execOp,o.ev hx,o.ev hy,eqGuard,binOp,Op.shift,u]) k
theorem Yd{b:Int}(hx:ev al x=some (.int k1 a))(hy:ev al y=some (.int k2 b))(h0:0<=b)(hd:Nat.blt d n=true)(k:WL P n ops Q rest ((d,.int k1 (a.fdiv (2^(min b.toNat k1.bits))))::al) w): WL P n ops Q (⟨some d,.binOp .shr t x y yt,ty,pos,aft,none⟩::rest) al w :=
 wop hd (λe o=>by
  have u:¬ b<0:=om
  simp [execOp,o.ev hx,o.ev hy,eqGuard,binOp,Op.shift,u]) k
theorem wquo{b:Int}(hx:ev al x=some (.int k1 a))(hy:ev al y=some (.int k1 b))(h0:b≠0)(hd:Nat.blt d n=true)(k:WL P n ops Q rest ((d,.int k1 (k1.wrap (a.tdiv b)))::al) w): WL P n ops Q (⟨some d,.binOp .quo t x y yt,ty,pos,aft,none⟩::rest) al w :=
 wop hd (λe o=>by simp [execOp,o.ev hx,o.ev hy,eqGuard,binOp,Op.intDiv,h0]) k
theorem wrem{b:Int}(hx:ev al x=some (.int k1 a))(hy:ev al y=some (.int k1 b))(h0:b≠0)(hd:Nat.blt d n=true)(k:WL P n ops Q rest ((d,.int k1 (a.tmod b))::al) w): WL P n ops Q (⟨some d,.binOp .rem t x y yt,ty,pos,aft,none⟩::rest) al w :=
 wop hd (λe o=>by simp [execOp,o.ev hx,o.ev hy,eqGuard,binOp,Op.intDiv,h0]) k
def Zn(ops:Array Oper)(j:Nat): Option Nat:=match nth ops.toList j with
 | some o=>o.dst
 | none=>none
theorem Jjz{a:Act}(ha:Fr n al a)(hj:Zn ops j=some s)(hs:lk al s=some (.bool b)): yielded ops a.tmps j=some b:=by
 unfold Zn at hj;rw [Xz]at hj;split at hj
 .rename_i o ho;have C:ops[j]?=some o:=by rw [<-ho];simp
  have:=ha.has s _ hs;simp only [Array.getD_eq_getD_getElem?]at this;cases hq:a.tmps[s]? with
  | none=>rw [hq]at this;cases this
  | some u=>
   rw [hq]at this;simp only [Option.getD_some]at this;subst this;simp [yielded,C,hj,hq]
 .cases hj
theorem Qvq{dst:Option Nat}(hj:Zn ops j=some s)(hs:lk al s=some (.bool b))(k:WL P n ops Q (⟨dst,op,ty,pos,aft,none⟩::rest) al w):
  WL P n ops Q (⟨dst,op,ty,pos,aft,some (j,b)⟩::rest) al w:=λa o=>by
 have h:=k a o;have u:=Jjz (ops:=ops) o hj hs;unfold wpList at h ⊢;have G:Region.wanted (⟨dst,op,ty,pos,aft,none⟩:Oper) (yielded ops a.tmps)=true:=rfl;have C:Region.wanted (⟨dst,op,ty,pos,aft,some (j,b)⟩:Oper) (yielded ops a.tmps)=true:=by simp [Region.wanted,u]
 rw [if_pos G]at h;rw [if_pos C];exact h
theorem wpass{c:Bool}(hj:Zn ops j=some s)(hs:lk al s=some (.bool b))(hne:(b == c)=false)(hd:Nat.blt d n=true)(k:WL P n ops Q rest ((d,undef)::al) w):
  WL P n ops Q (⟨some d,op,ty,pos,aft,some (j,c)⟩::rest) al w:=λa u=>by
 have o:d<n:=by (have:d+1<=n:=by simpa [Nat.blt] using hd);(omega)
 have C:=Jjz (ops:=ops) u hj hs;unfold wpList;have G:¬ Region.wanted (⟨some d,op,ty,pos,aft,some (j,c)⟩:Oper) (yielded ops a.tmps)=true:=by
  simp [Region.wanted,C];simpa using hne
 rw [if_neg G];exact k _ (u.put o undef)
theorem wpart(s:Nat)(hs:lk al s=some (.bool b))(ht:b=true->WL P n ops Q l ((s,.bool true)::al) w)(hf:b=false->WL P n ops Q l ((s,.bool false)::al) w): WL P n ops Q l al w:=by
 cases b
 .exact (hf rfl).sub (Sub.cons hs Sub.refl)
 .exact (ht rfl).sub (Sub.cons hs Sub.refl)
theorem wknow(s:Nat)(u:Value)(hs:lk al s=some v)(hv:v=u)(k:WL P n ops Q l ((s,u)::al) w): WL P n ops Q l al w:=by
 subst hv;exact k.sub (Sub.cons hs Sub.refl)
theorem wkt(s:Nat)(hs:lk al s=some (.bool b))(hb:b=true)(k:WL P n ops Q l ((s,.bool true)::al) w): WL P n ops Q l al w:=by
 subst hb;exact k.sub (Sub.cons hs Sub.refl)
theorem wkf(s:Nat)(hs:lk al s=some (.bool b))(hb:b=false)(k:WL P n ops Q l ((s,.bool false)::al) w): WL P n ops Q l al w:=by
 subst hb;exact k.sub (Sub.cons hs Sub.refl)
end
theorem Qkh{b:Int}(h:a=b): (a == b)=true:=beq_iff_eq.2 h
theorem Jzl{b:Int}(h:a≠b): (a == b)=false:=beq_eq_false_iff_ne.2 h
theorem Xd{b:Int}(h:(a == b)=true): a=b:=beq_iff_eq.1 h
theorem Xf{b:Int}(h:(a == b)=false): a≠b:=beq_eq_false_iff_ne.1 h
theorem Qzw{b:Int}(h:a=b): (a != b)=false:=by subst h;simp
theorem Gn{b:Int}(h:(a != b)=true): a≠b:=bne_iff_ne.1 h
theorem Gr{b:Int}(h:(a != b)=false): a=b:=by simpa using h
theorem Ga(h:-9223372036854775808<=z/\z<=9223372036854775807): IntKind.i64.wrap z=z:=by rw [IntKind.wrap_i64];omega
theorem Ut(h:0<=z/\z<=18446744073709551615): IntKind.u64.wrap z=z:=by rw [IntKind.wrap_u64];omega
end Go.Wk
namespace Go.Wk
open Go.RowKit
variable {p:Addr}{parts:Array (Nat×Operand)}{ats:Array TypeId}{fn:Func}{f:FuncId}{kd:IntKind}{l:List UInt8}{args cs news vs xs:List Value}{base bytes c c' e g m m' n q t:Nat}{x:Operand}{A A':Option Addr}{dst r row:Option Nat}{hi lo mx:Option Operand}{k k2 k3:TK}{i:TypeInfo}{u v y z:Value}{Φ:Value->World->Prop}{a b w w':World}
abbrev Ext(w w':World): Prop:=Below w.heap.size w w'
theorem Ext.refl(w:World): Ext w w:=Below.refl _ _
theorem Ext.trans{a b c:World}(h:Ext a b)(k:Ext b c): Ext a c:=Below.trans h (k.mono h.size)
theorem Ext.drew{a b:World}(h:Ext a b): Ext a b.drew:=Below.drew h
theorem Ext.alloc{a b:World}(h:Ext a b)(o:Obj): Ext a (b.alloc o):=Below.alloc h h.size o
theorem Ext.setCell{a b:World}(h:Ext a b){p:Addr}(hp:a.heap.size<=p.block)(u:Value): Ext a (b.setCell p u):=Below.setCell h hp u
theorem Ya(a:Addr)(n:Nat): (a.add n).block=a.block:=by unfold Addr.add;split<;>rfl
theorem add_add(a:Addr)(i j:Nat): (a.add i).add j=a.add (i+j):=by
 unfold Addr.add;by_cases hi:i=0<;>by_cases hj:j=0<;>simp [hi,hj,Nat.add_assoc]
theorem add_zero(a:Addr): a.add 0=a:=by simp [Addr.add]
theorem Vo(b o j:Nat): (⟨b,o,none⟩:Addr).add j=⟨b,o+j,none⟩:=by unfold Addr.add;split<;>simp_all
def adr(A:Option Addr)(k:Nat): Addr:=(A.getD ⟨0,0,none⟩).add k
theorem Xh(A:Option Addr)(k j:Nat): (adr A k).add j=adr A (k+j):=by unfold adr;rw [add_add]
def Rd(w:World)(sz:Nat)(A:Option Addr)(n:Nat)(cs:List Value): Prop :=
 cs.length=n*sz/\(0<cs.length->∃ ad,A=some ad/\ad.block<w.heap.size/\∀ j u,cs[j]?=some u->w.cell? (ad.add j)=some u)
section
variable {w w':World} {sz n:Nat} {A:Option Addr} {cs:List Value}
theorem Rd.nil: Rd w sz A 0 []:=⟨by simp,λh=>absurd h (by simp)⟩
theorem Rd.len(h:Rd w sz A n cs): cs.length=n*sz:=h.1
theorem Rd.ext(h:Rd w sz A n cs)(hx:Ext w w'): Rd w' sz A n cs :=
 ⟨h.1,λh0=>by
  obtain ⟨C,e,o,J⟩:=h.2 h0;exact ⟨C,e,Nat.lt_of_lt_of_le o hx.size,λj u G=>(hx.cell (p:=C.add j) (by rw [Ya];exact o)).trans (J j u G)⟩⟩
theorem Rd.cell(h:Rd w sz A n cs){k:Nat}(hk:cs[k]?=some u): w.cell? (adr A k)=some u:=by
 obtain ⟨C,rfl,_,o⟩:=h.2 (by have:=(List.getElem?_eq_some_iff.1 hk).1;omega);exact o k u hk
theorem Rd.isome(h:Rd w sz A n cs)(h0:0<n)(hs:0<sz): ∃ ad,A=some ad/\ad.block<w.heap.size:=by
 obtain ⟨ad,e,o,_⟩:=h.2 (by rw [h.1];exact Nat.mul_pos h0 hs);exact ⟨ad,e,o⟩
theorem Rd.cut(h:Rd w sz A n cs)(k m q:Nat)(hk:k<=m)(hm:m<=n)(hq:n<=q∨k<q∨k=m):
  Rd w sz (if q=k then A else A.map (·.add (k*sz))) (m-k) ((cs.drop (k*sz)).take ((m-k)*sz)):=by
 refine ⟨?_,λh0=>?_⟩
 .rw [List.length_take,List.length_drop,h.1,<-Nat.sub_mul];apply Nat.min_eq_left
  exact nO _ om
 .rw [List.length_take,List.length_drop,h.1]at h0;have C:k<m:=by
   rcases Nat.lt_or_ge k m with h'|h'
   .exact h'
   .have:m-k=0:=om
    simp [this]at h0
  obtain ⟨O,rfl,J,G⟩:=h.2 (by rw [h.1];omega);rw [if_neg om];refine ⟨O.add (k*sz),rfl,by rw [Ya];exact J,λj u o=>?_⟩;rw [add_add];rw [List.getElem?_take]at o;split at o
  .exact G _ u (by rw [<-o,List.getElem?_drop])
  .cases o
theorem Rd.own{e:TypeId}(h:w.ownsRow base e sz (.slice A n c) n cs): Rd w sz A n cs:=by
 refine ⟨h.1,λh0=>?_⟩;have hn:0<n:=by
  rcases Nat.eq_zero_or_pos n with h'|h'
  .rw [h.1,h']at h0;simp at h0
  .exact h'
 obtain ⟨g,G,u,_,o⟩:=h.form hn;have C:A=some ⟨g,0,none⟩:=by injection u
 subst C;exact ⟨_,rfl,o,h.cells (g:=g) rfl⟩
end
def RdV(w:World)(sz:Nat)(v:Value)(cs:List Value): Prop:=∃ A n c,v=.slice A n c/\n<=c/\Rd w sz A n cs
theorem Jy{e:TypeId}{sz:Nat}(h:w.ownsRow base e sz v n cs): ∃ A c,v=.slice A n c/\n<=c/\(∀ g,v.ownBlock=some g->base<=g/\g<w.heap.size):=by
 rcases h.2 with ⟨rfl,rfl⟩|⟨g,cap,cur,rfl,hb,hh,hle,_⟩
 .exact ⟨none,0,rfl,Nat.le_refl _,λg o=>by simp [Value.ownBlock]at o⟩
 .refine ⟨_,cap,rfl,hle,λu o=>?_⟩;have:g=u:=by simpa [Value.ownBlock] using o
  subst this;refine ⟨hb,?_⟩;rcases Nat.lt_or_ge g w.heap.size with h'|h'
  .exact h'
  .rw [Array.getElem?_eq_none h']at hh;cases hh
theorem RdV.own{w:World}{base:Nat}{e:TypeId}{sz n:Nat}{v:Value}{cs:List Value}(h:w.ownsRow base e sz v n cs): RdV w sz v cs:=by
 obtain ⟨A,c,rfl,o,_⟩:=Jy h;exact ⟨A,n,c,rfl,o,Rd.own h⟩
theorem Xa(w:World)(base:Nat)(e:TypeId)(sz:Nat): w.ownsRow base e sz (.slice none 0 0) 0 []:=⟨by simp,.inl ⟨rfl,rfl⟩⟩
def Blk(w:World)(g:Nat)(t:TypeId)(cs:List Value): Prop:=w.heap[g]?=some (.cells cs.toArray t (0,0))
section
variable {w w':World} {g:Nat} {t:TypeId} {cs:List Value}
theorem Blk.lt(h:Blk w g t cs): g<w.heap.size:=by
 rcases Nat.lt_or_ge g w.heap.size with hlt|hge
 .exact hlt
 .unfold Blk at h;rw [Array.getElem?_eq_none hge]at h;cases h
theorem Blk.cell(h:Blk w g t cs)(i:Nat): w.cell? ⟨g,i,none⟩=cs[i]?:=by
 unfold Blk at h;simp [World.cell?,h]
theorem Blk.at(h:Blk w g t cs){i:Nat}(hv:cs[i]?=some v): w.cell? ((⟨g,0,none⟩:Addr).add i)=some v:=by
 rw [Vo,Nat.zero_add,h.cell,hv]
theorem Blk.frozen(h:Blk w g t cs)(i:Nat): w.frozen? ⟨g,i,none⟩=false:=by
 unfold Blk at h;simp [World.frozen?,h]
theorem Blk.ext(h:Blk w g t cs)(hx:Ext w w'): Blk w' g t cs:=(hx.block g h.lt).trans h
theorem Blk.set(h:Blk w g t cs)(i:Nat)(u:Value): Blk (w.setCell ⟨g,i,none⟩ u) g t (cs.set i u):=by
 unfold Blk at h ⊢;simp [World.setCell,Array.getElem?_modify,h]
theorem Blk.far(h:Blk w g t cs)(hp:g≠p.block)(u:Value): Blk (w.setCell p u) g t cs:=(Below.heap_setCell w p u g hp).trans h
theorem Blk.grown(h:Blk w g t cs)(hb:w.grownBy w' row)(hg:some g≠row): Blk w' g t cs:=(hb.block g h.lt hg).trans h
theorem Blk.rd(h:Blk w g t cs){sz:Nat}(hl:cs.length=n*sz): Rd w sz (some ⟨g,0,none⟩) n cs :=
 ⟨hl,λ_=>⟨_,rfl,h.lt,λj u o=>h.at o⟩⟩
theorem Blk.own(h:Blk w g t cs){sz:Nat}(hb:base<=g)(hl:cs.length=n*sz)(hm:n<=maxLen): w.ownsRow base t sz (.slice (some ⟨g,0,none⟩) n n) n cs :=
 ⟨hl,.inr ⟨g,n,cs.toArray,rfl,hb,h,Nat.le_refl _,hm,by simpa using hl,by rw [<-hl];simp⟩⟩
end
theorem Qf(h:Ext a w)(hg:w.grownBy w' row)(hr:∀ k,row=some k->a.heap.size<=k): Ext a w':=Below.grown h hg h.size hr
theorem Rd.grown{sz:Nat}(h:Rd w sz A n cs)(hg:w.grownBy w' row)(hr:∀ ad,A=some ad->row≠some ad.block): Rd w' sz A n cs :=
 ⟨h.1,λh0=>by
  obtain ⟨ad,e,o,G⟩:=h.2 h0;refine ⟨ad,e,Nat.lt_of_lt_of_le o hg.size,λj u C=>?_⟩;rw [<-G j u C];exact World.cell?_of_block (by rw [Ya];exact hg.block _ o (λJ=>hr ad e J.symm))⟩
def Qwt(P:Program)(f:FuncId): Prop:=∃ fn c,P.funcs[f]?=some fn/\fn.body=some c/\(fn.name == "runtime.NumGoroutine")=false
structure Ret(P:Program)(f:FuncId)(vs:List Value)(w:World)(Φ:Value->World->Prop): Prop where
 ok:Qwt P f
 calls:Calls P f vs.toArray w λe w'=>∃ v,e=.returned v/\Φ v w'
section
variable {P:Program} {n:Nat} {al:AL} {w:World}
theorem Ret.mono{f:FuncId}{vs:List Value}{Φ Φ':Value->World->Prop}(h:Ret P f vs w Φ)(hm:∀ v w',Φ v w'->Φ' v w'): Ret P f vs w Φ' :=
 ⟨h.ok,h.calls.mono λe w' ⟨v,u,o⟩=>⟨v,u,hm v w' o⟩⟩
def Vz(P:Program)(fn:Func)(Φ:Value->World->Prop): Exit->Act->World->Prop:=bodyPost P fn λe w'=>∃ v,e=.returned v/\Φ v w'
theorem Jz{c:Code}(hf:P.funcs[f]?=some fn)(hn:fn.ntmps=n)(hb:fn.body=some c)(hname:(fn.name == "runtime.NumGoroutine")=false)(hle:Nat.ble args.length n=true)(h:WC P n c (Vz P fn Φ) (al0 0 args) w): Ret P f args w Φ :=
 ⟨⟨fn,c,hf,hb,hname⟩,enter hf hb hn hle h⟩
theorem done1(hr:fn.results = #[.tmp t])(ht:lk al t=some v)(h:Φ v w): QX n (Vz P fn Φ) .ret al w:=Qff hr ht ⟨v,rfl,h⟩
theorem done2{u:Nat}{x:Value}(hr:fn.results = #[.tmp t,.tmp u])(ht:lk al t=some x)(hu:lk al u=some y)(h:Φ (.tuple #[x,y]) w): QX n (Vz P fn Φ) .ret al w:=Qfd hr ht hu ⟨_,rfl,h⟩
theorem done3{u s:Nat}{x:Value}(hr:fn.results = #[.tmp t,.tmp u,.tmp s])(ht:lk al t=some x)(hu:lk al u=some y)(hs:lk al s=some z)(h:Φ (.tuple #[x,y,z]) w): QX n (Vz P fn Φ) .ret al w:=Qfc hr ht hu hs ⟨_,rfl,h⟩
theorem done4{u s r:Nat}{x q:Value}(hr:fn.results = #[.tmp t,.tmp u,.tmp s,.tmp r])(ht:lk al t=some x)(hu:lk al u=some y)(hs:lk al s=some z)(hq:lk al r=some q)(h:Φ (.tuple #[x,y,z,q]) w): QX n (Vz P fn Φ) .ret al w:=Qfb hr ht hu hs hq ⟨_,rfl,h⟩
def Jbw(P:Program)(al:AL)(w:World): List ResultVar->List Value->Prop
 | [],[]=>True
 | .tmp t::r,v::vs=>lk al t=some v/\Jbw P al w r vs
 | .cell t ty::r,v::vs=>(∃ p,lk al t=some (.pointer (some p))/\(loadVar ty p).run P w=.ok v w)/\Jbw P al w r vs
 | _,_=>False
def Jvr(a:Act): ResultVar->Sem Value
 | .tmp t=>pure (a.tmps.getD t undef)
 | .cell b t=>do loadVar t (<-asAddr (a.tmps.getD b undef))
theorem Jdn{a:Act}(ha:Fr n al a): ∀ {rs:List ResultVar} {vs:List Value},Jbw P al w rs vs->(rs.mapM (Jvr a)).run P w=Result.ok vs w
 | [],[],_=>rfl
 | [],_::_,h=>h.elim
 | .tmp t::r,[],h=>h.elim
 | .cell _ _::_,[],h=>h.elim
 | .tmp t::r,v::vs,h=>by
  obtain ⟨h1,h2⟩:=h;have:=Jdn ha h2;rw [List.mapM_cons,Sem.run_bind];simp only [Jvr,Sem.run_pure,Result.andThen_ok,Sem.run_bind,this,ha.has t v h1]
 | .cell b t::r,v::vs,h=>by
  obtain ⟨⟨p,h1,h1'⟩,h2⟩:=h;have:=Jdn ha h2;rw [List.mapM_cons,Sem.run_bind];simp only [Jvr,Sem.run_bind,ha.has b _ h1,asAddr,Sem.run_pure,Result.andThen_ok,h1',this]
theorem Jzb{rs:List ResultVar}(hr:fn.results=rs.toArray)(hv:Jbw P al w rs vs)(hv':(if h:vs.toArray.size=1 then vs.toArray[0] else .tuple vs.toArray)=v)(h:Φ v w): QX n (Vz P fn Φ) .ret al w:=λa o=>by
 refine bodyPost_ret (v:=v) ?_ o.defers ⟨v,rfl,h⟩;have:=Jdn o hv;subst hv';have e:results fn a.tmps=(do let vs <-fn.results.mapM (Jvr a);pure (if h:vs.size=1 then vs[0] else .tuple vs)):=by
  unfold results;congr 1
 rw [e,hr,List.mapM_toArray];simp only [Sem.run_bind,Sem.run_map,this,Result.andThen_ok,Sem.run_pure]
end
section
variable {P:Program} {n:Nat} {al:AL} {w:World} {Q:Exit->Act->World->Prop} {ops:Array Oper} {rest:List Oper}
variable {d ty:Nat} {op:Op} {pos:String} {aft:Array Edge} {tt:TT}
theorem Jvp(h:Qwt P f)(args:Array Value)(w:World): (callFunc f args).run P w=.ok (.enter f args) w:=by
 obtain ⟨fn,c,G,C,u⟩:=h;have o:¬ fn.name = "runtime.NumGoroutine":=by simpa using u
 simp [callFunc,G,C,o]
theorem Jbg{o:Oper}{a:Act}{K:Act->World->Prop}(h:(execOp a.eval o).run P w=.ok (.enter f vs.toArray) w)(hc:Ret P f vs w Φ)(k:∀ v w',Φ v w'->K (a.put o.dst v) w'): o.wp P a w K Q:=by
 unfold Oper.wp;rw [h,Oper.upon_enter];refine hc.calls.mono ?_;rintro e w' ⟨v,rfl,u⟩;exact k v w' u
theorem wcall{xs:Array Operand}(hx:evs al xs.toList=some vs)(hd:Nat.blt d n=true)(hc:Ret P f vs w Φ)(k:∀ v w',Φ v w'->WL P n ops Q rest ((d,v)::al) w'): WL P n ops Q (⟨some d,.call { callee:=.value (.func f),args:=xs,argTypes:=ats },ty,pos,aft,none⟩::rest) al w:=λa u=>
 wpList_plain rfl λK G=>by
  have o:d<n:=by (have:d+1<=n:=by simpa [Nat.blt] using hd);(omega)
  have O:xs.map a.eval=vs.toArray:=by rw [<-u.evs hx,<-List.map_toArray,Array.toArray_toList]
  have J:(execOp a.eval ⟨some d,.call { callee:=.value (.func f),args:=xs,argTypes:=ats },ty,pos,aft,none⟩).run P w=.ok (.enter f vs.toArray) w:=by
   simp [execOp,resolve,O,Act.eval,Deferred.ofValue,invoke,Jvp hc.ok]
  exact Jbg J hc λv w' C=>G _ _ (k v w' C _ (u.put o v))
theorem Qvw{first captured:Array Value}{xs:Array Operand}(hf:ev al x=some (.func (.func f) first captured))(hx:evs al xs.toList=some vs)(hd:Nat.blt d n=true)(hc:Ret P f (first.toList++vs++captured.toList) w Φ)(k:∀ v w',Φ v w'->WL P n ops Q rest ((d,v)::al) w'): WL P n ops Q (⟨some d,.call { callee:=.value x,args:=xs,argTypes:=ats },ty,pos,aft,none⟩::rest) al w:=λa u=>
 wpList_plain rfl λK G=>by
  have o:d<n:=by (have:d+1<=n:=by simpa [Nat.blt] using hd);(omega)
  have O:xs.map a.eval=vs.toArray:=by rw [<-u.evs hx,<-List.map_toArray,Array.toArray_toList]
  have J:(execOp a.eval ⟨some d,.call { callee:=.value x,args:=xs,argTypes:=ats },ty,pos,aft,none⟩).run P w=.ok (.enter f (first.toList++vs++captured.toList).toArray) w:=by
   have e:(first.toList++vs++captured.toList).toArray=first++vs.toArray++captured:=by apply Array.ext';simp
   rw [e];simp [execOp,resolve,O,u.ev hf,Deferred.ofValue,invoke,Jvp hc.ok]
  exact Jbg J hc λv w' C=>G _ _ (k v w' C _ (u.put o v))
theorem Kg(hT:TOk P tt){sz:Nat}(ht:tk tt t=some k)(hk:k.desc=.slice e)(hz:k.esz=sz): P.underlying t=some (.slice e)/\Zh P e=some sz:=by
 have:=hT.at ht;unfold Yh at this;rw [hk]at this;subst hz;exact ⟨this.1,this.2.1⟩
def Vm: TypeDesc->Bool
 | .bool | .int _ | .string | .pointer _ | .slice _ | .map _ _ | .func _ _ _ | .interface _=>true
 | _=>false
theorem Jvj(hT:TOk P tt)(ht:tk tt t=some k)(hk:Vm k.desc=true)(w:World): (isAgg t).run P w=.ok false w/\Zh P t=some k.size:=by
 have:=hT.at ht;unfold Yh at this;revert this
 cases hd:k.desc<;>intro h<;>rw [hd]at hk<;>simp [Vm]at hk<;>first
  | exact ⟨by simp [isAgg,run_underlying h.1],h.2⟩
  | exact ⟨by simp [isAgg,run_underlying h.1],h.2.2⟩
theorem Jqp(hT:TOk P tt)(ht:tk tt t=some k)(hk:k.desc=.invalid)(w:World): (isAgg t).run P w=.ok true w/\Zh P t=some k.size:=by
 have:=hT.at ht;unfold Yh at this;rw [hk]at this;obtain ⟨fs,u,_,o⟩:=this;exact ⟨by simp [isAgg,run_underlying u],o⟩
theorem Jmq(hT:TOk P tt){i:Operand}{sz:Nat}{z:Int}(q:Nat)(j:Nat)(ht:tk tt t=some k)(hk:k.desc=.slice e)(hz:k.esz=sz)(hx:ev al x=some (.slice A m c))(hi:ev al i=some (.int kd z))(hr:Rd w sz A m cs)(hj:z=(j:Int))(hlt:j<m)(h0:0<sz)(hq:j*sz=q)(hd:Nat.blt d n=true)(kk:WL P n ops Q rest ((d,.pointer (some (adr A q)))::al) w): WL P n ops Q (⟨some d,.indexAddr t x i,ty,pos,aft,none⟩::rest) al w:=by
 obtain ⟨u,C⟩:=Kg hT ht hk hz;obtain ⟨J,rfl,G⟩:=hr.isome om h0;subst hj;subst hq;refine wop hd (λa o=>?_) kk;simp [execOp,o.ev hx,o.ev hi,Instr.indexAt,asIntOf,run_underlying u,Vw w C,adr];intro h;omega
theorem wload(hT:TOk P tt)(ht:tk tt t=some k)(hk:Vm k.desc=true)(hx:ev al x=some (.pointer (some p)))(hc:w.cell? p=some v)(hd:Nat.blt d n=true)(kk:WL P n ops Q rest ((d,v)::al) w): WL P n ops Q (⟨some d,.load t x,ty,pos,aft,none⟩::rest) al w :=
 wop hd (λa o=>by simp [execOp,o.ev hx,Instr.loadAt,Instr.sureAddr,loadVar,(Jvj hT ht hk w).1,hc]) kk
theorem Ia(hT:TOk P tt)(ht:tk tt t=some k)(hk:k.desc=.invalid)(hl:k.size=cs.length)(hc:∀ j u,cs[j]?=some u->w.cell? (p.add j)=some u): (loadVar t p).run P w=.ok (.agg cs.toArray) w:=by
 have o:=run_loadCells_list (P:=P) w p cs hc;rw [<-hl]at o;simp [loadVar,(Jqp hT ht hk w).1,Vw w (Jqp hT ht hk w).2,o]
theorem Jpz(hT:TOk P tt)(ht:tk tt t=some k)(hk:Vm k.desc=true)(hc:w.cell? p=some v): (loadVar t p).run P w=.ok v w:=by
 simp [loadVar,(Jvj hT ht hk w).1,hc]
theorem Qvk(hT:TOk P tt)(ht:tk tt t=some k)(hk:k.desc=.invalid)(hl:k.size=cs.length)(hx:ev al x=some (.pointer (some p)))(hc:∀ j u,cs[j]?=some u->w.cell? (p.add j)=some u)(hd:Nat.blt d n=true)(kk:WL P n ops Q rest ((d,.agg cs.toArray)::al) w): WL P n ops Q (⟨some d,.load t x,ty,pos,aft,none⟩::rest) al w :=
 wop hd (λa o=>by simp [execOp,o.ev hx,Instr.loadAt,Instr.sureAddr,Ia (w:=w) hT ht hk hl hc]) kk
theorem Jlt(hT:TOk P tt){y:Operand}(ht:tk tt t=some k)(hk:k.size=1)(hp:Vm k.desc=true)(hx:ev al x=some (.pointer (some p)))(hy:ev al y=some v)(hv:v.oneCell'=true)(hc:w.cell? p=some u)(hf:w.frozen? p=false)(kk:WL P n ops Q rest al (w.setCell p v)): WL P n ops Q (⟨none,.store t x y,ty,pos,aft,none⟩::rest) al w:=by
 refine Iy (λa G=>?_) kk;have C:=(Jvj hT ht hp w).2;rw [hk]at C;have o:v.cells = #[v]:=by cases v<;>simp_all [Value.oneCell',Value.cells]
 simp [execOp,G.ev hx,G.ev hy,Instr.storeAt,Instr.sureAddr,storeVar,o,Vw w C,storeCells,add_zero,run_store P w p v .plain hv,hc,hf]
theorem Jxg(w:World)(t:TypeId)(cs:List Value): Ext w (w.alloc (.cells cs.toArray t))/\Blk (w.alloc (.cells cs.toArray t)) w.heap.size t cs :=
 ⟨(Ext.refl w).alloc _,heap_alloc_new w _⟩
theorem wbox(hx:ev al x=some v)(hv:v.cells=cs.toArray)(hd:Nat.blt d n=true)(kk:∀ w1 b,Ext w w1->w.heap.size<=b->Blk w1 b t cs->WL P n ops Q rest ((d,.pointer (some ⟨b,0,none⟩))::al) w1): WL P n ops Q (⟨some d,.box t x,ty,pos,aft,none⟩::rest) al w :=
 wop hd (λa o=>by
   show _=Result.ok (Next.value (.pointer (some ⟨w.heap.size,0,none⟩))) (w.alloc (.cells cs.toArray t));simp [execOp,o.ev hx,Instr.box,newVar,newRow,hv]) (kk _ _ (Jxg w t cs).1 (Nat.le_refl _) (Jxg w t cs).2)
theorem Qyf(hz:Qp P t=some z)(hv:z.cells=cs.toArray)(hd:Nat.blt d n=true)(kk:∀ w1 b,Ext w w1->w.heap.size<=b->Blk w1 b t cs->WL P n ops Q rest ((d,.pointer (some ⟨b,0,none⟩))::al) w1): WL P n ops Q (⟨some d,.alloc t,ty,pos,aft,none⟩::rest) al w:=by
 have o:(zeroValue t).run P w=.ok z w:=by
  unfold Qp at hz;obtain ⟨i,C,u⟩:=Option.bind_eq_some_iff.1 hz;simp [zeroValue,typeInfo,C,u]
 exact wop hd (λa G=>by
   show _=Result.ok (Next.value (.pointer (some ⟨w.heap.size,0,none⟩))) (w.alloc (.cells cs.toArray t));simp [execOp,Instr.alloc,o,newVar,newRow,hv]) (kk _ _ (Jxg w t cs).1 (Nat.le_refl _) (Jxg w t cs).2)
theorem Qyb(hx:evs al (parts.toList.map (·.2))=some vs)(hb:(Instr.build t ((parts.toList.map (·.1)).zip vs).toArray).run P w=.ok v w)(hd:Nat.blt d n=true)(kk:WL P n ops Q rest ((d,v)::al) w): WL P n ops Q (⟨some d,.build t parts,ty,pos,aft,none⟩::rest) al w :=
 wop hd (λa o=>by
  have C:=o.evs hx;have u:(parts.map fun (i,x)=>(i,a.eval x))=((parts.toList.map (·.1)).zip vs).toArray:=by
   rw [<-C];apply Array.ext'
   simp only [Array.toList_map];induction parts.toList with
   | nil=>rfl
   | cons x r ih=>simpa using ih
  simp [execOp,u,hb]) kk
def Bnd(al:AL)(o:Option Operand)(dflt r:Nat): Prop:=match o with
 | none=>r=dflt
 | some x=>∃ k z,ev al x=some (.int k z)/\z=(r:Int)
theorem Gf{x:Value}{k:IntKind}{z:Int}{r y:Nat}{code:BoundsCode}(hx:x=.int k z)(hz:z=(r:Int))(h:r<=y)(w:World): (Instr.sliceBound x y code).run P w=.ok r w:=by
 subst hx;subst hz;have:(r:Int)<=(y:Int):=om
 simp [Instr.sliceBound,asIntOf];intro h;omega
theorem Jps{w:World}{a:Act}(ha:Fr n al a){sz:Nat}{l h:Nat}(hu:P.underlying t=some (.slice e))(hs:Zh P e=some sz)(hx:ev al x=some (.slice A m c))(hl:Bnd al lo 0 l)(hh:Bnd al hi m h)(hq:Bnd al mx c q)(hm:mx=none∨hi≠none)(h1:l<=h)(h2:h<=q)(h3:q<=c):
  (execOp a.eval ⟨dst,.slice t x lo hi mx,ty,pos,aft,none⟩).run P w=.ok (.value (.slice (if q=l then A else A.map (·.add (l*sz))) (h-l) (q-l))) w:=by
 have hb:(Instr.sliceBounds true m c (lo.map a.eval) (hi.map a.eval) (mx.map a.eval)).run P w=.ok (l,h,q) w:=by
  unfold Instr.sliceBounds;cases mx with
  | none=>
   have:q=c:=hq;subst this;cases hi with
   | none=>
    have:h=m:=hh;subst this;cases lo with
    | none=>have:l=0:=hl;subst this;simp
    | some y=>obtain ⟨U,z,O,u⟩:=hl;simp [Gf (P:=P) (ha.ev O) u h1]
   | some y'=>
    obtain ⟨k2,Z,C,o⟩:=hh;cases lo with
    | none=>have:l=0:=hl;subst this;simp [Gf (P:=P) (ha.ev C) o h2]
    | some y=>obtain ⟨U,z,O,u⟩:=hl;simp [Gf (P:=P) (ha.ev C) o h2,Gf (P:=P) (ha.ev O) u h1]
  | some y3=>
   obtain ⟨k3,z3,J,G⟩:=hq;cases hi with
   | none=>simp at hm
   | some y'=>
    obtain ⟨k2,Z,C,o⟩:=hh;cases lo with
    | none=>have:l=0:=hl;subst this;simp [Gf (P:=P) (ha.ev J) G h3,Gf (P:=P) (ha.ev C) o h2]
    | some y=>obtain ⟨U,z,O,u⟩:=hl;simp [Gf (P:=P) (ha.ev J) G h3,Gf (P:=P) (ha.ev C) o h2,Gf (P:=P) (ha.ev O) u h1]
 simp [execOp,ha.ev hx,Instr.sliceAt,run_underlying hu,Instr.slice,hb,Vw w hs]
theorem Jww(hT:TOk P tt){sz:Nat}(l h q:Nat)(A':Option Addr)(m' c':Nat)(ht:tk tt t=some k)(hk:k.desc=.slice e)(hz:k.esz=sz)(hx:ev al x=some (.slice A m c))(hl:Bnd al lo 0 l)(hh:Bnd al hi m h)(hq:Bnd al mx c q)(hm:mx=none∨hi≠none)(h1:l<=h)(h2:h<=q)(h3:q<=c)(e1:(if q=l then A else A.map (·.add (l*sz)))=A')(e2:h-l=m')(e3:q-l=c')(hd:Nat.blt d n=true)(kk:WL P n ops Q rest ((d,.slice A' m' c')::al) w): WL P n ops Q (⟨some d,.slice t x lo hi mx,ty,pos,aft,none⟩::rest) al w:=by
 subst e1;subst e2;subst e3;obtain ⟨o,u⟩:=Kg hT ht hk hz;exact wop hd (λa C=>Jps C o u hx hl hh hq hm h1 h2 h3) kk
theorem Qvz{len:Nat}(hx:evs al (parts.toList.map (·.2))=some vs)(hb:∀ w:World,(Instr.buildSlice t len ((parts.toList.map (·.1)).zip vs).toArray).run P w=.ok (.slice (some ⟨w.heap.size,0,none⟩) len len) (w.alloc (.cells cs.toArray e)))(hd:Nat.blt d n=true)(kk:∀ w1 b,Ext w w1->w.heap.size<=b->Blk w1 b e cs->WL P n ops Q rest ((d,.slice (some ⟨b,0,none⟩) len len)::al) w1): WL P n ops Q (⟨some d,.buildSlice t len parts,ty,pos,aft,none⟩::rest) al w :=
 wop hd (λa o=>by
  have C:=o.evs hx;have u:(parts.map fun (i,x)=>(i,a.eval x))=((parts.toList.map (·.1)).zip vs).toArray:=by
   rw [<-C];apply Array.ext'
   simp only [Array.toList_map];induction parts.toList with
   | nil=>rfl
   | cons x r ih=>simpa using ih
  simp [execOp,u,hb]) (kk _ _ (Jxg w e cs).1 (Nat.le_refl _) (Jxg w e cs).2)
structure ElT(P:Program)(t e sz bytes:Nat)(z:Value): Prop where
 sl:P.underlying t=some (.slice e)
 info:∃ i,P.info? e=some i/\i.zero=some z/\i.size=sz/\i.bytes=bytes
 cells:z.cells.size=sz
 pos:0<sz
def Apd(w:World)(base e sz:Nat)(v:Value)(m:Nat)(xs:List Value): Prop:=w.ownsRow base e sz v m xs∨∃ A,v=.slice A m m/\Rd w sz A m xs
theorem Jk{w:World}{sz:Nat}(h:w.ownsRow base e sz v m xs)(hx:Ext w w'): w'.ownsRow base e sz v m xs:=by
 refine h.kept (row:=none) ⟨hx.os,hx.tape,hx.output,hx.size,λk o _=>hx.block k o⟩ ?_;cases v.ownBlock<;>simp
theorem Apd.rdv{w:World}{sz:Nat}(h:Apd w base e sz v m xs): RdV w sz v xs:=by
 rcases h with h|⟨A,hv,hr⟩
 .exact RdV.own h
 .exact ⟨A,m,m,hv,Nat.le_refl _,hr⟩
theorem Qct{t e:TypeId}(ht:P.underlying t=some (.slice e))(hi:P.info? e=some i)(tyy:TypeId)(A:Option Addr)(m c:Nat)(hmc:m<=c)(w:World)(c':Nat):
  (Builtin.append_ #[t,t] tyy #[.slice A m c,.slice none 0 c']).run P w=.ok (.slice A m c) w:=by
 cases A<;>simp [Builtin.append_,run_underlying ht,sizeOf,typeInfo,hi,Builtin.lenOf,Builtin.firstCells,hmc,storeCells]
theorem Qcs{t e:TypeId}(ht:P.underlying t=some (.slice e))(hi:P.info? e=some i)(tyy:TypeId)(A:Option Addr)(m c:Nat)(hmc:m<=c)(w:World)(A':Option Addr)(c':Nat):
  (Builtin.append_ #[t,t] tyy #[.slice A m c,.slice A' 0 c']).run P w=.ok (.slice A m c) w:=by
 cases A' with
 | none=>exact Qct ht hi tyy A m c hmc w c'
 | some b=>cases A<;>simp [Builtin.append_,run_underlying ht,sizeOf,typeInfo,hi,Builtin.lenOf,Builtin.firstCells,hmc,storeCells,loadCells,loadCellsFrom]
theorem Jrc{sz:Nat}(hE:ElT P t e sz bytes z)(base:Nat)(tyy:TypeId)(ha:Apd w base e sz v m xs)(hr:Rd w sz A' m' news)(h1:∀ u∈news,u.oneCell'=true)(h63:m+m'<=maxLen)(hby:(m+m')*bytes<=140737488355328)(hbase:base<=w.heap.size):
  ∃ v' w',(Builtin.append_ #[t,t] tyy #[v,.slice A' m' c']).run P w=.ok v' w'/\Apd w' base e sz v' (m+m') (xs++news)/\(0<m'->w'.ownsRow base e sz v' (m+m') (xs++news)) /\
   (w.ownsRow base e sz v m xs->w'.ownsRow base e sz v' (m+m') (xs++news))/\((w.ownsRow base e sz v m xs/\w.grownBy w' v.ownBlock)∨Ext w w')/\(∀ g,v'.ownBlock=some g->v.ownBlock=some g∨w.heap.size<=g):=by
 obtain ⟨i,hi,hz,Z,a2⟩:=hE.info;rcases Nat.eq_zero_or_pos m' with h0|h0
 .subst h0;have hn:news=[]:=List.eq_nil_of_length_eq_zero (by rw [hr.1];simp);subst hn;obtain ⟨A,n0,c,rfl,a3,o⟩:=ha.rdv;have a1:n0=m:=by
   rcases ha with h|⟨A2,hv,_⟩
   .obtain ⟨A3,c3,hv,_⟩:=Jy h;injection hv
   .injection hv
  subst a1;refine ⟨_,w,Qcs hE.sl hi tyy A n0 c a3 w A' c',by simpa using ha,λh=>absurd h om,λh=>by simpa using h,.inr (Ext.refl w),λg G=>.inl G⟩
 .obtain ⟨ad,rfl,hb,hc⟩:=hr.2 (by rw [hr.1];exact Nat.mul_pos h0 hE.pos);have a6:w.ownsRow base e sz v m xs∨∃ b,v=.slice (some b) m m/\Rd w sz (some b) m xs:=by
   rcases ha with h|⟨A,rfl,o⟩
   .exact .inl h
   .cases A with
    | some b=>exact .inr ⟨b,rfl,o⟩
    | none=>
     have hx:xs=[]:=by
      rcases Nat.eq_zero_or_pos xs.length with h'|h'
      .exact List.eq_nil_of_length_eq_zero h'
      .obtain ⟨_,J,_⟩:=o.2 h';cases J
     have hm:m=0:=by
      have:=o.1;rw [hx]at this;have hp:=hE.pos;rcases Nat.mul_eq_zero.1 this.symm with h'|h'
      .exact h'
      .omega
     subst hx;subst hm;exact .inl (Xa w base e sz)
  rcases a6 with h|⟨b,rfl,o⟩
  .obtain ⟨v',w',C,J,O,_,h5⟩:=run_append_own_at (P:=P) w base t tyy e i z sz bytes hE.sl hi hz Z a2 hE.cells hE.pos v m xs h ad m' c' news hr.1 hc h1 h63 hby hbase;refine ⟨v',w',C,.inl J,λ_=>J,λ_=>J,.inl ⟨h,O⟩,λg G=>?_⟩;rcases h5 with h5|h5
   .exact .inl (h5 ▸ G)
   .rw [h5]at G;injection G with G;exact .inr om
  .have a5:∀ j u,xs[j]?=some u->w.cell? (b.add j)=some u:=λj u hu=>by
    obtain ⟨b',e',_,a4⟩:=o.2 (by have:=(List.getElem?_eq_some_iff.1 hu).1;omega);injection e' with e'
    subst e';exact a4 j u hu
   obtain ⟨v',w',C,J,O⟩:=run_append_arg_grows (P:=P) w t tyy e i z sz bytes hE.sl hi hz Z a2 hE.cells hE.pos b m m xs o.1 a5 ad m' c' news hr.1 hc om h63 hby;have U:w'.ownsRow base e sz v' (m+m') (xs++news):=World.ownsRow.mono J hbase;refine ⟨v',w',C,.inl U,λ_=>U,λ_=>U,.inr ⟨O.os,O.tape,O.output,O.size,λk hk=>O.block k hk (by simp)⟩,λg G=>.inr (World.ownsRow.lt J g G).1⟩
theorem Zc{w:World}(h:Ext w w')(row:Option Nat): w.grownBy w' row:=⟨h.os,h.tape,h.output,h.size,λk o _=>h.block k o⟩
theorem Zv{c:World}(h:a.grownBy b r)(k:b.grownBy c r): a.grownBy c r :=
 ⟨k.os.trans h.os,k.tape.trans h.tape,k.output.trans h.output,Nat.le_trans h.size k.size,λi hi hn=>(k.block i (nM hi h.size) hn).trans (h.block i hi hn)⟩
theorem Xjf{w:World}{sz:Nat}(h:Ext a w)(hg:(w.ownsRow a.heap.size e sz v m xs/\w.grownBy w' v.ownBlock)∨Ext w w'): Ext a w':=by
 rcases hg with ⟨o,hg⟩|hg
 .exact Qf h hg λk u=>(World.ownsRow.lt o k u).1
 .exact h.trans hg
theorem Qyd(hxa : Ext a w){sz:Nat}(hE : ElT P t e sz bytes z){y:Operand}(hx : ev al x = some v)(hy : ev al y = some (.slice A' m' c'))(ha : Apd w a.heap.size e sz v m xs)(hr : Rd w sz A' m' news)(h1 : ∀ u ∈ news, u.oneCell' = true)(h63 : m + m' ≤ maxLen)(hby : (m + m') * bytes ≤ 140737488355328)(hd : Nat.blt d n = true)(kk : ∀ v' w', Apd w' a.heap.size e sz v' (m + m') (xs ++ news) → (0 < m' → w'.ownsRow a.heap.size e sz v' (m + m') (xs ++ news)) → (w.ownsRow a.heap.size e sz v m xs → w'.ownsRow a.heap.size e sz v' (m + m') (xs ++ news)) →
      Ext a w' → w.grownBy w' v.ownBlock → (∀ g, v'.ownBlock = some g → v.ownBlock = some g ∨ w.heap.size ≤ g) → WL P n ops Q rest ((d, v') :: al) w'):
    WL P n ops Q (⟨some d, .call { callee := .builtin .append, args := #[x, y], argTypes := #[t, t] }, ty, pos, aft, none⟩ :: rest) al w := by
  obtain ⟨v', w', hrun, k1, k2, k3, k4, k5⟩ := Jrc hE a.heap.size ty ha (c' := c') hr h1 h63 hby hxa.size
  refine wop hd (fun a ha' => ?_) (kk v' w' k1 k2 k3 (Xjf hxa k4) (k4.elim (·.2) (fun h => Zc h _)) k5)
  simp [execOp, resolve, invoke, builtin, ha'.ev hx, ha'.ev hy, hrun]
theorem Blk.one{w:World}{t:TypeId}(h:Blk w g t [v]): Rd w 1 (some ⟨g,0,none⟩) 1 [v]:=h.rd (by simp)
theorem Qvn(hT:TOk P tt){i:Operand}{z:Int}(j:Nat)(ht:tk tt t=some k)(hk:k.desc=.slice e)(hz:k.esz=1)(hx:ev al x=some (.slice A m c))(hi:ev al i=some (.int kd z))(hr:Rd w 1 A m cs)(hj:z=(j:Int))(hlt:j<m)(hd:Nat.blt d n=true)(kk:WL P n ops Q rest ((d,.pointer (some (adr A j)))::al) w): WL P n ops Q (⟨some d,.indexAddr t x i,ty,pos,aft,none⟩::rest) al w :=
 Jmq hT j j ht hk hz hx hi hr hj hlt om om hd kk
theorem Zl{w:World}{sz:Nat}(h:w.ownsRow base e sz (.slice A m c) m xs)(hq:q<m*sz)(u:Value):
  w.cell? (adr A q)=xs[q]?/\w.frozen? (adr A q)=false/\(w.setCell (adr A q) u).ownsRow base e sz (.slice A m c) m (xs.set q u)/\base<=(adr A q).block/\w.grownBy (w.setCell (adr A q) u) (Value.slice A m c).ownBlock:=by
 have C:0<m:=by
  rcases Nat.eq_zero_or_pos m with h'|h'
  .rw [h']at hq;simp at hq
  .exact h'
 obtain ⟨g,U,o,J,G⟩:=World.ownsRow.form h C;injection o with h1 _ h3
 subst h1;subst h3;have O:adr (some ⟨g,0,none⟩) q=⟨g,q,none⟩:=by simp [adr,Vo]
 rw [O];exact ⟨World.ownsRow.cellAt h q hq,World.ownsRow.frozenAt h q,(World.ownsRow.stored h q u).1,J,(World.ownsRow.stored h q u).2⟩
theorem Blk.ne_own{w:World}(h:Blk w g t cs){sz:Nat}(ho:w.ownsRow base e sz v m xs)(hne:Nat.beq e t=false): some g≠v.ownBlock:=by
 have o:e≠t:=by intro C;subst C;simp at hne
 rcases ho.2 with ⟨rfl,_⟩|⟨g',cap,cur,rfl,_,hh,_⟩
 .simp [Value.ownBlock]
 .intro u;have:g=g':=by simpa [Value.ownBlock] using u
  subst this;unfold Blk at h;rw [h]at hh;injection hh with hh
  injection hh with _ ht
  exact o ht.symm
theorem cut0(A:Option Addr)(q sz:Nat): (if q=0 then A else A.map (·.add (0*sz)))=A:=by
 split
 .rfl
 .cases A<;>simp [Addr.add]
theorem Vh(hT:TOk P tt){dd:TypeDesc}(ht:tk tt t=some k)(hk:k.desc=dd)(hp:Vm dd=true): P.underlying t=some dd:=by
 have:=hT.at ht;unfold Yh at this;rw [hk]at this;cases dd<;>simp [Vm]at hp<;>exact this.1
theorem Jlv(hT:TOk P tt){i:Operand}{s:ByteArray}{z:Int}(j:Nat)(ht:tk tt t=some k)(hk:k.desc=.string)(hx:ev al x=some (.string s))(hi:ev al i=some (.int kd z))(hj:z=(j:Int))(hlt:j<s.size)(hd:Nat.blt d n=true)(kk:WL P n ops Q rest ((d,.int .u8 ((s.data.toList.getD j 0).toNat:Int))::al) w): WL P n ops Q (⟨some d,.index t x i,ty,pos,aft,none⟩::rest) al w:=by
 have u:=Vh hT ht hk rfl;subst hj;refine wop hd (λa o=>?_) kk;have J:s[j]?=some s[j]:=by simp [hlt]
 have G:s.data.toList.getD j 0=s[j]:=by
  have C:j<s.data.toList.length:=by simpa using hlt
  simp [List.getD,List.getElem?_eq_getElem C];rfl
 rw [G];simp [execOp,o.ev hx,o.ev hi,Instr.index,asIntOf,run_underlying u,J]
def Bc(l:List UInt8): List Value:=l.map λc=>.int .u8 (c.toNat:Int)
theorem Jlm(l:List UInt8): (Bc l).length=l.length:=by simp [Bc]
theorem Qwv{k:Nat}(h:k<l.length): (Bc l)[k]?=some (.int .u8 ((l.getD k 0).toNat:Int)):=by
 simp [Bc,List.getElem?_eq_getElem h]
theorem Bc_one(l:List UInt8): ∀ u∈Bc l,u.oneCell'=true:=by
 intro u o;obtain ⟨c,_,rfl⟩:=List.mem_map.1 o;rfl
theorem Bc_app(l r:List UInt8): Bc (l++r)=Bc l++Bc r:=by simp [Bc]
def str(l:List UInt8): ByteArray:=⟨l.toArray⟩
theorem Qcq{src dst e:TypeId}(hs:P.underlying src=some (.slice e))(he:P.underlying e=some (.int .u8))(hdst:P.underlying dst=some .string)(hr:Rd w 1 A m (Bc l)):
  (convert src dst (.slice A m c)).run P w=.ok (.string (str l)) w:=by
 have O:l.length=m:=by have:=hr.1;rw [Jlm]at this;omega
 cases A with
 | none=>
  have J:l=[]:=by
   rcases Nat.eq_zero_or_pos l.length with h|h
   .exact List.eq_nil_of_length_eq_zero h
   .obtain ⟨_,C,_⟩:=hr.2 (by rw [Jlm];exact h);cases C
  subst J;exact run_convert_bytes_nil w src e hs he m c dst hdst
 | some ad=>
  rcases Nat.eq_zero_or_pos l.length with h|h
  .have J:l=[]:=List.eq_nil_of_length_eq_zero h;subst J;have G:m=0:=by simpa using O.symm
   subst G;rw [run_convert_bytes_string w src dst e _ 0 c hs he hdst];simp [Conv.bytesToString,loadCells,loadCellsFrom,str];rfl
  .obtain ⟨Z,C,hb,U⟩:=hr.2 (by rw [Jlm];exact h);injection C with C
   subst C;have u:ad.spot=none:=by
    have h0:=U 0 _ (Qwv h);rw [add_zero]at h0;unfold World.cell? at h0;split at h0
    .split at h0
     .cases h0
     .rename_i h3;simpa using h3
    .cases h0
   obtain ⟨b,o,sp⟩:=ad;simp only at u;subst u;have:=run_convert_bytes_arg (P:=P) w src e hs he b o m c (l.map λc=>(c.toNat:Int)) (by simpa using O) (λi hi=>by
    have h0:=U i _ (Qwv om);rw [Vo]at h0;rw [h0];have:i<l.length:=om
    simp [List.getD,List.getElem?_eq_getElem this]) dst hdst
   rw [this];congr 2
   simp only [strOfNums,str,List.map_map];congr 2
   conv=>rhs;rw [<-List.map_id l]
   apply List.map_congr_left
   intro c _;simp
theorem Qvx(hT:TOk P tt){src dst:Nat}(hs:tk tt src=some k)(hk:k.desc=.slice e)(he:tk tt e=some k3)(hk3:k3.desc=.int .u8)(hdst:tk tt dst=some k2)(hk2:k2.desc=.string)(hx:ev al x=some (.slice A m c))(hr:Rd w 1 A m (Bc l))(hd:Nat.blt d n=true)(kk:WL P n ops Q rest ((d,.string (str l))::al) w): WL P n ops Q (⟨some d,.convert src dst x,ty,pos,aft,none⟩::rest) al w :=
 wop hd (λa o=>by simp [execOp,o.ev hx,Qcq (Kg hT hs hk rfl).1 (Vh hT he hk3 rfl) (Vh hT hdst hk2 rfl) hr]) kk
end
end Go.Wk
