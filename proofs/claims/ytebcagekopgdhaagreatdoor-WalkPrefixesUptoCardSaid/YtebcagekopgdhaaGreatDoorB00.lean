/- Part 0. -/
import Derived.Tactics
import Derived.Orders
import Derived.Below
import Derived.Laws.Entries
import Derived.Laws.Cells
import Derived.Laws.Slices
import Derived.Deep.Draws
import Derived.Deep.LoopGhost
import Derived.WalkKit
set_option linter.unusedVariables false
set_option maxRecDepth 100000
set_option maxHeartbeats 40000000
abbrev oT:=@of_decide_eq_true
abbrev oF:=@of_decide_eq_false
abbrev nL:=@Nat.le_trans
abbrev nM:=@Nat.lt_of_lt_of_le
abbrev dF:=@decide_eq_false
abbrev nO:=@Nat.mul_le_mul_right
abbrev mC:=@List.mem_cons_self
theorem om{p:Prop}(h:p:=by omega):p:=h
theorem kr{p:Prop}(h:p:=by kernel_rfl):p:=h
namespace Go.Wk
open Go.RowKit
abbrev AL:= List (Nat×Value)
def lk: AL->Nat->Option Value
 | [],_=>none
 | (k,v)::r,t=>match Nat.beq k t with
  | true=>some v
  | false=>lk r t
def ev(al:AL): Operand->Option Value
 | .tmp t=>lk al t
 | .const v=>some v
 | .global g=>some (.pointer (some ⟨g,0,none⟩))
 | .func f=>some (.func (.func f) #[] #[])
def evs(al:AL): List Operand->Option (List Value)
 | []=>some []
 | x::r=>match ev al x with
  | none=>none
  | some v=>match evs al r with
   | none=>none
   | some vs=>some (v::vs)
structure Fr(n:Nat)(al:AL)(a:Act): Prop where
 size:a.tmps.size=n
 defers:a.defers=[]
 has:∀ t v,lk al t=some v->a.tmps.getD t undef=v
theorem Jdb(d:Nat)(v:Value)(al:AL): lk ((d,v)::al) d=some v:=by simp [lk]
theorem Jcz{d t:Nat}(v:Value)(al:AL)(h:d≠t): lk ((d,v)::al) t=lk al t:=by
 have:Nat.beq d t=false:=by
  cases hb:Nat.beq d t with
  | false=>rfl
  | true=>exact absurd (Nat.eq_of_beq_eq_true hb) h
 simp [lk,this]
section
variable {n:Nat} {al al':AL} {a:Act}
theorem Fr.ev(h:Fr n al a){x:Operand}{v:Value}(hx:ev al x=some v): a.eval x=v:=by
 cases x with
 | tmp t=>exact h.has t v hx
 | const u=>simp only [Wk.ev,Option.some.injEq]at hx;subst hx;rfl
 | global g=>simp only [Wk.ev,Option.some.injEq]at hx;subst hx;rfl
 | func f=>simp only [Wk.ev,Option.some.injEq]at hx;subst hx;rfl
theorem Fr.evs(h:Fr n al a): ∀ {xs:List Operand} {vs:List Value},evs al xs=some vs->xs.map a.eval=vs
 | [],vs,hx=>by simp only [Wk.evs,Option.some.injEq]at hx;subst hx;rfl
 | x::r,vs,hx=>by
  unfold Wk.evs at hx;split at hx
  .cases hx
  .rename_i v hv;split at hx
   .cases hx
   .rename_i us hu;simp only [Option.some.injEq]at hx;subst hx;rw [List.map_cons,h.ev hv,h.evs hu]
theorem Fr.put(h:Fr n al a){d:Nat}(hd:d<n)(v:Value): Fr n ((d,v)::al) (a.put (some d) v):=by
 refine ⟨by simp [Act.put,h.size],h.defers,λt u o=>?_⟩;by_cases e:d=t
 .subst e;rw [Jdb]at o;simp only [Option.some.injEq]at o;subst o;simp [Act.put,Array.getElem?_setIfInBounds_self_of_lt (by rw [h.size];exact hd:d<a.tmps.size)]
 .rw [Jcz _ _ e]at o;have:=h.has t u o;simpa [Act.put,Array.getElem?_setIfInBounds_ne e] using this
def Sub(al' al:AL): Prop:=∀ t v,lk al' t=some v->lk al t=some v
theorem Fr.sub(h:Fr n al a)(hs:Sub al' al): Fr n al' a:=⟨h.size,h.defers,λt v ht=>h.has t v (hs t v ht)⟩
theorem Sub.nil: Sub [] al:=λt v h=>by cases h
theorem Sub.cons{t:Nat}{v:Value}(h1:lk al t=some v)(h:Sub al' al): Sub ((t,v)::al') al:=by
 intro s u o;by_cases e:t=s
 .subst e;rw [Jdb]at o;rw [<-o];exact h1
 .rw [Jcz _ _ e]at o;exact h s u o
theorem Sub.refl: Sub al al:=λ_ _ h=>h
end
def WC(P:Program)(n:Nat)(c:Code)(Q:Exit->Act->World->Prop)(al:AL)(w:World): Prop:=∀ a,Fr n al a->c.wp P Q a w
def WL(P:Program)(n:Nat)(ops:Array Oper)(Q:Exit->Act->World->Prop)(l:List Oper)(al:AL)(w:World): Prop:=∀ a,Fr n al a->wpList P ops Q l a w
def QX(n:Nat)(Q:Exit->Act->World->Prop)(e:Exit)(al:AL)(w:World): Prop:=∀ a,Fr n al a->Q e a w
section
variable {P:Program} {n:Nat} {al al':AL} {w:World} {Q Q':Exit->Act->World->Prop} {ops:Array Oper} {rest:List Oper}
theorem WL.sub{l:List Oper}(hs:Sub al' al)(h:WL P n ops Q l al' w): WL P n ops Q l al w:=λa o=>h a (o.sub hs)
theorem wseq{x y:Code}(h:WC P n x (Exit.then (y.wp P Q) Q) al w): WC P n (.seq x y) Q al w:=λa o=>wp_seq (h a o)
theorem wskip(h:QX n Q .normal al w): WC P n .skip Q al w:=λa o=>wp_skip (h a o)
theorem wexit{id:Nat}(h:QX n Q (.exit id) al w): WC P n (.exit id) Q al w:=λa o=>wp_exit (h a o)
theorem wret(h:QX n Q .ret al w): WC P n .ret Q al w:=λa o=>wp_ret (h a o)
theorem Qkh{id:Nat}{c:Code}(h:WC P n c (Exit.inBlock id Q) al w): WC P n (.block id c) Q al w:=λa o=>wp_block (h a o)
theorem Qzm{id:Nat}{l:List Oper}(h:WL P n l.toArray Q l al w): WC P n (.region id l.toArray false) Q al w:=λa o=>wp_region_lit (h a o)
theorem Jh(h:QX n Q .normal al w): WL P n ops Q [] al w:=λa o=>h a o
theorem wcond{c:Operand}{x y:Code}{b:Bool}(hc:ev al c=some (.bool b))(ht:b=true->WC P n x Q al w)(hf:b=false->WC P n y Q al w):
  WC P n (.cond c x y) Q al w:=λa o=>by
 have u:=o.ev hc;cases b
 .exact wp_cond_false u (hf rfl a o)
 .exact wp_cond_true u (ht rfl a o)
theorem Jhp{c:Operand}{x y:Code}(hc:ev al c=some (.bool true))(h:WC P n x Q al w): WC P n (.cond c x y) Q al w:=λa o=>wp_cond_true (o.ev hc) (h a o)
theorem Jhq{c:Operand}{x y:Code}(hc:ev al c=some (.bool false))(h:WC P n y Q al w): WC P n (.cond c x y) Q al w:=λa o=>wp_cond_false (o.ev hc) (h a o)
theorem Qkb{c:Operand}{x y:Code}{b:Bool}(hc:ev al c=some (.bool b))(hb:b=true)(h:WC P n x Q al w): WC P n (.cond c x y) Q al w:=by subst hb;exact Jhp hc h
theorem Qzz{c:Operand}{x y:Code}{b:Bool}(hc:ev al c=some (.bool b))(hb:b=false)(h:WC P n y Q al w): WC P n (.cond c x y) Q al w:=by subst hb;exact Jhq hc h
theorem qnext{y:Code}(h:WC P n y Q' al w): QX n (Exit.then (y.wp P Q') Q) .normal al w:=h
theorem qret{y:Act->World->Prop}(h:QX n Q .ret al w): QX n (Exit.then y Q) .ret al w:=h
theorem qexit{y:Act->World->Prop}{id:Nat}(h:QX n Q (.exit id) al w): QX n (Exit.then y Q) (.exit id) al w:=h
theorem Qnb{id:Nat}(h:QX n Q .normal al w): QX n (Exit.inBlock id Q) .normal al w:=h
theorem bret{id:Nat}(h:QX n Q .ret al w): QX n (Exit.inBlock id Q) .ret al w:=h
theorem bexit{id:Nat}(h:QX n Q .normal al w): QX n (Exit.inBlock id Q) (.exit id) al w:=λa o=>by
 simp only [Exit.inBlock,if_true];exact h a o
theorem Qmz{id id':Nat}(hne:Nat.beq id' id=false)(h:QX n Q (.exit id') al w): QX n (Exit.inBlock id Q) (.exit id') al w:=λa o=>by
 have:id'≠id:=by intro e;subst e;simp at hne
 simp only [Exit.inBlock,this,if_false];exact h a o
theorem Jkv{σ:Type}{c:Code}(fr:σ->AL)(I:σ->World->Prop)(μ:σ->Nat)(s₀:σ)(h₀:Sub (fr s₀) al)(hI:I s₀ w)(round:∀ s w,I s w->WC P n c (Exit.then (λa' w'=>∃ s',Fr n (fr s') a'/\I s' w'/\μ s'<μ s) Q) (fr s) w): WC P n (.loop c) Q al w:=by
 intro a C;refine wp_loop_ghost (λk a w=>∃ s,Fr n (fr s) a/\I s w/\μ s=k) (μ s₀) ⟨s₀,C.sub h₀,hI,rfl⟩ ?_;rintro k a w ⟨s,u,hi,rfl⟩;refine wp_mono (round s w hi a u) ?_;intro e a' w' o;cases e with
 | normal=>obtain ⟨s',O,J,G⟩:=o;exact ⟨_,G,s',O,J,rfl⟩
 | exit id=>exact o
 | goto l=>exact o
 | ret=>exact o
 | panic c=>exact o
 | outgrown=>exact o
theorem Qd{α:Type}{c:Code}(fr:α->AL)(I:α->World->Prop)(μ:α->Nat)(x₀:α)(h₀:Sub (fr x₀) al)(hI:I x₀ w)(round:∀ x w,I x w->WC P n c (Exit.then (λa' w'=>∃ x',Fr n (fr x') a'/\I x' w'/\μ x'<μ x) Q) (fr x) w): WC P n (.loop c) Q al w:=by
 refine Jkv (σ:=α) (λs=>fr s) (λs=>I s) (λs=>μ s) (x₀) h₀ hI ?_;intro s w hi a u;refine wp_mono (round s w hi a u) ?_;intro e a' w' o;cases e with
 | normal=>obtain ⟨x',h⟩:=o;exact ⟨(x'),h⟩
 | exit id=>exact o
 | goto l=>exact o
 | ret=>exact o
 | panic c=>exact o
 | outgrown=>exact o
theorem Qw{α:Type}{fr:α->AL}{I:α->World->Prop}{μ:α->Nat}{m:Nat}(x':α)(hs:Sub (fr x') al)(hi:I x' w)(hm:μ x'<m):
  QX n (Exit.then (λa' w'=>∃ x',Fr n (fr x') a'/\I x' w'/\μ x'<m) Q) .normal al w:=λa o=>⟨x',o.sub hs,hi,hm⟩
theorem Jt{α:Type}{β:Type}{c:Code}(fr:α->β->AL)(I:α->β->World->Prop)(μ:α->β->Nat)(x₀:α)(y₀:β)(h₀:Sub (fr x₀ y₀) al)(hI:I x₀ y₀ w)(round:∀ x y w,I x y w->WC P n c (Exit.then (λa' w'=>∃ x' y',Fr n (fr x' y') a'/\I x' y' w'/\μ x' y'<μ x y) Q) (fr x y) w): WC P n (.loop c) Q al w:=by
 refine Jkv (σ:=α×β) (λs=>fr (s.1) (s.2)) (λs=>I (s.1) (s.2)) (λs=>μ (s.1) (s.2)) (x₀,y₀) h₀ hI ?_;intro s w hi a u;refine wp_mono (round (s.1) (s.2) w hi a u) ?_;intro e a' w' o;cases e with
 | normal=>obtain ⟨x',y',h⟩:=o;exact ⟨(x',y'),h⟩
 | exit id=>exact o
 | goto l=>exact o
 | ret=>exact o
 | panic c=>exact o
 | outgrown=>exact o
theorem Jg{α:Type}{β:Type}{fr:α->β->AL}{I:α->β->World->Prop}{μ:α->β->Nat}{m:Nat}(x':α)(y':β)(hs:Sub (fr x' y') al)(hi:I x' y' w)(hm:μ x' y'<m):
  QX n (Exit.then (λa' w'=>∃ x' y',Fr n (fr x' y') a'/\I x' y' w'/\μ x' y'<m) Q) .normal al w:=λa o=>⟨x',y',o.sub hs,hi,hm⟩
theorem Xr{α:Type}{β:Type}{γ:Type}{c:Code}(fr:α->β->γ->AL)(I:α->β->γ->World->Prop)(μ:α->β->γ->Nat)(x₀:α)(y₀:β)(z₀:γ)(h₀:Sub (fr x₀ y₀ z₀) al)(hI:I x₀ y₀ z₀ w)(round:∀ x y z w,I x y z w->WC P n c (Exit.then (λa' w'=>∃ x' y' z',Fr n (fr x' y' z') a'/\I x' y' z' w'/\μ x' y' z'<μ x y z) Q) (fr x y z) w): WC P n (.loop c) Q al w:=by
 refine Jkv (σ:=α×β×γ) (λs=>fr (s.1) (s.2.1) (s.2.2)) (λs=>I (s.1) (s.2.1) (s.2.2)) (λs=>μ (s.1) (s.2.1) (s.2.2)) (x₀,y₀,z₀) h₀ hI ?_;intro s w hi a u;refine wp_mono (round (s.1) (s.2.1) (s.2.2) w hi a u) ?_;intro e a' w' o;cases e with
 | normal=>obtain ⟨x',y',z',h⟩:=o;exact ⟨(x',y',z'),h⟩
 | exit id=>exact o
 | goto l=>exact o
 | ret=>exact o
 | panic c=>exact o
 | outgrown=>exact o
theorem Qa{α:Type}{β:Type}{γ:Type}{fr:α->β->γ->AL}{I:α->β->γ->World->Prop}{μ:α->β->γ->Nat}{m:Nat}(x':α)(y':β)(z':γ)(hs:Sub (fr x' y' z') al)(hi:I x' y' z' w)(hm:μ x' y' z'<m):
  QX n (Exit.then (λa' w'=>∃ x' y' z',Fr n (fr x' y' z') a'/\I x' y' z' w'/\μ x' y' z'<m) Q) .normal al w:=λa o=>⟨x',y',z',o.sub hs,hi,hm⟩
theorem Jjg{α:Type}{β:Type}{γ:Type}{δ:Type}{c:Code}(fr:α->β->γ->δ->AL)(I:α->β->γ->δ->World->Prop)(μ:α->β->γ->δ->Nat)(x₀:α)(y₀:β)(z₀:γ)(u₀:δ)(h₀:Sub (fr x₀ y₀ z₀ u₀) al)(hI:I x₀ y₀ z₀ u₀ w)(round:∀ x y z u w,I x y z u w->WC P n c (Exit.then (λa' w'=>∃ x' y' z' u',Fr n (fr x' y' z' u') a'/\I x' y' z' u' w'/\μ x' y' z' u'<μ x y z u) Q) (fr x y z u) w): WC P n (.loop c) Q al w:=by
 refine Jkv (σ:=α×β×γ×δ) (λs=>fr (s.1) (s.2.1) (s.2.2.1) (s.2.2.2)) (λs=>I (s.1) (s.2.1) (s.2.2.1) (s.2.2.2)) (λs=>μ (s.1) (s.2.1) (s.2.2.1) (s.2.2.2)) (x₀,y₀,z₀,u₀) h₀ hI ?_;intro s w hi a C;refine wp_mono (round (s.1) (s.2.1) (s.2.2.1) (s.2.2.2) w hi a C) ?_;intro e a' w' o;cases e with
 | normal=>obtain ⟨x',y',z',u',h⟩:=o;exact ⟨(x',y',z',u'),h⟩
 | exit id=>exact o
 | goto l=>exact o
 | ret=>exact o
 | panic c=>exact o
 | outgrown=>exact o
theorem Gy{α:Type}{β:Type}{γ:Type}{δ:Type}{fr:α->β->γ->δ->AL}{I:α->β->γ->δ->World->Prop}{μ:α->β->γ->δ->Nat}{m:Nat}(x':α)(y':β)(z':γ)(u':δ)(hs:Sub (fr x' y' z' u') al)(hi:I x' y' z' u' w)(hm:μ x' y' z' u'<m):
  QX n (Exit.then (λa' w'=>∃ x' y' z' u',Fr n (fr x' y' z' u') a'/\I x' y' z' u' w'/\μ x' y' z' u'<m) Q) .normal al w:=λa o=>⟨x',y',z',u',o.sub hs,hi,hm⟩
theorem Qzq{x y:Code}(fr:AL)(I:World->Prop)(h1:WC P n x (Exit.then (λa w=>Fr n fr a/\I w) Q) al w)(h2:∀ w,I w->WC P n y Q' fr w): WC P n x (Exit.then (y.wp P Q') Q) al w:=by
 intro a u;refine wp_mono (h1 a u) ?_;intro e C w' o;cases e with
 | normal=>exact h2 w' o.2 C o.1
 | exit id=>exact o
 | goto l=>exact o
 | ret=>exact o
 | panic c=>exact o
 | outgrown=>exact o
theorem Jns{fr:AL}{I:World->Prop}(hs:Sub fr al)(hi:I w): QX n (Exit.then (λa w=>Fr n fr a/\I w) Q) .normal al w:=λa o=>⟨o.sub hs,hi⟩
theorem Xa{α:Type}{c d:Code}(fr:α->AL)(I:α->World->Prop)(h1:WC P n c (Exit.then (λa w=>∃ x,Fr n (fr x) a/\I x w) Q) al w)(h2:∀ x w,I x w->WC P n d Q' (fr x) w): WC P n c (Exit.then (d.wp P Q') Q) al w:=by
 intro a u;refine wp_mono (h1 a u) ?_;intro e J w' o;cases e with
 | normal=>obtain ⟨x,G,C⟩:=o;exact h2 x w' C J G
 | exit id=>exact o
 | goto l=>exact o
 | ret=>exact o
 | panic c=>exact o
 | outgrown=>exact o
theorem Jb{α:Type}{fr:α->AL}{I:α->World->Prop}(x:α)(hs:Sub (fr x) al)(hi:I x w): QX n (Exit.then (λa w=>∃ x,Fr n (fr x) a/\I x w) Q) .normal al w:=λa o=>⟨x,o.sub hs,hi⟩
theorem Kr{α:Type}{β:Type}{c d:Code}(fr:α->β->AL)(I:α->β->World->Prop)(h1:WC P n c (Exit.then (λa w=>∃ x y,Fr n (fr x y) a/\I x y w) Q) al w)(h2:∀ x y w,I x y w->WC P n d Q' (fr x y) w): WC P n c (Exit.then (d.wp P Q') Q) al w:=by
 intro a u;refine wp_mono (h1 a u) ?_;intro e J w' o;cases e with
 | normal=>obtain ⟨x,y,G,C⟩:=o;exact h2 x y w' C J G
 | exit id=>exact o
 | goto l=>exact o
 | ret=>exact o
 | panic c=>exact o
 | outgrown=>exact o
theorem Zn{α:Type}{β:Type}{fr:α->β->AL}{I:α->β->World->Prop}(x:α)(y:β)(hs:Sub (fr x y) al)(hi:I x y w): QX n (Exit.then (λa w=>∃ x y,Fr n (fr x y) a/\I x y w) Q) .normal al w:=λa o=>⟨x,y,o.sub hs,hi⟩
theorem Jhl{α:Type}{β:Type}{γ:Type}{c d:Code}(fr:α->β->γ->AL)(I:α->β->γ->World->Prop)(h1:WC P n c (Exit.then (λa w=>∃ x y z,Fr n (fr x y z) a/\I x y z w) Q) al w)(h2:∀ x y z w,I x y z w->WC P n d Q' (fr x y z) w): WC P n c (Exit.then (d.wp P Q') Q) al w:=by
 intro a u;refine wp_mono (h1 a u) ?_;intro e J w' o;cases e with
 | normal=>obtain ⟨x,y,z,G,C⟩:=o;exact h2 x y z w' C J G
 | exit id=>exact o
 | goto l=>exact o
 | ret=>exact o
 | panic c=>exact o
 | outgrown=>exact o
theorem Jwl{α:Type}{β:Type}{γ:Type}{fr:α->β->γ->AL}{I:α->β->γ->World->Prop}(x:α)(y:β)(z:γ)(hs:Sub (fr x y z) al)(hi:I x y z w): QX n (Exit.then (λa w=>∃ x y z,Fr n (fr x y z) a/\I x y z w) Q) .normal al w:=λa o=>⟨x,y,z,o.sub hs,hi⟩
end
section
variable {P:Program} {n:Nat} {al:AL} {w:World}
def al0: Nat->List Value->AL
 | _,[]=>[]
 | i,v::r=>(i,v)::al0 (i+1) r
theorem Jrm: ∀ (l:List Value) (i t:Nat) (v:Value),lk (al0 i l) t=some v->i<=t/\l[t-i]?=some v
 | [],_,_,_,h=>by cases h
 | u::r,i,t,v,h=>by
  by_cases e:i=t
  .subst e;simp only [al0]at h;rw [Jdb]at h;simpa using h
  .simp only [al0]at h;rw [Jcz _ _ e]at h;obtain ⟨h1,h2⟩:=Jrm r (i+1) t v h;refine ⟨om,?_⟩;obtain ⟨k,hk⟩:∃ k,t-i=k+1:=⟨t-i-1,om⟩;rw [hk,List.getElem?_cons_succ,<-h2];congr 1
   omega
theorem enter{f:FuncId}{fn:Func}{c:Code}{args:List Value}{R:Ending->World->Prop}(hf:P.funcs[f]?=some fn)(hb:fn.body=some c)(hn:fn.ntmps=n)(hle:Nat.ble args.length n=true)(h:WC P n c (bodyPost P fn R) (al0 0 args) w): Calls P f args.toArray w R:=by
 have C:args.length<=n:=by simpa using hle
 refine calls_of_wp hf hb (h _ ⟨?_,rfl,λt v ht=>?_⟩)
 .simp [hn];omega
 .obtain ⟨_,u⟩:=Jrm args 0 t v ht;simp only [Nat.sub_zero]at u;have o:t<args.length:=(List.getElem?_eq_some_iff.1 u).1;simp [Array.getElem?_append,o];exact (List.getElem?_eq_some_iff.1 u).2
theorem Qbb{fn:Func}{R:Ending->World->Prop}{t:Nat}{v:Value}(hr:fn.results = #[.tmp t])(ht:lk al t=some v)(h:R (.returned v) w): QX n (bodyPost P fn R) .ret al w:=λa o=>
 bodyPost_ret (v:=v) (by rw [results_tmp hr,o.has t v ht]) o.defers h
theorem Qyz{fn:Func}{R:Ending->World->Prop}{t u:Nat}{x y:Value}(hr:fn.results = #[.tmp t,.tmp u])(ht:lk al t=some x)(hu:lk al u=some y)(h:R (.returned (.tuple #[x,y])) w): QX n (bodyPost P fn R) .ret al w:=λa o=>
 bodyPost_ret (v:=.tuple #[x,y]) (by rw [results_tmp2 hr,o.has t x ht,o.has u y hu]) o.defers h
theorem Qyx{fn:Func}{R:Ending->World->Prop}{t u s:Nat}{x y z:Value}(hr:fn.results = #[.tmp t,.tmp u,.tmp s])(ht:lk al t=some x)(hu:lk al u=some y)(hs:lk al s=some z)(h:R (.returned (.tuple #[x,y,z])) w): QX n (bodyPost P fn R) .ret al w:=λa o=>
 bodyPost_ret (v:=.tuple #[x,y,z]) (by simp [results,hr];exact ⟨by simpa using o.has t x ht,by simpa using o.has u y hu,by simpa using o.has s z hs⟩) o.defers h
end
structure TK where
 desc: TypeDesc
 size:Nat:=1
 esz:Nat:=0
 offs:List Nat:=[]
 zero:List Value:=[]
abbrev TT:= List (Nat×TK)
def tk: TT->Nat->Option TK
 | [],_=>none
 | (k,v)::r,t=>match Nat.beq k t with
  | true=>some v
  | false=>tk r t
def Zc(P:Program)(t:TypeId): Option Nat:=(P.info? t).map (·.size)
def Qt(P:Program)(t:TypeId): Option Value:=(P.info? t).bind (·.zero)
def Jqw(P:Program): List Field->List Nat->Bool
 | [],[]=>true
 | f::r,o::s=>Nat.beq f.offset o && (match Zc P f.type with|some z=>Nat.blt 0 z|none=>false) && Jqw P r s
 | _,_=>false
def Yb(P:Program)(t:Nat)(k:TK): Prop :=
 match k.desc with
 | .invalid=>∃ fs,P.underlying t=some (.struct fs)/\Jqw P fs.toList k.offs=true/\Zc P t=some k.size
 | .slice e=>P.underlying t=some (.slice e)/\Zc P e=some k.esz/\Zc P t=some k.size
 | .array m e=>P.underlying t=some (.array m e)/\Zc P e=some k.esz/\Zc P t=some k.size
 | d=>P.underlying t=some d/\Zc P t=some k.size
def TOk(P:Program): TT->Prop
 | []=>True
 | p::r=>Yb P p.1 p.2/\TOk P r
theorem TOk.at{P:Program}: ∀ {tt:TT} (_:TOk P tt) {t:Nat} {k:TK},tk tt t=some k->Yb P t k
 | (p1,p2)::r,h,t,k,hk=>by
  unfold tk at hk;split at hk
  .rename_i hb;have e:p1=t:=Nat.eq_of_beq_eq_true hb;simp only [Option.some.injEq]at hk;subst hk;subst e;exact h.1
  .exact TOk.at h.2 hk
def bop(op:BinOp)(u v:Value): Option Value :=
 match u,v with
 | .int k a,.int k' b=>
  if k=k' then
   match op with
   | .add=>some (.int k (k.wrap (a+b)))
   | .sub=>some (.int k (k.wrap (a-b)))
   | .mul=>some (.int k (k.wrap (a*b)))
   | .and=>some (.int k (bits .and k a b))
   | .or=>some (.int k (bits .or k a b))
   | .xor=>some (.int k (bits .xor k a b))
   | .andNot=>some (.int k (bits .andNot k a b))
   | .eql=>some (.bool (a == b))
   | .neq=>some (.bool (a != b))
   | .lss=>some (.bool (decide (a<b)))
   | .leq=>some (.bool (decide (a<=b)))
   | .gtr=>some (.bool (decide (b<a)))
   | .geq=>some (.bool (decide (b<=a)))
   | _=>none
  else none
 | .string s,.string t=>
  match op with
  | .eql=>some (.bool (s.toList == t.toList))
  | .neq=>some (.bool (!(s.toList == t.toList)))
  | .lss=>some (.bool (Op.bytesLess s.toList t.toList))
  | .leq=>some (.bool (Op.bytesLess s.toList t.toList || s.toList == t.toList))
  | .gtr=>some (.bool (!(Op.bytesLess s.toList t.toList || s.toList == t.toList)))
  | .geq=>some (.bool (!(Op.bytesLess s.toList t.toList)))
  | _=>none
 | _,_=>none
def uop(op:UnOp)(u:Value): Option Value :=
 match op,u with
 | .not,.bool b=>some (.bool (!b))
 | .neg,.int k a=>some (.int k (k.wrap (0-a)))
 | .xor,.int k a=>some (.int k (bits .xor k (if k.signed then -1 else k.max) a))
 | _,_=>none
def nth{α:Type}: List α->Nat->Option α
 | [],_=>none
 | x::_,0=>some x
 | _::r,n+1=>nth r n
theorem Xq{α:Type}: ∀ (l:List α) (i:Nat),nth l i=l[i]?
 | [],_=>by simp [nth]
 | x::r,0=>by simp [nth]
 | x::r,n+1=>by simp [nth,Xq r n]
def pv(tt:TT)(e:Operand->Option Value)(op:Op): Option Value :=
 match op with
 | .move x=>e x
 | .assign x=>e x
 | .pick c a b=>match e c with
  | some (.bool true)=>e a
  | some (.bool false)=>e b
  | _=>none
 | .binOp op _ x y _=>match e x with
  | some u=>match e y with
   | some v=>bop op u v
   | none=>none
  | none=>none
 | .unOp op _ x=>match e x with
  | some u=>uop op u
  | none=>none
 | .convert src dst x=>match (tk tt src).map TK.desc with
  | some (.int _)=>match (tk tt dst).map TK.desc with
   | some (.int k)=>match e x with
    | some (.int _ m)=>some (.int k (k.wrap m))
    | _=>none
   | _=>none
  | _=>none
 | .extract t i=>match e t with
  | some (.tuple vs)=>nth vs.toList i
  | _=>none
 | .fieldAddr s x f=>match tk tt s with
  | some ⟨.invalid,_,_,offs,_⟩=>match nth offs f with
   | some o=>match e x with
    | some (.pointer (some a))=>some (.pointer (some (a.add o)))
    | _=>none
   | none=>none
  | _=>none
 | .nilCheck x=>match e x with
  | some (.pointer (some a))=>some (.pointer (some a))
  | _=>none
 | .call c=>match c.callee with
  | .builtin .len=>match c.args.toList with
   | [x]=>match c.argTypes.toList with
    | [t]=>match (tk tt t).map TK.desc with
     | some (.slice _)=>match e x with
      | some (.slice _ n _)=>some (.int .i64 (n:Int))
      | _=>none
     | some .string=>match e x with
      | some (.string s)=>some (.int .i64 (s.size:Int))
      | _=>none
     | _=>none
    | _=>none
   | _=>none
  | .builtin .min=>match c.args.toList with
   | [x,y]=>match e x with
    | some (.int k a)=>match e y with
     | some (.int k' b)=>if k=k' then some (.int k (if b<a then b else a)) else none
     | _=>none
    | _=>none
   | _=>none
  | .builtin .max=>match c.args.toList with
   | [x,y]=>match e x with
    | some (.int k a)=>match e y with
     | some (.int k' b)=>if k=k' then some (.int k (if a<b then b else a)) else none
     | _=>none
    | _=>none
   | _=>none
  | _=>none
 | .makeFunc fn first captured=>match evl e first.toList with
  | some us=>match evl e captured.toList with
   | some vs=>some (.func fn us.toArray vs.toArray)
   | none=>none
  | none=>none
 | _=>none
where
 evl (e:Operand->Option Value):List Operand->Option (List Value)
  | []=>some []
  | x::r=>match e x with
   | none=>none
   | some v=>match evl e r with
    | none=>none
    | some vs=>some (v::vs)
theorem Jdz{e:Operand->Option Value}{ρ:Operand->Value}(he:∀ x v,e x=some v->ρ x=v): ∀ {xs:List Operand} {vs:List Value},pv.evl e xs=some vs->xs.map ρ=vs
 | [],vs,hx=>by simp only [pv.evl,Option.some.injEq]at hx;subst hx;rfl
 | x::r,vs,hx=>by
  unfold pv.evl at hx;split at hx
  .cases hx
  .rename_i v hv;split at hx
   .cases hx
   .rename_i us hu;simp only [Option.some.injEq]at hx;subst hx;rw [List.map_cons,he x v hv,Jdz he hu]
section
variable {P:Program} (w:World)
theorem Qvv{op:BinOp}{t:TypeId}{x y:Operand}{u v r:Value}(h:bop op u v=some r):
  (do eqGuard op t x y u v;binOp op t u v:Sem Value).run P w=.ok r w:=by
 unfold bop at h;split at h
 .rename_i k a k' b;split at h
  .rename_i hk;subst hk;have o:(eqGuard op t x y (.int k a) (.int k b)).run P w=.ok () w:=by unfold eqGuard;split<;>rfl
   rw [Sem.run_bind,o,Result.andThen_ok];cases op<;>simp only [Option.some.injEq,reduceCtorEq]at h<;>subst h<;>simp [binOp,Op.intArith,Op.intBits,Op.intCmp,bits]
  .cases h
 .rename_i s z;have o:(eqGuard op t x y (.string s) (.string z)).run P w=.ok () w:=by unfold eqGuard;split<;>rfl
  rw [Sem.run_bind,o,Result.andThen_ok];cases op<;>simp only [Option.some.injEq,reduceCtorEq]at h<;>subst h<;>simp [binOp,Op.stringOp]
 .cases h
theorem Qvq{op:UnOp}{u r:Value}(h:uop op u=some r): (Op.unary op u).run P w=.ok r w:=by
 unfold uop at h;split at h<;>simp only [Option.some.injEq,reduceCtorEq]at h<;>subst h<;>simp [Op.unary,Op.intArith,Op.intBits,bits]
theorem Jtd: ∀ {fs:List Field} {offs:List Nat} {i o:Nat},Jqw P fs offs=true->nth offs i=some o->∃ f z,fs[i]?=some f/\f.offset=o/\Zc P f.type=some z/\0<z
 | [],[],_,_,_,h=>by cases h
 | [],_::_,_,_,h,_=>by cases h
 | _::_,[],_,_,h,_=>by cases h
 | f::r,p::s,0,o,h,hn=>by
  simp only [nth,Option.some.injEq]at hn;subst hn;simp only [Jqw,Bool.and_eq_true]at h;obtain ⟨⟨h1,h2⟩,_⟩:=h;cases hz:Zc P f.type with
  | none=>rw [hz]at h2;cases h2
  | some z=>rw [hz]at h2;exact ⟨f,z,rfl,Nat.eq_of_beq_eq_true h1,hz,by (have:1<=z:=by simpa [Nat.blt] using h2);(omega)⟩
 | f::r,p::s,i+1,o,h,hn=>by
  simp only [nth]at hn;simp only [Jqw,Bool.and_eq_true]at h;obtain ⟨f',z,h1,h2⟩:=Jtd (i:=i) h.2 hn;exact ⟨f',z,by simpa using h1,h2⟩
theorem Ze{t:TypeId}{z:Nat}(h:Zc P t=some z): (sizeOf t).run P w=.ok z w:=by
 unfold Zc at h;cases hi:P.info? t with
 | none=>simp [hi]at h
 | some i=>simp [hi]at h;simp [sizeOf,typeInfo,hi,h]
theorem Gb{tt:TT}(hT:TOk P tt){o:Oper}{ρ:Operand->Value}{e:Operand->Option Value}(he:∀ x v,e x=some v->ρ x=v){v:Value}(h:pv tt e o.op=some v):
  (execOp ρ o).run P w=.ok (.value v) w:=by
 unfold execOp;generalize ho:o.op=op at h
 cases op with
 | move x=>simp only [pv]at h;simp [he x v h]
 | assign x=>simp only [pv]at h;simp [he x v h]
 | pick c a b=>
  simp only [pv]at h;split at h
  .rename_i hc;simp [he c _ hc,asBool,he a v h]
  .rename_i hc;simp [he c _ hc,asBool,he b v h]
  .cases h
 | binOp op t x y ty=>
  simp only [pv]at h;split at h
  .rename_i u O;split at h
   .rename_i r G;have:=Qvv (P:=P) w (t:=t) (x:=x) (y:=y) h;simp only [Sem.run_bind,he x u O,he y r G]at this ⊢;rw [this];rfl
   .cases h
  .cases h
 | unOp op t x=>
  simp only [pv]at h;split at h
  .rename_i u O;simp only [Sem.run_bind,he x u O,Qvq w h,Result.andThen_ok];rfl
  .cases h
 | convert src dst x=>
  simp only [pv]at h;split at h
  .rename_i k0 hs;split at h
   .rename_i k hd;split at h
    .rename_i k2 m hx;simp only [Option.some.injEq]at h;subst h;have J:P.underlying src=some (.int k0):=by
      obtain ⟨r,G,C⟩:=Option.map_eq_some_iff.1 hs;have:=hT.at G;unfold Yb at this;rw [C]at this;exact this.1
     have h2:P.underlying dst=some (.int k):=by
      obtain ⟨r,G,C⟩:=Option.map_eq_some_iff.1 hd;have:=hT.at G;unfold Yb at this;rw [C]at this;exact this.1
     simp [he x _ hx,convert,run_underlying J,run_underlying h2,Conv.intToInt]
    .cases h
   .cases h
  .cases h
 | extract t i=>
  simp only [pv]at h;split at h
  .rename_i vs hv;rw [Xq]at h;have h':vs[i]?=some v:=by rw [<-h];simp
   simp [he t _ hv,Instr.extract,h']
  .cases h
 | fieldAddr s x f=>
  simp only [pv]at h;split at h
  .rename_i q1 q2 offs q3 hs;split at h
   .rename_i o' hn;split at h
    .rename_i a hx;simp only [Option.some.injEq]at h;subst h;obtain ⟨fs,O,hf,_⟩:∃ fs,P.underlying s=some (.struct fs)/\Jqw P fs.toList offs=true/\Zc P s=some q1:=hT.at hs;obtain ⟨fl,z,J,h2,h3,h4⟩:=Jtd (P:=P) hf hn;have U:fs[f]?=some fl:=by rw [<-J];simp
     have hz:¬ z=0:=om
     simp [he x _ hx,Instr.fieldAt,run_underlying O,U,Instr.sureAddr,fieldPlace,Ze w h3,hz,h2]
    .cases h
   .cases h
  .cases h
 | nilCheck x=>
  simp only [pv]at h;split at h
  .rename_i a hx;simp only [Option.some.injEq]at h;subst h;simp [he x _ hx]
  .cases h
 | call c=>
  simp only [pv]at h;split at h
  .rename_i hcal;split at h
   .rename_i x hargs;split at h
    .rename_i t hty;have Z:c.args = #[x]:=by rw [<-Array.toList_inj];exact hargs
     have hb:c.argTypes = #[t]:=by rw [<-Array.toList_inj];exact hty
     split at h
     .rename_i e' hk;split at h
      .rename_i A m c' hx;simp only [Option.some.injEq]at h;subst h;have J:P.underlying t=some (.slice e'):=by
        obtain ⟨r,G,C⟩:=Option.map_eq_some_iff.1 hk;have:=hT.at G;unfold Yb at this;rw [C]at this;exact this.1
       simp [resolve,hcal,Z,hb,invoke,builtin,Builtin.len_,run_underlying J,he x _ hx,goInt]
      .cases h
     .rename_i hk;split at h
      .rename_i s hx;simp only [Option.some.injEq]at h;subst h;have J:P.underlying t=some .string:=by
        obtain ⟨r,G,C⟩:=Option.map_eq_some_iff.1 hk;have:=hT.at G;unfold Yb at this;rw [C]at this;exact this.1
       simp [resolve,hcal,Z,hb,invoke,builtin,Builtin.len_,run_underlying J,he x _ hx,goInt]
      .cases h
     .cases h
    .cases h
   .cases h
  .rename_i hcal;split at h
   .rename_i x y hargs;have Z:c.args = #[x,y]:=by rw [<-Array.toList_inj];exact hargs
    split at h
    .rename_i k a hx;split at h
     .rename_i k' b hy;split at h
      .simp only [Option.some.injEq]at h;subst h;simp [resolve,hcal,Z,invoke,builtin,Builtin.min_,Builtin.min2,he x _ hx,he y _ hy]
      .cases h
     .cases h
    .cases h
   .cases h
  .rename_i hcal;split at h
   .rename_i x y hargs;have Z:c.args = #[x,y]:=by rw [<-Array.toList_inj];exact hargs
    split at h
    .rename_i k a hx;split at h
     .rename_i k' b hy;split at h
      .simp only [Option.some.injEq]at h;subst h;simp [resolve,hcal,Z,invoke,builtin,Builtin.max_,Builtin.max2,he x _ hx,he y _ hy]
      .cases h
     .cases h
    .cases h
   .cases h
  .cases h
 | makeFunc fn first captured=>
  simp only [pv]at h;split at h
  .rename_i us O;split at h
   .rename_i vs hv;simp only [Option.some.injEq]at h;subst h;have J:=Jdz he O;have h2:=Jdz he hv;have U:first.map ρ=us.toArray:=by rw [<-J,<-List.map_toArray,Array.toArray_toList]
    have a1:captured.map ρ=vs.toArray:=by rw [<-h2,<-List.map_toArray,Array.toArray_toList]
    simp [U,a1,Instr.makeFunc]
   .cases h
  .cases h
 | _=>simp [pv]at h
end
section
variable {P:Program} {n:Nat} {al:AL} {w:World} {Q:Exit->Act->World->Prop} {ops:Array Oper} {rest:List Oper}
variable {d ty:Nat} {op:Op} {pos:String} {aft:Array Edge}
theorem wop{v:Value}{w':World}(hd:Nat.blt d n=true)(h:∀ a,Fr n al a->(execOp a.eval ⟨some d,op,ty,pos,aft,none⟩).run P w=.ok (.value v) w')(k:WL P n ops Q rest ((d,v)::al) w'): WL P n ops Q (⟨some d,op,ty,pos,aft,none⟩::rest) al w:=λa u=>
 wpList_plain rfl λK C=>by
  have o:d<n:=by (have:d+1<=n:=by simpa [Nat.blt] using hd);(omega)
  unfold Oper.wp;rw [h a u,Oper.upon_value];exact C _ _ (k _ (u.put o v))
theorem Kp{w':World}(h:∀ a,Fr n al a->(execOp a.eval ⟨none,op,ty,pos,aft,none⟩).run P w=.ok .skip w')(k:WL P n ops Q rest al w'): WL P n ops Q (⟨none,op,ty,pos,aft,none⟩::rest) al w:=λa o=>
 wpList_plain rfl λK u=>by
  unfold Oper.wp;rw [h a o,Oper.upon_skip];exact u _ _ (k _ o)
theorem wp{tt:TT}(hT:TOk P tt){v:Value}(hv:pv tt (ev al) op=some v)(hd:Nat.blt d n=true)(k:WL P n ops Q rest ((d,v)::al) w):
  WL P n ops Q (⟨some d,op,ty,pos,aft,none⟩::rest) al w :=
 wop hd (λa C=>Gb w hT (λx u o=>C.ev o) hv) k
theorem wpn{tt:TT}(hT:TOk P tt){v:Value}(hv:pv tt (ev al) op=some v)(k:WL P n ops Q rest al w):
  WL P n ops Q (⟨none,op,ty,pos,aft,none⟩::rest) al w:=λa o=>
 wpList_plain rfl λK G=>by
  unfold Oper.wp;rw [Gb w hT (λx u C=>o.ev C) hv,Oper.upon_value];exact G _ _ (k _ o)
theorem wpe{tt:TT}(hT:TOk P tt){v v':Value}(hv:pv tt (ev al) op=some v)(hd:Nat.blt d n=true)(e:v=v')(k:WL P n ops Q rest ((d,v')::al) w):
  WL P n ops Q (⟨some d,op,ty,pos,aft,none⟩::rest) al w:=by subst e;exact wp hT hv hd k
theorem wadd{x y:Operand}{t yt:TypeId}{a b:Int}(hx:ev al x=some (.int .i64 a))(hy:ev al y=some (.int .i64 b))(hc:-9223372036854775808<=a+b/\a+b<=9223372036854775807)(hd:Nat.blt d n=true)(k:WL P n ops Q rest ((d,.int .i64 (a+b))::al) w): WL P n ops Q (⟨some d,.binOp .add t x y yt,ty,pos,aft,none⟩::rest) al w :=
 wpe (tt:=[]) trivial (v:=.int .i64 (IntKind.i64.wrap (a+b))) (by simp only [pv,hx,hy,bop,if_true]) hd (by rw [IntKind.wrap_i64];congr 1;omega) k
theorem wsub{x y:Operand}{t yt:TypeId}{a b:Int}(hx:ev al x=some (.int .i64 a))(hy:ev al y=some (.int .i64 b))(hc:-9223372036854775808<=a-b/\a-b<=9223372036854775807)(hd:Nat.blt d n=true)(k:WL P n ops Q rest ((d,.int .i64 (a-b))::al) w): WL P n ops Q (⟨some d,.binOp .sub t x y yt,ty,pos,aft,none⟩::rest) al w :=
 wpe (tt:=[]) trivial (v:=.int .i64 (IntKind.i64.wrap (a-b))) (by simp only [pv,hx,hy,bop,if_true]) hd (by rw [IntKind.wrap_i64];congr 1;omega) k
theorem wmul{x y:Operand}{t yt:TypeId}{a b:Int}(hx:ev al x=some (.int .i64 a))(hy:ev al y=some (.int .i64 b))(hc:-9223372036854775808<=a*b/\a*b<=9223372036854775807)(hd:Nat.blt d n=true)(k:WL P n ops Q rest ((d,.int .i64 (a*b))::al) w): WL P n ops Q (⟨some d,.binOp .mul t x y yt,ty,pos,aft,none⟩::rest) al w :=
 wpe (tt:=[]) trivial (v:=.int .i64 (IntKind.i64.wrap (a*b))) (by simp only [pv,hx,hy,bop,if_true]) hd (by rw [IntKind.wrap_i64];congr 1;omega) k
theorem wshl{x y:Operand}{t yt:TypeId}{k1 k2:IntKind}{a b:Int}(hx:ev al x=some (.int k1 a))(hy:ev al y=some (.int k2 b))(h0:0<=b)(hd:Nat.blt d n=true)(k:WL P n ops Q rest ((d,.int k1 (k1.wrap (a*2^(min b.toNat k1.bits))))::al) w): WL P n ops Q (⟨some d,.binOp .shl t x y yt,ty,pos,aft,none⟩::rest) al w :=
 wop hd (λe o=>by
  have u:¬ b<0:=om
  simp [execOp,o.ev hx,o.ev hy,eqGuard,binOp,Op.shift,u]) k
theorem Yw{x y:Operand}{t yt:TypeId}{k1 k2:IntKind}{a b:Int}(hx:ev al x=some (.int k1 a))(hy:ev al y=some (.int k2 b))(h0:0<=b)(hd:Nat.blt d n=true)(k:WL P n ops Q rest ((d,.int k1 (a.fdiv (2^(min b.toNat k1.bits))))::al) w): WL P n ops Q (⟨some d,.binOp .shr t x y yt,ty,pos,aft,none⟩::rest) al w :=
 wop hd (λe o=>by
  have u:¬ b<0:=om
  simp [execOp,o.ev hx,o.ev hy,eqGuard,binOp,Op.shift,u]) k
theorem wquo{x y:Operand}{t yt:TypeId}{k1:IntKind}{a b:Int}(hx:ev al x=some (.int k1 a))(hy:ev al y=some (.int k1 b))(h0:b≠0)(hd:Nat.blt d n=true)(k:WL P n ops Q rest ((d,.int k1 (k1.wrap (a.tdiv b)))::al) w): WL P n ops Q (⟨some d,.binOp .quo t x y yt,ty,pos,aft,none⟩::rest) al w :=
 wop hd (λe o=>by simp [execOp,o.ev hx,o.ev hy,eqGuard,binOp,Op.intDiv,h0]) k
theorem wrem{x y:Operand}{t yt:TypeId}{k1:IntKind}{a b:Int}(hx:ev al x=some (.int k1 a))(hy:ev al y=some (.int k1 b))(h0:b≠0)(hd:Nat.blt d n=true)(k:WL P n ops Q rest ((d,.int k1 (a.tmod b))::al) w): WL P n ops Q (⟨some d,.binOp .rem t x y yt,ty,pos,aft,none⟩::rest) al w :=
 wop hd (λe o=>by simp [execOp,o.ev hx,o.ev hy,eqGuard,binOp,Op.intDiv,h0]) k
def Zg(ops:Array Oper)(j:Nat): Option Nat:=match nth ops.toList j with
 | some o=>o.dst
 | none=>none
theorem Jjb{a:Act}(ha:Fr n al a){j s:Nat}{b:Bool}(hj:Zg ops j=some s)(hs:lk al s=some (.bool b)): yielded ops a.tmps j=some b:=by
 unfold Zg at hj;rw [Xq]at hj;split at hj
 .rename_i o ho;have C:ops[j]?=some o:=by rw [<-ho];simp
  have:=ha.has s _ hs;simp only [Array.getD_eq_getD_getElem?]at this;cases hq:a.tmps[s]? with
  | none=>rw [hq]at this;cases this
  | some u=>
   rw [hq]at this;simp only [Option.getD_some]at this;subst this;simp [yielded,C,hj,hq]
 .cases hj
theorem Qzv{dst:Option Nat}{j s:Nat}{b:Bool}(hj:Zg ops j=some s)(hs:lk al s=some (.bool b))(k:WL P n ops Q (⟨dst,op,ty,pos,aft,none⟩::rest) al w):
  WL P n ops Q (⟨dst,op,ty,pos,aft,some (j,b)⟩::rest) al w:=λa o=>by
 have h:=k a o;have u:=Jjb (ops:=ops) o hj hs;unfold wpList at h ⊢;have G:Region.wanted (⟨dst,op,ty,pos,aft,none⟩:Oper) (yielded ops a.tmps)=true:=rfl;have C:Region.wanted (⟨dst,op,ty,pos,aft,some (j,b)⟩:Oper) (yielded ops a.tmps)=true:=by simp [Region.wanted,u]
 rw [if_pos G]at h;rw [if_pos C];exact h
theorem wpass{j s:Nat}{b c:Bool}(hj:Zg ops j=some s)(hs:lk al s=some (.bool b))(hne:(b == c)=false)(hd:Nat.blt d n=true)(k:WL P n ops Q rest ((d,undef)::al) w):
  WL P n ops Q (⟨some d,op,ty,pos,aft,some (j,c)⟩::rest) al w:=λa u=>by
 have o:d<n:=by (have:d+1<=n:=by simpa [Nat.blt] using hd);(omega)
 have C:=Jjb (ops:=ops) u hj hs;unfold wpList;have G:¬ Region.wanted (⟨some d,op,ty,pos,aft,some (j,c)⟩:Oper) (yielded ops a.tmps)=true:=by
  simp [Region.wanted,C];simpa using hne
 rw [if_neg G];exact k _ (u.put o undef)
theorem wpart{l:List Oper}{b:Bool}(s:Nat)(hs:lk al s=some (.bool b))(ht:b=true->WL P n ops Q l ((s,.bool true)::al) w)(hf:b=false->WL P n ops Q l ((s,.bool false)::al) w): WL P n ops Q l al w:=by
 cases b
 .exact (hf rfl).sub (Sub.cons hs Sub.refl)
 .exact (ht rfl).sub (Sub.cons hs Sub.refl)
theorem wknow{l:List Oper}{v:Value}(s:Nat)(u:Value)(hs:lk al s=some v)(hv:v=u)(k:WL P n ops Q l ((s,u)::al) w): WL P n ops Q l al w:=by
 subst hv;exact k.sub (Sub.cons hs Sub.refl)
theorem wkt{l:List Oper}{b:Bool}(s:Nat)(hs:lk al s=some (.bool b))(hb:b=true)(k:WL P n ops Q l ((s,.bool true)::al) w): WL P n ops Q l al w:=by
 subst hb;exact k.sub (Sub.cons hs Sub.refl)
theorem wkf{l:List Oper}{b:Bool}(s:Nat)(hs:lk al s=some (.bool b))(hb:b=false)(k:WL P n ops Q l ((s,.bool false)::al) w): WL P n ops Q l al w:=by
 subst hb;exact k.sub (Sub.cons hs Sub.refl)
end
theorem Qqq{a b:Int}(h:a=b): (a == b)=true:=beq_iff_eq.2 h
theorem Jxk{a b:Int}(h:a≠b): (a == b)=false:=beq_eq_false_iff_ne.2 h
theorem Xf{a b:Int}(h:(a == b)=true): a=b:=beq_iff_eq.1 h
theorem Xg{a b:Int}(h:(a == b)=false): a≠b:=beq_eq_false_iff_ne.1 h
theorem Qqg{a b:Int}(h:a=b): (a != b)=false:=by subst h;simp
theorem Gf{a b:Int}(h:(a != b)=true): a≠b:=bne_iff_ne.1 h
theorem Gg{a b:Int}(h:(a != b)=false): a=b:=by simpa using h
theorem Gm{z:Int}(h:-9223372036854775808<=z/\z<=9223372036854775807): IntKind.i64.wrap z=z:=by rw [IntKind.wrap_i64];omega
theorem Gz{z:Int}(h:0<=z/\z<=18446744073709551615): IntKind.u64.wrap z=z:=by rw [IntKind.wrap_u64];omega
end Go.Wk
