/- Part 0. -/
import Derived.Tactics
import Derived.Orders
import Derived.Below
import Derived.Laws.Entries
import Derived.Laws.Cells
import Derived.Laws.Slices
import Derived.Deep.Draws
import Derived.Deep.LoopGhost
import Derived.WalkKit
import Derived.Maps.AppendAt
import Derived.ArgAppend
import Derived.Laws.OwnMore
import Derived.Laws.BytesArg
import Derived.OwnWalk
import Derived.Deep.AppendLies
import Derived.Deep.Onto
import Derived.OrdersHeld
import Derived.Lib.Bytealg
import Derived.Laws.StructEq
import Derived.Laws.Cover3
set_option linter.unusedVariables false
set_option maxRecDepth 100000
set_option maxHeartbeats 40000000
abbrev oT:=@of_decide_eq_true
abbrev oF:=@of_decide_eq_false
abbrev nL:=@Nat.le_trans
abbrev nM:=@Nat.lt_of_lt_of_le
abbrev nR:=@Nat.le_refl
abbrev nN:=@Nat.lt_of_le_of_lt
abbrev dF:=@decide_eq_false
abbrev nO:=@Nat.mul_le_mul_right
abbrev gE:=@List.getElem?_eq_getElem
abbrev gS:=@List.getElem?_eq_some_iff
abbrev mC:=@List.mem_cons_self
theorem om{p:Prop}(h:p:=by omega):p:=h
theorem kr{p:Prop}(h:p:=by kernel_rfl):p:=h
namespace Go.Wk
open Go.RowKit
variable {b:Bool}{c d:Code}{R:Ending->World->Prop}{fn:Func}{a z:Int}{k1 k2:IntKind}{l:List Oper}{id id' j m s u:Nat}{x y:Operand}{α β γ δ σ:Type}{t yt:TypeId}{r v v':Value}{w':World}
abbrev AL:= List (Nat×Value)
def lk: AL->Nat->Option Value
 | [],_=>none
 | (k,v)::r,t=>match Nat.beq k t with
  | true=>some v
  | false=>lk r t
def ev(al:AL): Operand->Option Value
 | .tmp t=>lk al t
 | .const v=>some v
 | .global g=>some (.pointer (some ⟨g,0,none⟩))
 | .func f=>some (.func (.func f) #[] #[])
def evs(al:AL): List Operand->Option (List Value)
 | []=>some []
 | x::r=>match ev al x with
  | none=>none
  | some v=>match evs al r with
   | none=>none
   | some vs=>some (v::vs)
structure Fr(n:Nat)(al:AL)(a:Act): Prop where
 size:a.tmps.size=n
 defers:a.defers=[]
 has:∀ t v,lk al t=some v->a.tmps.getD t undef=v
theorem Kz(d:Nat)(v:Value)(al:AL): lk ((d,v)::al) d=some v:=by simp[lk]
theorem Yy{d t:Nat}(v:Value)(al:AL)(h:d≠t): lk ((d,v)::al) t=lk al t:=by grind [Nat.beq,Nat.eq_of_beq_eq_true,lk]
section
variable {n:Nat} {al al':AL} {a:Act}
theorem Fr.ev(h:Fr n al a){x:Operand}{v:Value}(hx:ev al x=some v): a.eval x=v:=by
 cases x with
 | tmp t=>exact h.has t v hx
 | const u=>simp only[Wk.ev,Option.some.injEq]at hx;subst hx;rfl
 | global g=>simp only[Wk.ev,Option.some.injEq]at hx;subst hx;rfl
 | func f=>simp only[Wk.ev,Option.some.injEq]at hx;subst hx;rfl
theorem Fr.evs(h:Fr n al a): ∀ {xs:List Operand} {vs:List Value},evs al xs=some vs->xs.map a.eval=vs
 | [],vs,hx=>by simp only[Wk.evs,Option.some.injEq]at hx;subst hx;rfl
 | x::r,vs,hx=>by
  unfold Wk.evs at hx;split at hx
  .cases hx
  rename_i v hv;split at hx
  .cases hx
  rename_i us hu;simp only[Option.some.injEq]at hx;subst hx;rw[List.map_cons,h.ev hv,h.evs hu]
theorem Fr.put(h:Fr n al a){d:Nat}(hd:d<n)(v:Value): Fr n ((d,v)::al) (a.put (some d) v):=by
 refine⟨by simp[Act.put,h.size],h.defers,λt u y=>?_⟩;by_cases e:d=t
 .subst e;rw[Kz]at y;simp only[Option.some.injEq]at y;subst y;simp[Act.put,Array.getElem?_setIfInBounds_self_of_lt (by rw[h.size];exact hd:d<a.tmps.size)]
 rw[Yy _ _ e]at y;have:=h.has t u y;simpa [Act.put,Array.getElem?_setIfInBounds_ne e] using this
def Sub(al' al:AL): Prop:=∀ t v,lk al' t=some v->lk al t=some v
theorem Fr.sub(h:Fr n al a)(hs:Sub al' al): Fr n al' a:=⟨h.size,h.defers,λt v ht=>h.has t v (hs t v ht)⟩
theorem Sub.nil: Sub [] al:=λt v h=>by cases h
theorem Sub.cons{t:Nat}(h1:lk al t=some v)(h:Sub al' al): Sub ((t,v)::al') al:=by
 intro s u y;by_cases e:t=s
 .grind [Kz]
 rw[Yy _ _ e]at y;exact h s u y
theorem Sub.refl: Sub al al:=λ_ _ h=>h
end
def WC(P:Program)(n:Nat)(c:Code)(Q:Exit->Act->World->Prop)(al:AL)(w:World): Prop:=∀ a,Fr n al a->c.wp P Q a w
def WL(P:Program)(n:Nat)(ops:Array Oper)(Q:Exit->Act->World->Prop)(l:List Oper)(al:AL)(w:World): Prop:=∀ a,Fr n al a->wpList P ops Q l a w
def QX(n:Nat)(Q:Exit->Act->World->Prop)(e:Exit)(al:AL)(w:World): Prop:=∀ a,Fr n al a->Q e a w
section
variable {P:Program} {n:Nat} {al al':AL} {w:World} {Q Q':Exit->Act->World->Prop} {ops:Array Oper} {rest:List Oper}
theorem WC.sub{c:Code}(hs:Sub al' al)(h:WC P n c Q al' w): WC P n c Q al w:=λa u=>h a (u.sub hs)
theorem WL.sub{l:List Oper}(hs:Sub al' al)(h:WL P n ops Q l al' w): WL P n ops Q l al w:=λa u=>h a (u.sub hs)
theorem QX.sub{e:Exit}(hs:Sub al' al)(h:QX n Q e al' w): QX n Q e al w:=λa u=>h a (u.sub hs)
theorem wseq{x y:Code}(h:WC P n x (Exit.then (y.wp P Q) Q) al w): WC P n (.seq x y) Q al w:=λa u=>wp_seq (h a u)
theorem wskip(h:QX n Q .normal al w): WC P n .skip Q al w:=λa u=>wp_skip (h a u)
theorem wexit(h:QX n Q (.exit id) al w): WC P n (.exit id) Q al w:=λa u=>wp_exit (h a u)
theorem wret(h:QX n Q .ret al w): WC P n .ret Q al w:=λa u=>wp_ret (h a u)
theorem Qqf(h:WC P n c (Exit.inBlock id Q) al w): WC P n (.block id c) Q al w:=λa u=>wp_block (h a u)
theorem Qjh(h:WL P n l.toArray Q l al w): WC P n (.region id l.toArray false) Q al w:=λa u=>wp_region_lit (h a u)
theorem Qk(h:QX n Q .normal al w): WL P n ops Q [] al w:=λa u=>h a u
theorem wcond{c:Operand}{x y:Code}(hc:ev al c=some (.bool b))(ht:b=true->WC P n x Q al w)(hf:b=false->WC P n y Q al w):
  WC P n (.cond c x y) Q al w:=λa u=>by
 have D:=u.ev hc;cases b
 .exact wp_cond_false D (hf rfl a u)
 exact wp_cond_true D (ht rfl a u)
theorem Jdx{c:Operand}{x y:Code}(hc:ev al c=some (.bool true))(h:WC P n x Q al w): WC P n (.cond c x y) Q al w:=λa u=>wp_cond_true (u.ev hc) (h a u)
theorem Jfb{c:Operand}{x y:Code}(hc:ev al c=some (.bool false))(h:WC P n y Q al w): WC P n (.cond c x y) Q al w:=λa u=>wp_cond_false (u.ev hc) (h a u)
theorem Qjx{c:Operand}{x y:Code}(hc:ev al c=some (.bool b))(hb:b=true)(h:WC P n x Q al w): WC P n (.cond c x y) Q al w:=by grind [Jdx]
theorem Jdz{c:Operand}{x y:Code}(hc:ev al c=some (.bool b))(hb:b=false)(h:WC P n y Q al w): WC P n (.cond c x y) Q al w:=by grind [Jfb]
theorem qnext{y:Code}(h:WC P n y Q' al w): QX n (Exit.then (y.wp P Q') Q) .normal al w:=h
theorem qret{y:Act->World->Prop}(h:QX n Q .ret al w): QX n (Exit.then y Q) .ret al w:=h
theorem qexit{y:Act->World->Prop}(h:QX n Q (.exit id) al w): QX n (Exit.then y Q) (.exit id) al w:=h
theorem Qmx(h:QX n Q .normal al w): QX n (Exit.inBlock id Q) .normal al w:=h
theorem bret(h:QX n Q .ret al w): QX n (Exit.inBlock id Q) .ret al w:=h
theorem bexit(h:QX n Q .normal al w): QX n (Exit.inBlock id Q) (.exit id) al w:=λa u=>by
 simp only[Exit.inBlock,if_true];exact h a u
theorem Qmw(hne:Nat.beq id' id=false)(h:QX n Q (.exit id') al w): QX n (Exit.inBlock id Q) (.exit id') al w:=λa u=>by
 have:id'≠id:=by intro e;subst e;simp at hne
 simp only[Exit.inBlock,this,if_false];exact h a u
theorem Jxt(fr:σ->AL)(I:σ->World->Prop)(μ:σ->Nat)(s₀:σ)(h₀:Sub (fr s₀) al)(hI:I s₀ w)(round:∀ s w,I s w->WC P n c (Exit.then (λa' w'=>∃ s',Fr n (fr s') a'/\I s' w'/\μ s'<μ s) Q) (fr s) w): WC P n (.loop c) Q al w:=by
 intro a y;refine wp_loop_ghost (λk a w=>∃ s,Fr n (fr s) a/\I s w/\μ s=k) (μ s₀) ⟨s₀,y.sub h₀,hI,rfl⟩ ?_;rintro k a w ⟨s,u,hi,rfl⟩;refine wp_mono (round s w hi a u) ?_;grind
theorem Jl(fr:α->AL)(I:α->World->Prop)(μ:α->Nat)(x₀:α)(h₀:Sub (fr x₀) al)(hI:I x₀ w)(round:∀ x w,I x w->WC P n c (Exit.then (λa' w'=>∃ x',Fr n (fr x') a'/\I x' w'/\μ x'<μ x) Q) (fr x) w): WC P n (.loop c) Q al w:=by
 refine Jxt (σ:=α) (λs=>fr s) (λs=>I s) (λs=>μ s) (x₀) h₀ hI ?_;grind
theorem Jg{fr:α->AL}{I:α->World->Prop}{μ:α->Nat}(x':α)(hs:Sub (fr x') al)(hi:I x' w)(hm:μ x'<m):
  QX n (Exit.then (λa' w'=>∃ x',Fr n (fr x') a'/\I x' w'/\μ x'<m) Q) .normal al w:=λa u=>⟨x',u.sub hs,hi,hm⟩
theorem Qd(fr:α->β->AL)(I:α->β->World->Prop)(μ:α->β->Nat)(x₀:α)(y₀:β)(h₀:Sub (fr x₀ y₀) al)(hI:I x₀ y₀ w)(round:∀ x y w,I x y w->WC P n c (Exit.then (λa' w'=>∃ x' y',Fr n (fr x' y') a'/\I x' y' w'/\μ x' y'<μ x y) Q) (fr x y) w): WC P n (.loop c) Q al w:=by
 refine Jxt (σ:=α×β) (λs=>fr (s.1) (s.2)) (λs=>I (s.1) (s.2)) (λs=>μ (s.1) (s.2)) (x₀,y₀) h₀ hI ?_;intro s w hi a D;refine wp_mono (round (s.1) (s.2) w hi a D) ?_;intro e a' w' u;cases e with
 | normal=>obtain⟨x',y',h⟩:=u;exact⟨(x',y'),h⟩
 | exit id=>exact u
 | goto l=>exact u
 | ret=>exact u
 | panic c=>exact u
 | outgrown=>exact u
theorem Qv{fr:α->β->AL}{I:α->β->World->Prop}{μ:α->β->Nat}(x':α)(y':β)(hs:Sub (fr x' y') al)(hi:I x' y' w)(hm:μ x' y'<m):
  QX n (Exit.then (λa' w'=>∃ x' y',Fr n (fr x' y') a'/\I x' y' w'/\μ x' y'<m) Q) .normal al w:=λa u=>⟨x',y',u.sub hs,hi,hm⟩
theorem Zk(fr:α->β->γ->AL)(I:α->β->γ->World->Prop)(μ:α->β->γ->Nat)(x₀:α)(y₀:β)(z₀:γ)(h₀:Sub (fr x₀ y₀ z₀) al)(hI:I x₀ y₀ z₀ w)(round:∀ x y z w,I x y z w->WC P n c (Exit.then (λa' w'=>∃ x' y' z',Fr n (fr x' y' z') a'/\I x' y' z' w'/\μ x' y' z'<μ x y z) Q) (fr x y z) w): WC P n (.loop c) Q al w:=by
 refine Jxt (σ:=α×β×γ) (λs=>fr (s.1) (s.2.1) (s.2.2)) (λs=>I (s.1) (s.2.1) (s.2.2)) (λs=>μ (s.1) (s.2.1) (s.2.2)) (x₀,y₀,z₀) h₀ hI ?_;intro s w hi a D;refine wp_mono (round (s.1) (s.2.1) (s.2.2) w hi a D) ?_;intro e a' w' u;cases e with
 | normal=>obtain⟨x',y',z',h⟩:=u;exact⟨(x',y',z'),h⟩
 | exit id=>exact u
 | goto l=>exact u
 | ret=>exact u
 | panic c=>exact u
 | outgrown=>exact u
theorem Qa{fr:α->β->γ->AL}{I:α->β->γ->World->Prop}{μ:α->β->γ->Nat}(x':α)(y':β)(z':γ)(hs:Sub (fr x' y' z') al)(hi:I x' y' z' w)(hm:μ x' y' z'<m):
  QX n (Exit.then (λa' w'=>∃ x' y' z',Fr n (fr x' y' z') a'/\I x' y' z' w'/\μ x' y' z'<m) Q) .normal al w:=λa u=>⟨x',y',z',u.sub hs,hi,hm⟩
theorem Gb(fr:α->β->γ->δ->AL)(I:α->β->γ->δ->World->Prop)(μ:α->β->γ->δ->Nat)(x₀:α)(y₀:β)(z₀:γ)(u₀:δ)(h₀:Sub (fr x₀ y₀ z₀ u₀) al)(hI:I x₀ y₀ z₀ u₀ w)(round:∀ x y z u w,I x y z u w->WC P n c (Exit.then (λa' w'=>∃ x' y' z' u',Fr n (fr x' y' z' u') a'/\I x' y' z' u' w'/\μ x' y' z' u'<μ x y z u) Q) (fr x y z u) w): WC P n (.loop c) Q al w:=by
 refine Jxt (σ:=α×β×γ×δ) (λs=>fr (s.1) (s.2.1) (s.2.2.1) (s.2.2.2)) (λs=>I (s.1) (s.2.1) (s.2.2.1) (s.2.2.2)) (λs=>μ (s.1) (s.2.1) (s.2.2.1) (s.2.2.2)) (x₀,y₀,z₀,u₀) h₀ hI ?_;intro s w hi a F;refine wp_mono (round (s.1) (s.2.1) (s.2.2.1) (s.2.2.2) w hi a F) ?_;intro e a' w' D;cases e with
 | normal=>obtain⟨x',y',z',u',h⟩:=D;exact⟨(x',y',z',u'),h⟩
 | exit id=>exact D
 | goto l=>exact D
 | ret=>exact D
 | panic c=>exact D
 | outgrown=>exact D
theorem Yk{fr:α->β->γ->δ->AL}{I:α->β->γ->δ->World->Prop}{μ:α->β->γ->δ->Nat}(x':α)(y':β)(z':γ)(u':δ)(hs:Sub (fr x' y' z' u') al)(hi:I x' y' z' u' w)(hm:μ x' y' z' u'<m):
  QX n (Exit.then (λa' w'=>∃ x' y' z' u',Fr n (fr x' y' z' u') a'/\I x' y' z' u' w'/\μ x' y' z' u'<m) Q) .normal al w:=λa u=>⟨x',y',z',u',u.sub hs,hi,hm⟩
theorem Qjr{x y:Code}(fr:AL)(I:World->Prop)(h1:WC P n x (Exit.then (λa w=>Fr n fr a/\I w) Q) al w)(h2:∀ w,I w->WC P n y Q' fr w): WC P n x (Exit.then (y.wp P Q') Q) al w:=by
 intro a D;refine wp_mono (h1 a D) ?_;intro e F w' u;cases e with
 | normal=>exact h2 w' u.2 F u.1
 | exit id=>exact u
 | goto l=>exact u
 | ret=>exact u
 | panic c=>exact u
 | outgrown=>exact u
theorem Jhs{fr:AL}{I:World->Prop}(hs:Sub fr al)(hi:I w): QX n (Exit.then (λa w=>Fr n fr a/\I w) Q) .normal al w:=λa u=>⟨u.sub hs,hi⟩
theorem Xg(fr:α->AL)(I:α->World->Prop)(h1:WC P n c (Exit.then (λa w=>∃ x,Fr n (fr x) a/\I x w) Q) al w)(h2:∀ x w,I x w->WC P n d Q' (fr x) w): WC P n c (Exit.then (d.wp P Q') Q) al w:=by
 intro a y;refine wp_mono (h1 a y) ?_;intro e G w' u;cases e with
 | normal=>obtain⟨x,F,D⟩:=u;exact h2 x w' D G F
 | exit id=>exact u
 | goto l=>exact u
 | ret=>exact u
 | panic c=>exact u
 | outgrown=>exact u
theorem Js{fr:α->AL}{I:α->World->Prop}(x:α)(hs:Sub (fr x) al)(hi:I x w): QX n (Exit.then (λa w=>∃ x,Fr n (fr x) a/\I x w) Q) .normal al w:=λa u=>⟨x,u.sub hs,hi⟩
theorem Ur(fr:α->β->AL)(I:α->β->World->Prop)(h1:WC P n c (Exit.then (λa w=>∃ x y,Fr n (fr x y) a/\I x y w) Q) al w)(h2:∀ x y w,I x y w->WC P n d Q' (fr x y) w): WC P n c (Exit.then (d.wp P Q') Q) al w:=by
 intro a D;refine wp_mono (h1 a D) ?_;intro e J w' u;cases e with
 | normal=>obtain⟨x,y,G,F⟩:=u;exact h2 x y w' F J G
 | exit id=>exact u
 | goto l=>exact u
 | ret=>exact u
 | panic c=>exact u
 | outgrown=>exact u
theorem Xl{fr:α->β->AL}{I:α->β->World->Prop}(x:α)(y:β)(hs:Sub (fr x y) al)(hi:I x y w): QX n (Exit.then (λa w=>∃ x y,Fr n (fr x y) a/\I x y w) Q) .normal al w:=λa u=>⟨x,y,u.sub hs,hi⟩
theorem Jdt(fr:α->β->γ->AL)(I:α->β->γ->World->Prop)(h1:WC P n c (Exit.then (λa w=>∃ x y z,Fr n (fr x y z) a/\I x y z w) Q) al w)(h2:∀ x y z w,I x y z w->WC P n d Q' (fr x y z) w): WC P n c (Exit.then (d.wp P Q') Q) al w:=by
 intro a D;refine wp_mono (h1 a D) ?_;intro e J w' u;cases e with
 | normal=>obtain⟨x,y,z,G,F⟩:=u;exact h2 x y z w' F J G
 | exit id=>exact u
 | goto l=>exact u
 | ret=>exact u
 | panic c=>exact u
 | outgrown=>exact u
theorem Jzg{fr:α->β->γ->AL}{I:α->β->γ->World->Prop}(x:α)(y:β)(z:γ)(hs:Sub (fr x y z) al)(hi:I x y z w): QX n (Exit.then (λa w=>∃ x y z,Fr n (fr x y z) a/\I x y z w) Q) .normal al w:=λa u=>⟨x,y,z,u.sub hs,hi⟩
end
section
variable {P:Program} {n:Nat} {al:AL} {w:World}
def al0: Nat->List Value->AL
 | _,[]=>[]
 | i,v::r=>(i,v)::al0 (i+1) r
theorem Jmz: ∀(l:List Value) (i t:Nat) (v:Value),lk (al0 i l) t=some v->i<=t/\l[t-i]?=some v
 | [],_,_,_,h=>by cases h
 | u::r,i,t,v,h=>by
  by_cases e:i=t
  .grind [al0,Kz]
  simp only[al0]at h;rw[Yy _ _ e]at h;obtain⟨h1,h2⟩:=Jmz r (i+1) t v h;grind
theorem enter{f:FuncId}{args:List Value}(hf:P.funcs[f]?=some fn)(hb:fn.body=some c)(hn:fn.ntmps=n)(hle:Nat.ble args.length n=true)(h:WC P n c (bodyPost P fn R) (al0 0 args) w): Calls P f args.toArray w R:=by
 have y:args.length<=n:=by simpa using hle
 refine calls_of_wp hf hb (h _ ⟨?_,rfl,λt v ht=>?_⟩)
 .simp[hn];omega
 obtain⟨_,D⟩:=Jmz args 0 t v ht;simp only[Nat.sub_zero]at D;have u:t<args.length:=by grind
 simp[Array.getElem?_append,u];grind
theorem Qvg{t:Nat}(hr:fn.results = #[.tmp t])(ht:lk al t=some v)(h:R (.returned v) w): QX n (bodyPost P fn R) .ret al w:=λa u=>
 bodyPost_ret (v:=v) (by rw[results_tmp hr,u.has t v ht]) u.defers h
theorem Qvf{t:Nat}{x y:Value}(hr:fn.results = #[.tmp t,.tmp u])(ht:lk al t=some x)(hu:lk al u=some y)(h:R (.returned (.tuple #[x,y])) w): QX n (bodyPost P fn R) .ret al w:=λa D=>
 bodyPost_ret (v:=.tuple #[x,y]) (by rw[results_tmp2 hr,D.has t x ht,D.has u y hu]) D.defers h
theorem Qvd{t:Nat}{x y z:Value}(hr:fn.results = #[.tmp t,.tmp u,.tmp s])(ht:lk al t=some x)(hu:lk al u=some y)(hs:lk al s=some z)(h:R (.returned (.tuple #[x,y,z])) w): QX n (bodyPost P fn R) .ret al w:=λa D=>
 bodyPost_ret (v:=.tuple #[x,y,z]) (by simp[results,hr];exact⟨by simpa using D.has t x ht,by simpa using D.has u y hu,by simpa using D.has s z hs⟩) D.defers h
theorem Qvc{t r:Nat}{x y z q:Value}(hr:fn.results = #[.tmp t,.tmp u,.tmp s,.tmp r])(ht:lk al t=some x)(hu:lk al u=some y)(hs:lk al s=some z)(hq:lk al r=some q)(h:R (.returned (.tuple #[x,y,z,q])) w): QX n (bodyPost P fn R) .ret al w:=λa D=>
 bodyPost_ret (v:=.tuple #[x,y,z,q]) (by simp[results,hr];exact⟨by simpa using D.has t x ht,by simpa using D.has u y hu,by simpa using D.has s z hs,by simpa using D.has r q hq⟩) D.defers h
end
structure TK where
 desc: TypeDesc
 size:Nat:=1
 esz:Nat:=0
 offs:List Nat:=[]
 zero:List Value:=[]
abbrev TT:= List (Nat×TK)
def tk: TT->Nat->Option TK
 | [],_=>none
 | (k,v)::r,t=>match Nat.beq k t with
  | true=>some v
  | false=>tk r t
def Xh(P:Program)(t:TypeId): Option Nat:=(P.info? t).map (·.size)
def Qu(P:Program)(t:TypeId): Option Value:=(P.info? t).bind (·.zero)
def Jjg(P:Program): List Field->List Nat->Bool
 | [],[]=>true
 | f::r,o::s=>Nat.beq f.offset o && (match Xh P f.type with|some z=>Nat.blt 0 z|none=>false) && Jjg P r s
 | _,_=>false
def Vn(P:Program)(t:Nat)(k:TK): Prop :=
 match k.desc with
 | .invalid=>∃ fs,P.underlying t=some (.struct fs)/\Jjg P fs.toList k.offs=true/\Xh P t=some k.size
 | .slice e=>P.underlying t=some (.slice e)/\Xh P e=some k.esz/\Xh P t=some k.size
 | .array m e=>P.underlying t=some (.array m e)/\Xh P e=some k.esz/\Xh P t=some k.size
 | d=>P.underlying t=some d/\Xh P t=some k.size
def TOk(P:Program): TT->Prop
 | []=>True
 | p::r=>Vn P p.1 p.2/\TOk P r
theorem TOk.at{P:Program}: ∀ {tt:TT} (_:TOk P tt) {t:Nat} {k:TK},tk tt t=some k->Vn P t k
 | (p1,p2)::r,h,t,k,hk=>by
  unfold tk at hk;split at hk
  .rename_i hb;have e:p1=t:=Nat.eq_of_beq_eq_true hb;simp only[Option.some.injEq]at hk;subst hk;subst e;exact h.1
  exact TOk.at h.2 hk
def bop(op:BinOp)(u v:Value): Option Value :=
 match u,v with
 | .int k a,.int k' b=>
  if k=k' then
   match op with
   | .add=>some (.int k (k.wrap (a+b)))
   | .sub=>some (.int k (k.wrap (a-b)))
   | .mul=>some (.int k (k.wrap (a*b)))
   | .and=>some (.int k (bits .and k a b))
   | .or=>some (.int k (bits .or k a b))
   | .xor=>some (.int k (bits .xor k a b))
   | .andNot=>some (.int k (bits .andNot k a b))
   | .eql=>some (.bool (a == b))
   | .neq=>some (.bool (a != b))
   | .lss=>some (.bool (decide (a<b)))
   | .leq=>some (.bool (decide (a<=b)))
   | .gtr=>some (.bool (decide (b<a)))
   | .geq=>some (.bool (decide (b<=a)))
   | _=>none
  else none
 | .string s,.string t=>
  match op with
  | .eql=>some (.bool (s.toList == t.toList))
  | .neq=>some (.bool (!(s.toList == t.toList)))
  | .lss=>some (.bool (Op.bytesLess s.toList t.toList))
  | .leq=>some (.bool (Op.bytesLess s.toList t.toList || s.toList == t.toList))
  | .gtr=>some (.bool (!(Op.bytesLess s.toList t.toList || s.toList == t.toList)))
  | .geq=>some (.bool (!(Op.bytesLess s.toList t.toList)))
  | _=>none
 | _,_=>none
def uop(op:UnOp)(u:Value): Option Value :=
 match op,u with
 | .not,.bool b=>some (.bool (!b))
 | .neg,.int k a=>some (.int k (k.wrap (0-a)))
 | .xor,.int k a=>some (.int k (bits .xor k (if k.signed then -1 else k.max) a))
 | _,_=>none
def nth{α:Type}: List α->Nat->Option α
 | [],_=>none
 | x::_,0=>some x
 | _::r,n+1=>nth r n
theorem Xq{α:Type}: ∀(l:List α) (i:Nat),nth l i=l[i]?
 | [],_=>by simp[nth]
 | x::r,0=>by simp[nth]
 | x::r,n+1=>by simp[nth,Xq r n]
def pv(tt:TT)(e:Operand->Option Value)(op:Op): Option Value :=
 match op with
 | .move x=>e x
 | .assign x=>e x
 | .pick c a b=>match e c with
  | some (.bool true)=>e a
  | some (.bool false)=>e b
  | _=>none
 | .binOp op _ x y _=>match e x with
  | some u=>match e y with
   | some v=>bop op u v
   | none=>none
  | none=>none
 | .unOp op _ x=>match e x with
  | some u=>uop op u
  | none=>none
 | .convert src dst x=>match(tk tt src).map TK.desc with
  | some (.int _)=>match(tk tt dst).map TK.desc with
   | some (.int k)=>match e x with
    | some (.int _ m)=>some (.int k (k.wrap m))
    | _=>none
   | _=>none
  | _=>none
 | .extract t i=>match e t with
  | some (.tuple vs)=>nth vs.toList i
  | _=>none
 | .fieldAddr s x f=>match tk tt s with
  | some ⟨.invalid,_,_,offs,_⟩=>match nth offs f with
   | some o=>match e x with
    | some (.pointer (some a))=>some (.pointer (some (a.add o)))
    | _=>none
   | none=>none
  | _=>none
 | .nilCheck x=>match e x with
  | some (.pointer (some a))=>some (.pointer (some a))
  | _=>none
 | .call c=>match c.callee with
  | .builtin .len=>match c.args.toList with
   | [x]=>match c.argTypes.toList with
    | [t]=>match(tk tt t).map TK.desc with
     | some (.slice _)=>match e x with
      | some (.slice _ n _)=>some (.int .i64 (n:Int))
      | _=>none
     | some .string=>match e x with
      | some (.string s)=>some (.int .i64 (s.size:Int))
      | _=>none
     | _=>none
    | _=>none
   | _=>none
  | .builtin .min=>match c.args.toList with
   | [x,y]=>match e x with
    | some (.int k a)=>match e y with
     | some (.int k' b)=>if k=k' then some (.int k (if b<a then b else a)) else none
     | _=>none
    | _=>none
   | _=>none
  | .builtin .max=>match c.args.toList with
   | [x,y]=>match e x with
    | some (.int k a)=>match e y with
     | some (.int k' b)=>if k=k' then some (.int k (if a<b then b else a)) else none
     | _=>none
    | _=>none
   | _=>none
  | _=>none
 | .makeFunc fn first captured=>match evl e first.toList with
  | some us=>match evl e captured.toList with
   | some vs=>some (.func fn us.toArray vs.toArray)
   | none=>none
  | none=>none
 | _=>none
where
 evl (e:Operand->Option Value):List Operand->Option (List Value)
  | []=>some []
  | x::r=>match e x with
   | none=>none
   | some v=>match evl e r with
    | none=>none
    | some vs=>some (v::vs)
theorem Jbv{e:Operand->Option Value}{ρ:Operand->Value}(he:∀ x v,e x=some v->ρ x=v): ∀ {xs:List Operand} {vs:List Value},pv.evl e xs=some vs->xs.map ρ=vs
 | [],vs,hx=>by simp only[pv.evl,Option.some.injEq]at hx;subst hx;rfl
 | x::r,vs,hx=>by
  unfold pv.evl at hx;split at hx
  .cases hx
  rename_i v hv;split at hx
  .cases hx
  rename_i us hu;simp only[Option.some.injEq]at hx;subst hx;rw[List.map_cons,he x v hv,Jbv he hu]
section
variable {P:Program} (w:World)
theorem Qkj{op:BinOp}{u:Value}(h:bop op u v=some r):
  (do eqGuard op t x y u v;binOp op t u v:Sem Value).run P w=.ok r w:=by
 unfold bop at h;split at h
 .rename_i k a k' b;split at h
  .rename_i hk;subst hk;have D:(eqGuard op t x y (.int k a) (.int k b)).run P w=.ok () w:=by unfold eqGuard;split<;>rfl
   rw[Sem.run_bind,D,Result.andThen_ok];cases op<;>simp only[Option.some.injEq,reduceCtorEq]at h<;>subst h<;>simp[binOp,Op.intArith,Op.intBits,Op.intCmp,bits]
  cases h
 .rename_i s z;have D:(eqGuard op t x y (.string s) (.string z)).run P w=.ok () w:=by unfold eqGuard;split<;>rfl
  rw[Sem.run_bind,D,Result.andThen_ok];cases op<;>simp only[Option.some.injEq,reduceCtorEq]at h<;>subst h<;>simp[binOp,Op.stringOp]
 cases h
theorem Qzz{op:UnOp}{u:Value}(h:uop op u=some r): (Op.unary op u).run P w=.ok r w:=by
 unfold uop at h;split at h<;>simp only[Option.some.injEq,reduceCtorEq]at h<;>subst h<;>simp[Op.unary,Op.intArith,Op.intBits,bits]
theorem Jpr: ∀ {fs:List Field} {offs:List Nat} {i o:Nat},Jjg P fs offs=true->nth offs i=some o->∃ f z,fs[i]?=some f/\f.offset=o/\Xh P f.type=some z/\0<z
 | [],[],_,_,_,h=>by cases h
 | [],_::_,_,_,h,_=>by cases h
 | _::_,[],_,_,h,_=>by cases h
 | f::r,p::s,0,o,h,hn=>by
  simp only[nth,Option.some.injEq]at hn;subst hn;simp only[Jjg,Bool.and_eq_true]at h;obtain⟨⟨h1,h2⟩,_⟩:=h;cases hz:Xh P f.type with
  | none=>rw[hz]at h2;cases h2
  | some z=>rw[hz]at h2;exact⟨f,z,rfl,Nat.eq_of_beq_eq_true h1,hz,by(have:1<=z:=by simpa [Nat.blt] using h2);(omega)⟩
 | f::r,p::s,i+1,o,h,hn=>by
  simp only[nth]at hn;simp only[Jjg,Bool.and_eq_true]at h;obtain⟨f',z,h1,h2⟩:=Jpr (i:=i) h.2 hn;grind
theorem Vj{z:Nat}(h:Xh P t=some z): (sizeOf t).run P w=.ok z w:=by
 unfold Xh at h;cases hi:P.info? t with
 | none=>simp[hi]at h
 | some i=>simp[hi]at h;simp[sizeOf,typeInfo,hi,h]
theorem Uv{tt:TT}(hT:TOk P tt){o:Oper}{ρ:Operand->Value}{e:Operand->Option Value}(he:∀ x v,e x=some v->ρ x=v)(h:pv tt e o.op=some v):
  (execOp ρ o).run P w=.ok (.value v) w:=by
 unfold execOp;generalize ho:o.op=op at h
 cases op with
 | move x=>simp only[pv]at h;simp[he x v h]
 | assign x=>simp only[pv]at h;simp[he x v h]
 | pick c a b=>
  simp only[pv]at h;split at h
  .rename_i hc;simp[he c _ hc,asBool,he a v h]
  .rename_i hc;simp[he c _ hc,asBool,he b v h]
  cases h
 | binOp op t x y ty=>
  simp only[pv]at h;split at h
  .rename_i u G;split at h
   .rename_i r D;have:=Qkj (P:=P) w (t:=t) (x:=x) (y:=y) h;simp only[Sem.run_bind,he x u G,he y r D]at this ⊢;rw[this];rfl
   cases h
  cases h
 | unOp op t x=>
  simp only[pv]at h;split at h
  .rename_i u G;simp only[Sem.run_bind,he x u G,Qzz w h,Result.andThen_ok];rfl
  cases h
 | convert src dst x=>
  simp only[pv]at h;split at h
  .rename_i k0 hs;split at h
   .rename_i k hd;split at h
    .rename_i k2 m hx;simp only[Option.some.injEq]at h;subst h;have F:P.underlying src=some (.int k0):=by
      obtain⟨r,D,J⟩:=Option.map_eq_some_iff.1 hs;have:=hT.at D;grind [Vn]
     have Z:P.underlying dst=some (.int k):=by
      obtain⟨r,D,J⟩:=Option.map_eq_some_iff.1 hd;have:=hT.at D;grind [Vn]
     simp[he x _ hx,convert,run_underlying F,run_underlying Z,Conv.intToInt]
    cases h
   cases h
  cases h
 | extract t i=>
  simp only[pv]at h;split at h
  .rename_i vs hv;rw[Xq]at h;have h':vs[i]?=some v:=by rw[<-h];simp
   simp[he t _ hv,Instr.extract,h']
  cases h
 | fieldAddr s x f=>
  simp only[pv]at h;split at h
  .rename_i q1 q2 offs q3 hs;split at h
   .rename_i o' hn;split at h
    .rename_i a hx;simp only[Option.some.injEq]at h;subst h;obtain⟨fs,G,hf,_⟩:∃ fs,P.underlying s=some (.struct fs)/\Jjg P fs.toList offs=true/\Xh P s=some q1:=hT.at hs;obtain⟨fl,z,F,Z,h3,h4⟩:=Jpr (P:=P) hf hn;have O:fs[f]?=some fl:=by rw[<-F];simp
     have hz:¬ z=0:=om
     simp[he x _ hx,Instr.fieldAt,run_underlying G,O,Instr.sureAddr,fieldPlace,Vj w h3,hz,Z]
    cases h
   cases h
  cases h
 | nilCheck x=>
  simp only[pv]at h;split at h
  .rename_i a hx;simp only[Option.some.injEq]at h;subst h;simp[he x _ hx]
  cases h
 | call c=>
  simp only[pv]at h;split at h
  .rename_i hcal;split at h
   .rename_i x hargs;split at h
    .rename_i t hty;have U:c.args = #[x]:=by grind
     have hb:c.argTypes = #[t]:=by grind
     split at h
     .rename_i e' hk;split at h
      .rename_i A m c' hx;simp only[Option.some.injEq]at h;subst h;have F:P.underlying t=some (.slice e'):=by
        obtain⟨r,D,J⟩:=Option.map_eq_some_iff.1 hk;have:=hT.at D;grind [Vn]
       simp[resolve,hcal,U,hb,invoke,builtin,Builtin.len_,run_underlying F,he x _ hx,goInt]
      cases h
     .rename_i hk;split at h
      .rename_i s hx;simp only[Option.some.injEq]at h;subst h;have F:P.underlying t=some .string:=by
        obtain⟨r,D,J⟩:=Option.map_eq_some_iff.1 hk;have:=hT.at D;grind [Vn]
       simp[resolve,hcal,U,hb,invoke,builtin,Builtin.len_,run_underlying F,he x _ hx,goInt]
      cases h
     cases h
    cases h
   cases h
  .rename_i hcal;split at h
   .rename_i x y hargs;have U:c.args = #[x,y]:=by grind
    split at h
    .rename_i k a hx;split at h
     .rename_i k' b hy;split at h
      .simp only[Option.some.injEq]at h;subst h;simp[resolve,hcal,U,invoke,builtin,Builtin.min_,Builtin.min2,he x _ hx,he y _ hy]
      cases h
     cases h
    cases h
   cases h
  .rename_i hcal;split at h
   .rename_i x y hargs;have U:c.args = #[x,y]:=by grind
    split at h
    .rename_i k a hx;split at h
     .rename_i k' b hy;split at h
      .simp only[Option.some.injEq]at h;subst h;simp[resolve,hcal,U,invoke,builtin,Builtin.max_,Builtin.max2,he x _ hx,he y _ hy]
      cases h
     cases h
    cases h
   cases h
  cases h
 | makeFunc fn first captured=>
  simp only[pv]at h;split at h
  .rename_i us G;split at h
   .rename_i vs hv;simp only[Option.some.injEq]at h;subst h;have F:=Jbv he G;have Z:=Jbv he hv;have O:first.map ρ=us.toArray:=by grind
    have a1:captured.map ρ=vs.toArray:=by grind
    simp[O,a1,Instr.makeFunc]
   cases h
  cases h
 | _=>simp[pv]at h
end
section
variable {P:Program} {n:Nat} {al:AL} {w:World} {Q:Exit->Act->World->Prop} {ops:Array Oper} {rest:List Oper}
variable {d ty:Nat} {op:Op} {pos:String} {aft:Array Edge}
theorem wop(hd:Nat.blt d n=true)(h:∀ a,Fr n al a->(execOp a.eval ⟨some d,op,ty,pos,aft,none⟩).run P w=.ok (.value v) w')(k:WL P n ops Q rest ((d,v)::al) w'): WL P n ops Q (⟨some d,op,ty,pos,aft,none⟩::rest) al w:=λa y=>
 wpList_plain rfl λK D=>by
  have u:d<n:=by(have:d+1<=n:=by simpa [Nat.blt] using hd);(omega)
  unfold Oper.wp;rw[h a y,Oper.upon_value];exact D _ _ (k _ (y.put u v))
theorem Kn(h:∀ a,Fr n al a->(execOp a.eval ⟨none,op,ty,pos,aft,none⟩).run P w=.ok .skip w')(k:WL P n ops Q rest al w'): WL P n ops Q (⟨none,op,ty,pos,aft,none⟩::rest) al w:=λa u=>
 wpList_plain rfl λK y=>by
  unfold Oper.wp;rw[h a u,Oper.upon_skip];exact y _ _ (k _ u)
theorem wp{tt:TT}(hT:TOk P tt)(hv:pv tt (ev al) op=some v)(hd:Nat.blt d n=true)(k:WL P n ops Q rest ((d,v)::al) w):
  WL P n ops Q (⟨some d,op,ty,pos,aft,none⟩::rest) al w :=
 wop hd (λa D=>Uv w hT (λx u y=>D.ev y) hv) k
theorem wpn{tt:TT}(hT:TOk P tt)(hv:pv tt (ev al) op=some v)(k:WL P n ops Q rest al w):
  WL P n ops Q (⟨none,op,ty,pos,aft,none⟩::rest) al w:=λa y=>
 wpList_plain rfl λK F=>by
  unfold Oper.wp;rw[Uv w hT (λx u D=>y.ev D) hv,Oper.upon_value];exact F _ _ (k _ y)
theorem wpe{tt:TT}(hT:TOk P tt)(hv:pv tt (ev al) op=some v)(hd:Nat.blt d n=true)(e:v=v')(k:WL P n ops Q rest ((d,v')::al) w):
  WL P n ops Q (⟨some d,op,ty,pos,aft,none⟩::rest) al w:=by grind [wp]
theorem wadd{b:Int}(hx:ev al x=some (.int .i64 a))(hy:ev al y=some (.int .i64 b))(hc:-9223372036854775808<=a+b/\a+b<=9223372036854775807)(hd:Nat.blt d n=true)(k:WL P n ops Q rest ((d,.int .i64 (a+b))::al) w): WL P n ops Q (⟨some d,.binOp .add t x y yt,ty,pos,aft,none⟩::rest) al w :=
 wpe (tt:=[]) trivial (v:=.int .i64 (IntKind.i64.wrap (a+b))) (by grind [pv,bop]) hd (by rw[IntKind.wrap_i64];congr 1;omega) k
theorem wsub{b:Int}(hx:ev al x=some (.int .i64 a))(hy:ev al y=some (.int .i64 b))(hc:-9223372036854775808<=a-b/\a-b<=9223372036854775807)(hd:Nat.blt d n=true)(k:WL P n ops Q rest ((d,.int .i64 (a-b))::al) w): WL P n ops Q (⟨some d,.binOp .sub t x y yt,ty,pos,aft,none⟩::rest) al w :=
 wpe (tt:=[]) trivial (v:=.int .i64 (IntKind.i64.wrap (a-b))) (by grind [pv,bop]) hd (by rw[IntKind.wrap_i64];congr 1;omega) k
theorem wmul{b:Int}(hx:ev al x=some (.int .i64 a))(hy:ev al y=some (.int .i64 b))(hc:-9223372036854775808<=a*b/\a*b<=9223372036854775807)(hd:Nat.blt d n=true)(k:WL P n ops Q rest ((d,.int .i64 (a*b))::al) w): WL P n ops Q (⟨some d,.binOp .mul t x y yt,ty,pos,aft,none⟩::rest) al w :=
 wpe (tt:=[]) trivial (v:=.int .i64 (IntKind.i64.wrap (a*b))) (by grind [pv,bop]) hd (by rw[IntKind.wrap_i64];congr 1;omega) k
theorem wshl{b:Int}(hx:ev al x=some (.int k1 a))(hy:ev al y=some (.int k2 b))(h0:0<=b)(hd:Nat.blt d n=true)(k:WL P n ops Q rest ((d,.int k1 (k1.wrap (a*2^(min b.toNat k1.bits))))::al) w): WL P n ops Q (⟨some d,.binOp .shl t x y yt,ty,pos,aft,none⟩::rest) al w :=
 wop hd (λe u=>by
  have D:¬ b<0:=om
  simp[execOp,u.ev hx,u.ev hy,eqGuard,binOp,Op.shift,D]) k
theorem Zs{b:Int}(hx:ev al x=some (.int k1 a))(hy:ev al y=some (.int k2 b))(h0:0<=b)(hd:Nat.blt d n=true)(k:WL P n ops Q rest ((d,.int k1 (a.fdiv (2^(min b.toNat k1.bits))))::al) w): WL P n ops Q (⟨some d,.binOp .shr t x y yt,ty,pos,aft,none⟩::rest) al w :=
 wop hd (λe u=>by
  have D:¬ b<0:=om
  simp[execOp,u.ev hx,u.ev hy,eqGuard,binOp,Op.shift,D]) k
theorem Jjr{b:Int}(hx:ev al x=some (.int k1 a))(hy:ev al y=some (.int k1 b))(h0:b≠0)(hd:Nat.blt d n=true)(k:WL P n ops Q rest ((d,.int k1 (k1.wrap (a.tdiv b)))::al) w): WL P n ops Q (⟨some d,.binOp .quo t x y yt,ty,pos,aft,none⟩::rest) al w :=
 wop hd (λe u=>by simp[execOp,u.ev hx,u.ev hy,eqGuard,binOp,Op.intDiv,h0]) k
theorem Kl{b:Int}(hx:ev al x=some (.int k1 a))(hy:ev al y=some (.int k1 b))(h0:b≠0)(hd:Nat.blt d n=true)(k:WL P n ops Q rest ((d,.int k1 (a.tmod b))::al) w): WL P n ops Q (⟨some d,.binOp .rem t x y yt,ty,pos,aft,none⟩::rest) al w :=
 wop hd (λe u=>by simp[execOp,u.ev hx,u.ev hy,eqGuard,binOp,Op.intDiv,h0]) k
def Xs(ops:Array Oper)(j:Nat): Option Nat:=match nth ops.toList j with
 | some o=>o.dst
 | none=>none
theorem Kh{a:Act}(ha:Fr n al a)(hj:Xs ops j=some s)(hs:lk al s=some (.bool b)): yielded ops a.tmps j=some b:=by
 unfold Xs at hj;rw[Xq]at hj;split at hj
 .rename_i o ho;have y:ops[j]?=some o:=by rw[<-ho];simp
  have:=ha.has s _ hs;simp only[Array.getD_eq_getD_getElem?]at this;cases hq:a.tmps[s]? with
  | none=>rw[hq]at this;cases this
  | some u=>
   rw[hq]at this;simp only[Option.getD_some]at this;subst this;simp[yielded,y,hj,hq]
 cases hj
theorem Qjt{dst:Option Nat}(hj:Xs ops j=some s)(hs:lk al s=some (.bool b))(k:WL P n ops Q (⟨dst,op,ty,pos,aft,none⟩::rest) al w):
  WL P n ops Q (⟨dst,op,ty,pos,aft,some (j,b)⟩::rest) al w:=λa u=>by
 have h:=k a u;have y:=Kh (ops:=ops) u hj hs;unfold wpList at h ⊢;have F:Region.wanted (⟨dst,op,ty,pos,aft,none⟩:Oper) (yielded ops a.tmps)=true:=rfl;have D:Region.wanted (⟨dst,op,ty,pos,aft,some (j,b)⟩:Oper) (yielded ops a.tmps)=true:=by simp[Region.wanted,y]
 rw[if_pos F]at h;rw[if_pos D];exact h
theorem wpass{c:Bool}(hj:Xs ops j=some s)(hs:lk al s=some (.bool b))(hne:(b == c)=false)(hd:Nat.blt d n=true)(k:WL P n ops Q rest ((d,undef)::al) w):
  WL P n ops Q (⟨some d,op,ty,pos,aft,some (j,c)⟩::rest) al w:=λa y=>by
 have u:d<n:=by(have:d+1<=n:=by simpa [Nat.blt] using hd);(omega)
 have D:=Kh (ops:=ops) y hj hs;unfold wpList;have F:¬ Region.wanted (⟨some d,op,ty,pos,aft,some (j,c)⟩:Oper) (yielded ops a.tmps)=true:=by
  simp[Region.wanted,D];simpa using hne
 rw[if_neg F];exact k _ (y.put u undef)
theorem wpart(s:Nat)(hs:lk al s=some (.bool b))(ht:b=true->WL P n ops Q l ((s,.bool true)::al) w)(hf:b=false->WL P n ops Q l ((s,.bool false)::al) w): WL P n ops Q l al w:=by
 cases b
 .exact(hf rfl).sub (Sub.cons hs Sub.refl)
 exact(ht rfl).sub (Sub.cons hs Sub.refl)
theorem wknow(s:Nat)(u:Value)(hs:lk al s=some v)(hv:v=u)(k:WL P n ops Q l ((s,u)::al) w): WL P n ops Q l al w:=by
 subst hv;exact k.sub (Sub.cons hs Sub.refl)
theorem wkt(s:Nat)(hs:lk al s=some (.bool b))(hb:b=true)(k:WL P n ops Q l ((s,.bool true)::al) w): WL P n ops Q l al w:=by
 subst hb;exact k.sub (Sub.cons hs Sub.refl)
theorem wkf(s:Nat)(hs:lk al s=some (.bool b))(hb:b=false)(k:WL P n ops Q l ((s,.bool false)::al) w): WL P n ops Q l al w:=by
 subst hb;exact k.sub (Sub.cons hs Sub.refl)
end
theorem beq_t{b:Int}(h:a=b): (a == b)=true:=beq_iff_eq.2 h
theorem Jtb{b:Int}(h:a≠b): (a == b)=false:=beq_eq_false_iff_ne.2 h
theorem Yp{b:Int}(h:(a == b)=true): a=b:=beq_iff_eq.1 h
theorem Vr{b:Int}(h:(a == b)=false): a≠b:=beq_eq_false_iff_ne.1 h
theorem bne_f{b:Int}(h:a=b): (a != b)=false:=by subst h;simp
theorem Jzr{b:Int}(h:(a != b)=true): a≠b:=bne_iff_ne.1 h
theorem Jzs{b:Int}(h:(a != b)=false): a=b:=by simpa using h
theorem Vf(h:-9223372036854775808<=z/\z<=9223372036854775807): IntKind.i64.wrap z=z:=by rw[IntKind.wrap_i64];omega
theorem Yh(h:0<=z/\z<=18446744073709551615): IntKind.u64.wrap z=z:=by rw[IntKind.wrap_u64];omega
end Go.Wk
namespace Go.Wk
open Go.RowKit
variable {p:Addr}{parts:Array (Nat×Operand)}{ats:Array TypeId}{fn:Func}{f:FuncId}{kd:IntKind}{l:List UInt8}{args cs news vs xs:List Value}{base bytes c c' e g m m' n q t:Nat}{x:Operand}{A A':Option Addr}{dst r row:Option Nat}{hi lo mx:Option Operand}{k k2 k3:TK}{i:TypeInfo}{u v y z:Value}{Φ:Value->World->Prop}{a b w w':World}
abbrev Ext(w w':World): Prop:=Below w.heap.size w w'
theorem Ext.refl(w:World): Ext w w:=Below.refl _ _
theorem Ext.trans{a b c:World}(h:Ext a b)(k:Ext b c): Ext a c:=Below.trans h (k.mono h.size)
theorem Ext.drew{a b:World}(h:Ext a b): Ext a b.drew:=Below.drew h
theorem Ext.alloc{a b:World}(h:Ext a b)(o:Obj): Ext a (b.alloc o):=Below.alloc h h.size o
theorem Ext.setCell{a b:World}(h:Ext a b){p:Addr}(hp:a.heap.size<=p.block)(u:Value): Ext a (b.setCell p u):=Below.setCell h hp u
theorem Yg(a:Addr)(n:Nat): (a.add n).block=a.block:=by unfold Addr.add;split<;>rfl
theorem Jdb(a:Addr)(i j:Nat): (a.add i).add j=a.add (i+j):=by
 unfold Addr.add;grind
theorem add_zero(a:Addr): a.add 0=a:=by simp[Addr.add]
theorem Za(b o j:Nat): (⟨b,o,none⟩:Addr).add j=⟨b,o+j,none⟩:=by unfold Addr.add;split<;>simp_all
def adr(A:Option Addr)(k:Nat): Addr:=(A.getD ⟨0,0,none⟩).add k
theorem Gv(A:Option Addr)(k j:Nat): (adr A k).add j=adr A (k+j):=by unfold adr;rw[Jdb]
def Rd(w:World)(sz:Nat)(A:Option Addr)(n:Nat)(cs:List Value): Prop :=
 cs.length=n*sz/\(0<cs.length->∃ ad,A=some ad/\ad.block<w.heap.size/\∀ j u,cs[j]?=some u->w.cell? (ad.add j)=some u)
section
variable {w w':World} {sz n:Nat} {A:Option Addr} {cs:List Value}
theorem Rd.nil: Rd w sz A 0 []:=⟨by simp,λh=>absurd h (by simp)⟩
theorem Rd.len(h:Rd w sz A n cs): cs.length=n*sz:=h.1
theorem Rd.ext(h:Rd w sz A n cs)(hx:Ext w w'): Rd w' sz A n cs :=
 ⟨h.1,λh0=>by
  obtain⟨y,e,G,F⟩:=h.2 h0;exact⟨y,e,Nat.lt_of_lt_of_le G hx.size,λj u D=>(hx.cell (p:=y.add j) (by grind [Yg])).trans (F j u D)⟩⟩
theorem Rd.cell(h:Rd w sz A n cs){k:Nat}(hk:cs[k]?=some u): w.cell? (adr A k)=some u:=by
 obtain⟨D,rfl,_,y⟩:=h.2 (by grind);exact y k u hk
theorem Rd.isome(h:Rd w sz A n cs)(h0:0<n)(hs:0<sz): ∃ ad,A=some ad/\ad.block<w.heap.size:=by
 obtain⟨ad,e,u,_⟩:=h.2 (by rw[h.1];exact Nat.mul_pos h0 hs);exact⟨ad,e,u⟩
theorem Rd.cut(h:Rd w sz A n cs)(k m q:Nat)(hk:k<=m)(hm:m<=n)(hq:n<=q∨k<q∨k=m):
  Rd w sz (if q=k then A else A.map (·.add (k*sz))) (m-k) ((cs.drop (k*sz)).take ((m-k)*sz)):=by
 refine⟨?_,λh0=>?_⟩
 .rw[List.length_take,List.length_drop,h.1,<-Nat.sub_mul];grind [Nat.min_eq_left,Nat.mul_le_mul_right]
 rw[List.length_take,List.length_drop,h.1]at h0;have y:k<m:=by grind
 obtain⟨D,rfl,J,G⟩:=h.2 (by rw[h.1];omega);rw[if_neg om];refine⟨D.add (k*sz),rfl,by grind [Yg],λj u F=>?_⟩;rw[Jdb];grind
theorem Rd.own{e:TypeId}(h:w.ownsRow base e sz (.slice A n c) n cs): Rd w sz A n cs:=by
 refine⟨h.1,λh0=>?_⟩;have hn:0<n:=by
  rcases Nat.eq_zero_or_pos n with h'|h'
  .rw[h.1,h']at h0;simp at h0
  exact h'
 obtain⟨g,F,y,_,u⟩:=h.form hn;have D:A=some ⟨g,0,none⟩:=by injection y
 subst D;exact⟨_,rfl,u,h.cells (g:=g) rfl⟩
end
def RdV(w:World)(sz:Nat)(v:Value)(cs:List Value): Prop:=∃ A n c,v=.slice A n c/\n<=c/\Rd w sz A n cs
theorem RdV.ext{w w':World}{sz:Nat}{v:Value}{cs:List Value}(h:RdV w sz v cs)(hx:Ext w w'): RdV w' sz v cs:=by
 obtain⟨A,n,c,u,D,y⟩:=h;exact⟨A,n,c,u,D,y.ext hx⟩
theorem Jy{e:TypeId}{sz:Nat}(h:w.ownsRow base e sz v n cs): ∃ A c,v=.slice A n c/\n<=c/\(∀ g,v.ownBlock=some g->base<=g/\g<w.heap.size):=by
 rcases h.2 with⟨rfl,rfl⟩|⟨g,cap,cur,rfl,hb,hh,hle,_⟩
 .exact⟨none,0,rfl,Nat.le_refl _,λg u=>by simp[Value.ownBlock]at u⟩
 refine⟨_,cap,rfl,hle,λy u=>?_⟩;have:g=y:=by simpa [Value.ownBlock] using u
 grind
theorem RdV.own{w:World}{base:Nat}{e:TypeId}{sz n:Nat}{v:Value}{cs:List Value}(h:w.ownsRow base e sz v n cs): RdV w sz v cs:=by
 obtain⟨A,c,rfl,u,_⟩:=Jy h;exact⟨A,n,c,rfl,u,Rd.own h⟩
theorem Xj(w:World)(base:Nat)(e:TypeId)(sz:Nat): w.ownsRow base e sz (.slice none 0 0) 0 []:=⟨by simp,.inl ⟨rfl,rfl⟩⟩
def Blk(w:World)(g:Nat)(t:TypeId)(cs:List Value): Prop:=w.heap[g]?=some (.cells cs.toArray t (0,0))
section
variable {w w':World} {g:Nat} {t:TypeId} {cs:List Value}
theorem Blk.lt(h:Blk w g t cs): g<w.heap.size:=by grind [Nat.lt_or_ge,Blk]
theorem Blk.cell(h:Blk w g t cs)(i:Nat): w.cell? ⟨g,i,none⟩=cs[i]?:=by
 unfold Blk at h;simp[World.cell?,h]
theorem Blk.at(h:Blk w g t cs){i:Nat}(hv:cs[i]?=some v): w.cell? ((⟨g,0,none⟩:Addr).add i)=some v:=by
 rw[Za,Nat.zero_add,h.cell,hv]
theorem Blk.frozen(h:Blk w g t cs)(i:Nat): w.frozen? ⟨g,i,none⟩=false:=by
 unfold Blk at h;simp[World.frozen?,h]
theorem Blk.ext(h:Blk w g t cs)(hx:Ext w w'): Blk w' g t cs:=(hx.block g h.lt).trans h
theorem Blk.set(h:Blk w g t cs)(i:Nat)(u:Value): Blk (w.setCell ⟨g,i,none⟩ u) g t (cs.set i u):=by
 unfold Blk at h ⊢;simp[World.setCell,Array.getElem?_modify,h]
theorem Blk.far(h:Blk w g t cs)(hp:g≠p.block)(u:Value): Blk (w.setCell p u) g t cs:=(Below.heap_setCell w p u g hp).trans h
theorem Blk.grown(h:Blk w g t cs)(hb:w.grownBy w' row)(hg:some g≠row): Blk w' g t cs:=(hb.block g h.lt hg).trans h
theorem Blk.rd(h:Blk w g t cs){sz:Nat}(hl:cs.length=n*sz): Rd w sz (some ⟨g,0,none⟩) n cs :=
 ⟨hl,λ_=>⟨_,rfl,h.lt,λj u y=>h.at y⟩⟩
theorem Blk.own(h:Blk w g t cs){sz:Nat}(hb:base<=g)(hl:cs.length=n*sz)(hm:n<=maxLen): w.ownsRow base t sz (.slice (some ⟨g,0,none⟩) n n) n cs :=
 ⟨hl,.inr ⟨g,n,cs.toArray,rfl,hb,h,Nat.le_refl _,hm,by simpa using hl,by rw[<-hl];simp⟩⟩
end
theorem Jr(h:Ext a w)(hg:w.grownBy w' row)(hr:∀ k,row=some k->a.heap.size<=k): Ext a w':=Below.grown h hg h.size hr
theorem Rd.grown{sz:Nat}(h:Rd w sz A n cs)(hg:w.grownBy w' row)(hr:∀ ad,A=some ad->row≠some ad.block): Rd w' sz A n cs :=
 ⟨h.1,λh0=>by
  obtain⟨ad,e,y,F⟩:=h.2 h0;refine⟨ad,e,Nat.lt_of_lt_of_le y hg.size,λj u D=>?_⟩;rw[<-F j u D];exact World.cell?_of_block (by rw[Yg];exact hg.block _ y (λG=>hr ad e G.symm))⟩
def Jtx(P:Program)(f:FuncId): Prop:=∃ fn c,P.funcs[f]?=some fn/\fn.body=some c/\(fn.name == "runtime.NumGoroutine")=false
structure Ret(P:Program)(f:FuncId)(vs:List Value)(w:World)(Φ:Value->World->Prop): Prop where
 ok:Jtx P f
 calls:Calls P f vs.toArray w λe w'=>∃ v,e=.returned v/\Φ v w'
section
variable {P:Program} {n:Nat} {al:AL} {w:World}
theorem Ret.mono{f:FuncId}{vs:List Value}{Φ Φ':Value->World->Prop}(h:Ret P f vs w Φ)(hm:∀ v w',Φ v w'->Φ' v w'): Ret P f vs w Φ' :=
 ⟨h.ok,h.calls.mono λe w' ⟨v,y,u⟩=>⟨v,y,hm v w' u⟩⟩
def Ze(P:Program)(fn:Func)(Φ:Value->World->Prop): Exit->Act->World->Prop:=bodyPost P fn λe w'=>∃ v,e=.returned v/\Φ v w'
theorem Jz{c:Code}(hf:P.funcs[f]?=some fn)(hn:fn.ntmps=n)(hb:fn.body=some c)(hname:(fn.name == "runtime.NumGoroutine")=false)(hle:Nat.ble args.length n=true)(h:WC P n c (Ze P fn Φ) (al0 0 args) w): Ret P f args w Φ :=
 ⟨⟨fn,c,hf,hb,hname⟩,enter hf hb hn hle h⟩
theorem done1(hr:fn.results = #[.tmp t])(ht:lk al t=some v)(h:Φ v w): QX n (Ze P fn Φ) .ret al w:=Qvg hr ht ⟨v,rfl,h⟩
theorem done2{u:Nat}{x:Value}(hr:fn.results = #[.tmp t,.tmp u])(ht:lk al t=some x)(hu:lk al u=some y)(h:Φ (.tuple #[x,y]) w): QX n (Ze P fn Φ) .ret al w:=Qvf hr ht hu ⟨_,rfl,h⟩
theorem done3{u s:Nat}{x:Value}(hr:fn.results = #[.tmp t,.tmp u,.tmp s])(ht:lk al t=some x)(hu:lk al u=some y)(hs:lk al s=some z)(h:Φ (.tuple #[x,y,z]) w): QX n (Ze P fn Φ) .ret al w:=Qvd hr ht hu hs ⟨_,rfl,h⟩
theorem done4{u s r:Nat}{x q:Value}(hr:fn.results = #[.tmp t,.tmp u,.tmp s,.tmp r])(ht:lk al t=some x)(hu:lk al u=some y)(hs:lk al s=some z)(hq:lk al r=some q)(h:Φ (.tuple #[x,y,z,q]) w): QX n (Ze P fn Φ) .ret al w:=Qvc hr ht hu hs hq ⟨_,rfl,h⟩
def Jwp(P:Program)(al:AL)(w:World): List ResultVar->List Value->Prop
 | [],[]=>True
 | .tmp t::r,v::vs=>lk al t=some v/\Jwp P al w r vs
 | .cell t ty::r,v::vs=>(∃ p,lk al t=some (.pointer (some p))/\(loadVar ty p).run P w=.ok v w)/\Jwp P al w r vs
 | _,_=>False
def Jzf(a:Act): ResultVar->Sem Value
 | .tmp t=>pure (a.tmps.getD t undef)
 | .cell b t=>do loadVar t (<-asAddr (a.tmps.getD b undef))
theorem Jvv{a:Act}(ha:Fr n al a): ∀ {rs:List ResultVar} {vs:List Value},Jwp P al w rs vs->(rs.mapM (Jzf a)).run P w=Result.ok vs w
 | [],[],_=>rfl
 | [],_::_,h=>h.elim
 | .tmp t::r,[],h=>h.elim
 | .cell _ _::_,[],h=>h.elim
 | .tmp t::r,v::vs,h=>by
  obtain⟨h1,h2⟩:=h;have:=Jvv ha h2;rw[List.mapM_cons,Sem.run_bind];simp only[Jzf,Sem.run_pure,Result.andThen_ok,Sem.run_bind,this,ha.has t v h1]
 | .cell b t::r,v::vs,h=>by
  obtain⟨⟨p,h1,h1'⟩,h2⟩:=h;have:=Jvv ha h2;rw[List.mapM_cons,Sem.run_bind];simp only[Jzf,Sem.run_bind,ha.has b _ h1,asAddr,Sem.run_pure,Result.andThen_ok,h1',this]
theorem Jkz{rs:List ResultVar}(hr:fn.results=rs.toArray)(hv:Jwp P al w rs vs)(hv':(if h:vs.toArray.size=1 then vs.toArray[0] else .tuple vs.toArray)=v)(h:Φ v w): QX n (Ze P fn Φ) .ret al w:=λa u=>by
 refine bodyPost_ret (v:=v) ?_ u.defers ⟨v,rfl,h⟩;have:=Jvv u hv;subst hv';have e:results fn a.tmps=(do let vs <-fn.results.mapM (Jzf a);pure (if h:vs.size=1 then vs[0] else .tuple vs)):=by
  unfold results;congr 1
 rw[e,hr,List.mapM_toArray];simp only[Sem.run_bind,Sem.run_map,this,Result.andThen_ok,Sem.run_pure]
end
section
variable {P:Program} {n:Nat} {al:AL} {w:World} {Q:Exit->Act->World->Prop} {ops:Array Oper} {rest:List Oper}
variable {d ty:Nat} {op:Op} {pos:String} {aft:Array Edge} {tt:TT}
theorem Jzd(h:Jtx P f)(args:Array Value)(w:World): (callFunc f args).run P w=.ok (.enter f args) w:=by
 obtain⟨G,c,F,D,y⟩:=h;have u:¬ G.name = "runtime.NumGoroutine":=by simpa using y
 simp[callFunc,F,D,u]
theorem Jkv{o:Oper}{a:Act}{K:Act->World->Prop}(h:(execOp a.eval o).run P w=.ok (.enter f vs.toArray) w)(hc:Ret P f vs w Φ)(k:∀ v w',Φ v w'->K (a.put o.dst v) w'): o.wp P a w K Q:=by
 unfold Oper.wp;rw[h,Oper.upon_enter];refine hc.calls.mono ?_;grind
theorem wcall{xs:Array Operand}(hx:evs al xs.toList=some vs)(hd:Nat.blt d n=true)(hc:Ret P f vs w Φ)(k:∀ v w',Φ v w'->WL P n ops Q rest ((d,v)::al) w'): WL P n ops Q (⟨some d,.call { callee:=.value (.func f),args:=xs,argTypes:=ats },ty,pos,aft,none⟩::rest) al w:=λa y=>
 wpList_plain rfl λK F=>by
  have u:d<n:=by(have:d+1<=n:=by simpa [Nat.blt] using hd);(omega)
  have J:xs.map a.eval=vs.toArray:=by rw[<-y.evs hx,<-List.map_toArray,Array.toArray_toList]
  have G:(execOp a.eval ⟨some d,.call { callee:=.value (.func f),args:=xs,argTypes:=ats },ty,pos,aft,none⟩).run P w=.ok (.enter f vs.toArray) w:=by
   simp[execOp,resolve,J,Act.eval,Deferred.ofValue,invoke,Jzd hc.ok]
  exact Jkv G hc λv w' D=>F _ _ (k v w' D _ (y.put u v))
theorem Qjz{first captured:Array Value}{xs:Array Operand}(hf:ev al x=some (.func (.func f) first captured))(hx:evs al xs.toList=some vs)(hd:Nat.blt d n=true)(hc:Ret P f (first.toList++vs++captured.toList) w Φ)(k:∀ v w',Φ v w'->WL P n ops Q rest ((d,v)::al) w'): WL P n ops Q (⟨some d,.call { callee:=.value x,args:=xs,argTypes:=ats },ty,pos,aft,none⟩::rest) al w:=λa y=>
 wpList_plain rfl λK F=>by
  have u:d<n:=by(have:d+1<=n:=by simpa [Nat.blt] using hd);(omega)
  have J:xs.map a.eval=vs.toArray:=by rw[<-y.evs hx,<-List.map_toArray,Array.toArray_toList]
  have G:(execOp a.eval ⟨some d,.call { callee:=.value x,args:=xs,argTypes:=ats },ty,pos,aft,none⟩).run P w=.ok (.enter f (first.toList++vs++captured.toList).toArray) w:=by
   have e:(first.toList++vs++captured.toList).toArray=first++vs.toArray++captured:=by apply Array.ext';simp
   rw[e];simp[execOp,resolve,J,y.ev hf,Deferred.ofValue,invoke,Jzd hc.ok]
  exact Jkv G hc λv w' D=>F _ _ (k v w' D _ (y.put u v))
theorem Ua(hT:TOk P tt){sz:Nat}(ht:tk tt t=some k)(hk:k.desc=.slice e)(hz:k.esz=sz): P.underlying t=some (.slice e)/\Xh P e=some sz:=by
 have:=hT.at ht;grind [Vn]
def Zw: TypeDesc->Bool
 | .bool | .int _ | .string | .pointer _ | .slice _ | .map _ _ | .func _ _ _ | .interface _=>true
 | _=>false
theorem Jxw(hT:TOk P tt)(ht:tk tt t=some k)(hk:Zw k.desc=true)(w:World): (isAgg t).run P w=.ok false w/\Xh P t=some k.size:=by
 have:=hT.at ht;unfold Vn at this;revert this
 cases hd:k.desc<;>intro h<;>rw[hd]at hk<;>simp[Zw]at hk<;>first
  | exact⟨by simp[isAgg,run_underlying h.1],h.2⟩
  | exact⟨by simp[isAgg,run_underlying h.1],h.2.2⟩
theorem Jjz(hT:TOk P tt)(ht:tk tt t=some k)(hk:k.desc=.invalid)(w:World): (isAgg t).run P w=.ok true w/\Xh P t=some k.size:=by
 have:=hT.at ht;unfold Vn at this;rw[hk]at this;obtain⟨fs,y,_,u⟩:=this;exact⟨by simp[isAgg,run_underlying y],u⟩
theorem Jdv(hT:TOk P tt){i:Operand}{sz:Nat}{z:Int}(q:Nat)(j:Nat)(ht:tk tt t=some k)(hk:k.desc=.slice e)(hz:k.esz=sz)(hx:ev al x=some (.slice A m c))(hi:ev al i=some (.int kd z))(hr:Rd w sz A m cs)(hj:z=(j:Int))(hlt:j<m)(h0:0<sz)(hq:j*sz=q)(hd:Nat.blt d n=true)(kk:WL P n ops Q rest ((d,.pointer (some (adr A q)))::al) w): WL P n ops Q (⟨some d,.indexAddr t x i,ty,pos,aft,none⟩::rest) al w:=by
 obtain⟨y,D⟩:=Ua hT ht hk hz;obtain⟨G,rfl,F⟩:=hr.isome om h0;subst hj;subst hq;refine wop hd (λa u=>?_) kk;simp[execOp,u.ev hx,u.ev hi,Instr.indexAt,asIntOf,run_underlying y,Vj w D,adr];intro h;omega
theorem wload(hT:TOk P tt)(ht:tk tt t=some k)(hk:Zw k.desc=true)(hx:ev al x=some (.pointer (some p)))(hc:w.cell? p=some v)(hd:Nat.blt d n=true)(kk:WL P n ops Q rest ((d,v)::al) w): WL P n ops Q (⟨some d,.load t x,ty,pos,aft,none⟩::rest) al w :=
 wop hd (λa u=>by simp[execOp,u.ev hx,Instr.loadAt,Instr.sureAddr,loadVar,(Jxw hT ht hk w).1,hc]) kk
theorem Ku(hT:TOk P tt)(ht:tk tt t=some k)(hk:k.desc=.invalid)(hl:k.size=cs.length)(hc:∀ j u,cs[j]?=some u->w.cell? (p.add j)=some u): (loadVar t p).run P w=.ok (.agg cs.toArray) w:=by
 have y:=run_loadCells_list (P:=P) w p cs hc;rw[<-hl]at y;simp[loadVar,(Jjz hT ht hk w).1,Vj w (Jjz hT ht hk w).2,y]
theorem Jgv(hT:TOk P tt)(ht:tk tt t=some k)(hk:Zw k.desc=true)(hc:w.cell? p=some v): (loadVar t p).run P w=.ok v w:=by
 simp[loadVar,(Jxw hT ht hk w).1,hc]
theorem Qjn(hT:TOk P tt)(ht:tk tt t=some k)(hk:k.desc=.invalid)(hl:k.size=cs.length)(hx:ev al x=some (.pointer (some p)))(hc:∀ j u,cs[j]?=some u->w.cell? (p.add j)=some u)(hd:Nat.blt d n=true)(kk:WL P n ops Q rest ((d,.agg cs.toArray)::al) w): WL P n ops Q (⟨some d,.load t x,ty,pos,aft,none⟩::rest) al w :=
 wop hd (λa y=>by simp[execOp,y.ev hx,Instr.loadAt,Instr.sureAddr,Ku (w:=w) hT ht hk hl hc]) kk
theorem Jdh(hT:TOk P tt){y:Operand}(ht:tk tt t=some k)(hk:k.size=1)(hp:Zw k.desc=true)(hx:ev al x=some (.pointer (some p)))(hy:ev al y=some v)(hv:v.oneCell'=true)(hc:w.cell? p=some u)(hf:w.frozen? p=false)(kk:WL P n ops Q rest al (w.setCell p v)): WL P n ops Q (⟨none,.store t x y,ty,pos,aft,none⟩::rest) al w:=by
 refine Kn (λa G=>?_) kk;have F:=(Jxw hT ht hp w).2;rw[hk]at F;have D:v.cells = #[v]:=by cases v<;>simp_all [Value.oneCell',Value.cells]
 simp[execOp,G.ev hx,G.ev hy,Instr.storeAt,Instr.sureAddr,storeVar,D,Vj w F,storeCells,add_zero,run_store P w p v .plain hv,hc,hf]
theorem Il(w:World)(t:TypeId)(cs:List Value): Ext w (w.alloc (.cells cs.toArray t))/\Blk (w.alloc (.cells cs.toArray t)) w.heap.size t cs :=
 ⟨(Ext.refl w).alloc _,heap_alloc_new w _⟩
theorem wbox(hx:ev al x=some v)(hv:v.cells=cs.toArray)(hd:Nat.blt d n=true)(kk:∀ w1 b,Ext w w1->w.heap.size<=b->Blk w1 b t cs->WL P n ops Q rest ((d,.pointer (some ⟨b,0,none⟩))::al) w1): WL P n ops Q (⟨some d,.box t x,ty,pos,aft,none⟩::rest) al w :=
 wop hd (λa u=>by
   show _=Result.ok (Next.value (.pointer (some ⟨w.heap.size,0,none⟩))) (w.alloc (.cells cs.toArray t));simp[execOp,u.ev hx,Instr.box,newVar,newRow,hv]) (kk _ _ (Il w t cs).1 (nR _) (Il w t cs).2)
theorem Qqh(hz:Qu P t=some z)(hv:z.cells=cs.toArray)(hd:Nat.blt d n=true)(kk:∀ w1 b,Ext w w1->w.heap.size<=b->Blk w1 b t cs->WL P n ops Q rest ((d,.pointer (some ⟨b,0,none⟩))::al) w1): WL P n ops Q (⟨some d,.alloc t,ty,pos,aft,none⟩::rest) al w:=by
 have u:(zeroValue t).run P w=.ok z w:=by
  unfold Qu at hz;obtain⟨i,D,y⟩:=Option.bind_eq_some_iff.1 hz;simp[zeroValue,typeInfo,D,y]
 exact wop hd (λa F=>by
   show _=Result.ok (Next.value (.pointer (some ⟨w.heap.size,0,none⟩))) (w.alloc (.cells cs.toArray t));simp[execOp,Instr.alloc,u,newVar,newRow,hv]) (kk _ _ (Il w t cs).1 (nR _) (Il w t cs).2)
theorem Qqd(hx:evs al (parts.toList.map (·.2))=some vs)(hb:(Instr.build t ((parts.toList.map (·.1)).zip vs).toArray).run P w=.ok v w)(hd:Nat.blt d n=true)(kk:WL P n ops Q rest ((d,v)::al) w): WL P n ops Q (⟨some d,.build t parts,ty,pos,aft,none⟩::rest) al w :=
 wop hd (λa u=>by
  have D:=u.evs hx;have y:(parts.map fun (i,x)=>(i,a.eval x))=((parts.toList.map (·.1)).zip vs).toArray:=by grind
  simp[execOp,y,hb]) kk
def Bnd(al:AL)(o:Option Operand)(dflt r:Nat): Prop:=match o with
 | none=>r=dflt
 | some x=>∃ k z,ev al x=some (.int k z)/\z=(r:Int)
theorem Uk{x:Value}{k:IntKind}{z:Int}{r y:Nat}{code:BoundsCode}(hx:x=.int k z)(hz:z=(r:Int))(h:r<=y)(w:World): (Instr.sliceBound x y code).run P w=.ok r w:=by
 subst hx;subst hz;have:(r:Int)<=(y:Int):=om
 simp[Instr.sliceBound,asIntOf];intro h;omega
theorem Jgp{w:World}{a:Act}(ha:Fr n al a){sz:Nat}{l h:Nat}(hu:P.underlying t=some (.slice e))(hs:Xh P e=some sz)(hx:ev al x=some (.slice A m c))(hl:Bnd al lo 0 l)(hh:Bnd al hi m h)(hq:Bnd al mx c q)(hm:mx=none∨hi≠none)(h1:l<=h)(h2:h<=q)(h3:q<=c):
  (execOp a.eval ⟨dst,.slice t x lo hi mx,ty,pos,aft,none⟩).run P w=.ok (.value (.slice (if q=l then A else A.map (·.add (l*sz))) (h-l) (q-l))) w:=by
 have hb:(Instr.sliceBounds true m c (lo.map a.eval) (hi.map a.eval) (mx.map a.eval)).run P w=.ok (l,h,q) w:=by
  unfold Instr.sliceBounds;cases mx with
  | none=>
   have:q=c:=hq;subst this;cases hi with
   | none=>
    have:h=m:=hh;subst this;cases lo with
    | none=>have:l=0:=hl;subst this;simp
    | some y=>obtain⟨U,z,O,D⟩:=hl;simp[Uk (P:=P) (ha.ev O) D h1]
   | some y'=>
    obtain⟨k2,Z,F,u⟩:=hh;cases lo with
    | none=>have:l=0:=hl;subst this;simp[Uk (P:=P) (ha.ev F) u h2]
    | some y=>obtain⟨U,z,O,D⟩:=hl;simp[Uk (P:=P) (ha.ev F) u h2,Uk (P:=P) (ha.ev O) D h1]
  | some y3=>
   obtain⟨k3,z3,J,G⟩:=hq;cases hi with
   | none=>simp at hm
   | some y'=>
    obtain⟨k2,Z,F,u⟩:=hh;cases lo with
    | none=>have:l=0:=hl;subst this;simp[Uk (P:=P) (ha.ev J) G h3,Uk (P:=P) (ha.ev F) u h2]
    | some y=>obtain⟨U,z,O,D⟩:=hl;simp[Uk (P:=P) (ha.ev J) G h3,Uk (P:=P) (ha.ev F) u h2,Uk (P:=P) (ha.ev O) D h1]
 simp[execOp,ha.ev hx,Instr.sliceAt,run_underlying hu,Instr.slice,hb,Vj w hs]
theorem Jxn(hT:TOk P tt){sz:Nat}(l h q:Nat)(A':Option Addr)(m' c':Nat)(ht:tk tt t=some k)(hk:k.desc=.slice e)(hz:k.esz=sz)(hx:ev al x=some (.slice A m c))(hl:Bnd al lo 0 l)(hh:Bnd al hi m h)(hq:Bnd al mx c q)(hm:mx=none∨hi≠none)(h1:l<=h)(h2:h<=q)(h3:q<=c)(e1:(if q=l then A else A.map (·.add (l*sz)))=A')(e2:h-l=m')(e3:q-l=c')(hd:Nat.blt d n=true)(kk:WL P n ops Q rest ((d,.slice A' m' c')::al) w): WL P n ops Q (⟨some d,.slice t x lo hi mx,ty,pos,aft,none⟩::rest) al w:=by
 subst e1;subst e2;subst e3;obtain⟨u,y⟩:=Ua hT ht hk hz;grind [wop,Jgp]
theorem Qqc{len:Nat}(hx:evs al (parts.toList.map (·.2))=some vs)(hb:∀ w:World,(Instr.buildSlice t len ((parts.toList.map (·.1)).zip vs).toArray).run P w=.ok (.slice (some ⟨w.heap.size,0,none⟩) len len) (w.alloc (.cells cs.toArray e)))(hd:Nat.blt d n=true)(kk:∀ w1 b,Ext w w1->w.heap.size<=b->Blk w1 b e cs->WL P n ops Q rest ((d,.slice (some ⟨b,0,none⟩) len len)::al) w1): WL P n ops Q (⟨some d,.buildSlice t len parts,ty,pos,aft,none⟩::rest) al w :=
 wop hd (λa u=>by
  have D:=u.evs hx;have y:(parts.map fun (i,x)=>(i,a.eval x))=((parts.toList.map (·.1)).zip vs).toArray:=by grind
  simp[execOp,y,hb]) (kk _ _ (Il w e cs).1 (nR _) (Il w e cs).2)
structure ElT(P:Program)(t e sz bytes:Nat)(z:Value): Prop where
 sl:P.underlying t=some (.slice e)
 info:∃ i,P.info? e=some i/\i.zero=some z/\i.size=sz/\i.bytes=bytes
 cells:z.cells.size=sz
 pos:0<sz
def Apd(w:World)(base e sz:Nat)(v:Value)(m:Nat)(xs:List Value): Prop:=w.ownsRow base e sz v m xs∨∃ A,v=.slice A m m/\Rd w sz A m xs
theorem Apd.ext{w w':World}{base e sz:Nat}{v:Value}{m:Nat}{xs:List Value}(h:Apd w base e sz v m xs)(hx:Ext w w'): Apd w' base e sz v m xs:=by
 rcases h with h|⟨A,hv,hr⟩
 .refine .inl (h.kept (row:=none) ⟨hx.os,hx.tape,hx.output,hx.size,λk u _=>hx.block k u⟩ ?_);grind
 exact .inr ⟨A,hv,hr.ext hx⟩
theorem Jb{w:World}{sz:Nat}(h:w.ownsRow base e sz v m xs)(hx:Ext w w'): w'.ownsRow base e sz v m xs:=by
 refine h.kept (row:=none) ⟨hx.os,hx.tape,hx.output,hx.size,λk u _=>hx.block k u⟩ ?_;grind
theorem Apd.rdv{w:World}{sz:Nat}(h:Apd w base e sz v m xs): RdV w sz v xs:=by
 rcases h with h|⟨A,hv,hr⟩
 .exact RdV.own h
 exact⟨A,m,m,hv,Nat.le_refl _,hr⟩
theorem Qkl{t e:TypeId}(ht:P.underlying t=some (.slice e))(hi:P.info? e=some i)(tyy:TypeId)(A:Option Addr)(m c:Nat)(hmc:m<=c)(w:World)(c':Nat):
  (Builtin.append_ #[t,t] tyy #[.slice A m c,.slice none 0 c']).run P w=.ok (.slice A m c) w:=by
 cases A<;>simp[Builtin.append_,run_underlying ht,sizeOf,typeInfo,hi,Builtin.lenOf,Builtin.firstCells,hmc,storeCells]
theorem Qkk{t e:TypeId}(ht:P.underlying t=some (.slice e))(hi:P.info? e=some i)(tyy:TypeId)(A:Option Addr)(m c:Nat)(hmc:m<=c)(w:World)(A':Option Addr)(c':Nat):
  (Builtin.append_ #[t,t] tyy #[.slice A m c,.slice A' 0 c']).run P w=.ok (.slice A m c) w:=by
 cases A' with
 | none=>exact Qkl ht hi tyy A m c hmc w c'
 | some b=>cases A<;>simp[Builtin.append_,run_underlying ht,sizeOf,typeInfo,hi,Builtin.lenOf,Builtin.firstCells,hmc,storeCells,loadCells,loadCellsFrom]
theorem Jgz{sz:Nat}(hE:ElT P t e sz bytes z)(base:Nat)(tyy:TypeId)(ha:Apd w base e sz v m xs)(hr:Rd w sz A' m' news)(h1:∀ u∈news,u.oneCell'=true)(h63:m+m'<=maxLen)(hby:(m+m')*bytes<=140737488355328)(hbase:base<=w.heap.size):
  ∃ v' w',(Builtin.append_ #[t,t] tyy #[v,.slice A' m' c']).run P w=.ok v' w'/\Apd w' base e sz v' (m+m') (xs++news)/\(0<m'->w'.ownsRow base e sz v' (m+m') (xs++news)) /\
   (w.ownsRow base e sz v m xs->w'.ownsRow base e sz v' (m+m') (xs++news))/\((w.ownsRow base e sz v m xs/\w.grownBy w' v.ownBlock)∨Ext w w')/\(∀ g,v'.ownBlock=some g->v.ownBlock=some g∨w.heap.size<=g):=by
 obtain⟨i,hi,hz,O,Z⟩:=hE.info;rcases Nat.eq_zero_or_pos m' with h0|h0
 .subst h0;have hn:news=[]:=List.eq_nil_of_length_eq_zero (by rw[hr.1];simp);subst hn;obtain⟨A,n0,c,rfl,a1,y⟩:=ha.rdv;have U:n0=m:=by
   rcases ha with h|⟨A2,hv,_⟩
   repeat grind [Jy]
  subst U;refine⟨_,w,Qkk hE.sl hi tyy A n0 c a1 w A' c',by simpa using ha,λh=>absurd h om,λh=>by simpa using h,.inr (Ext.refl w),λg hg=>.inl hg⟩
 obtain⟨ad,rfl,hb,hc⟩:=hr.2 (by rw[hr.1];exact Nat.mul_pos h0 hE.pos);have a3:w.ownsRow base e sz v m xs∨∃ b,v=.slice (some b) m m/\Rd w sz (some b) m xs:=by
  rcases ha with h|⟨A,rfl,y⟩
  .exact .inl h
  cases A with
  | some b=>exact .inr ⟨b,rfl,y⟩
  | none=>
   have hx:xs=[]:=by
    rcases Nat.eq_zero_or_pos xs.length with h'|h'
    .grind
    obtain⟨_,F,_⟩:=y.2 h';cases F
   have hm:m=0:=by
    have:=y.1;rw[hx]at this;have hp:=hE.pos;grind [Nat.mul_eq_zero.1]
   subst hx;subst hm;exact .inl (Xj w base e sz)
 rcases a3 with h|⟨b,rfl,y⟩
 .obtain⟨v',w',D,F,G,_,h5⟩:=run_append_own_at (P:=P) w base t tyy e i z sz bytes hE.sl hi hz O Z hE.cells hE.pos v m xs h ad m' c' news hr.1 hc h1 h63 hby hbase;refine⟨v',w',D,.inl F,λ_=>F,λ_=>F,.inl ⟨h,G⟩,λg hg=>?_⟩;grind
 have a2:∀ j u,xs[j]?=some u->w.cell? (b.add j)=some u:=λj u hu=>by
  obtain⟨b',e',_,a4⟩:=y.2 (by grind);grind
 obtain⟨v',w',D,F,G⟩:=run_append_arg_grows (P:=P) w t tyy e i z sz bytes hE.sl hi hz O Z hE.cells hE.pos b m m xs y.1 a2 ad m' c' news hr.1 hc om h63 hby;have J:w'.ownsRow base e sz v' (m+m') (xs++news):=World.ownsRow.mono F hbase;refine⟨v',w',D,.inl J,λ_=>J,λ_=>J,.inr ⟨G.os,G.tape,G.output,G.size,λk hk=>G.block k hk (by simp)⟩,λg hg=>.inr (World.ownsRow.lt F g hg).1⟩
theorem Xc{w:World}(h:Ext w w')(row:Option Nat): w.grownBy w' row:=⟨h.os,h.tape,h.output,h.size,λk u _=>h.block k u⟩
theorem Xv{c:World}(h:a.grownBy b r)(k:b.grownBy c r): a.grownBy c r :=
 ⟨k.os.trans h.os,k.tape.trans h.tape,k.output.trans h.output,Nat.le_trans h.size k.size,λi hi hn=>(k.block i (nM hi h.size) hn).trans (h.block i hi hn)⟩
theorem Qpd{w:World}{sz:Nat}(h:Ext a w)(hg:(w.ownsRow a.heap.size e sz v m xs/\w.grownBy w' v.ownBlock)∨Ext w w'): Ext a w':=by
 rcases hg with⟨u,hg⟩|hg
 .exact Jr h hg λk y=>(World.ownsRow.lt u k y).1
 exact h.trans hg
theorem Qqg(hxa : Ext a w){sz:Nat}(hE : ElT P t e sz bytes z){y:Operand}(hx : ev al x = some v)(hy : ev al y = some (.slice A' m' c'))(ha : Apd w a.heap.size e sz v m xs)(hr : Rd w sz A' m' news)(h1 : ∀ u ∈ news, u.oneCell' = true)(h63 : m + m' ≤ maxLen)(hby : (m + m') * bytes ≤ 140737488355328)(hd : Nat.blt d n = true)(kk : ∀ v' w', Apd w' a.heap.size e sz v' (m + m') (xs ++ news) → (0 < m' → w'.ownsRow a.heap.size e sz v' (m + m') (xs ++ news)) → (w.ownsRow a.heap.size e sz v m xs → w'.ownsRow a.heap.size e sz v' (m + m') (xs ++ news)) →
      Ext a w' → w.grownBy w' v.ownBlock → (∀ g, v'.ownBlock = some g → v.ownBlock = some g ∨ w.heap.size ≤ g) → WL P n ops Q rest ((d, v') :: al) w'):
    WL P n ops Q (⟨some d, .call { callee := .builtin .append, args := #[x, y], argTypes := #[t, t] }, ty, pos, aft, none⟩ :: rest) al w := by
  obtain ⟨v', w', hrun, k1, k2, k3, k4, k5⟩ := Jgz hE a.heap.size ty ha (c' := c') hr h1 h63 hby hxa.size
  refine wop hd (fun a ha' => ?_) (kk v' w' k1 k2 k3 (Qpd hxa k4) (k4.elim (·.2) (fun h => Xc h _)) k5)
  simp [execOp, resolve, invoke, builtin, ha'.ev hx, ha'.ev hy, hrun]
theorem Blk.one{w:World}{t:TypeId}(h:Blk w g t [v]): Rd w 1 (some ⟨g,0,none⟩) 1 [v]:=h.rd (by simp)
theorem Qjs(hT:TOk P tt){i:Operand}{z:Int}(j:Nat)(ht:tk tt t=some k)(hk:k.desc=.slice e)(hz:k.esz=1)(hx:ev al x=some (.slice A m c))(hi:ev al i=some (.int kd z))(hr:Rd w 1 A m cs)(hj:z=(j:Int))(hlt:j<m)(hd:Nat.blt d n=true)(kk:WL P n ops Q rest ((d,.pointer (some (adr A j)))::al) w): WL P n ops Q (⟨some d,.indexAddr t x i,ty,pos,aft,none⟩::rest) al w :=
 Jdv hT j j ht hk hz hx hi hr hj hlt om om hd kk
theorem Zl{w:World}{sz:Nat}(h:w.ownsRow base e sz (.slice A m c) m xs)(hq:q<m*sz)(u:Value):
  w.cell? (adr A q)=xs[q]?/\w.frozen? (adr A q)=false/\(w.setCell (adr A q) u).ownsRow base e sz (.slice A m c) m (xs.set q u)/\base<=(adr A q).block/\w.grownBy (w.setCell (adr A q) u) (Value.slice A m c).ownBlock:=by
 have D:0<m:=by grind
 obtain⟨g,O,y,G,F⟩:=World.ownsRow.form h D;injection y with h1 _ h3
 subst h1;subst h3;have J:adr (some ⟨g,0,none⟩) q=⟨g,q,none⟩:=by simp[adr,Za]
 rw[J];exact⟨World.ownsRow.cellAt h q hq,World.ownsRow.frozenAt h q,(World.ownsRow.stored h q u).1,G,(World.ownsRow.stored h q u).2⟩
theorem Blk.ne_own{w:World}(h:Blk w g t cs){sz:Nat}(ho:w.ownsRow base e sz v m xs)(hne:Nat.beq e t=false): some g≠v.ownBlock:=by
 have u:e≠t:=by intro D;subst D;simp at hne
 rcases ho.2 with⟨rfl,_⟩|⟨g',cap,cur,rfl,_,hh,_⟩
 .simp[Value.ownBlock]
 intro y;have:g=g':=by simpa [Value.ownBlock] using y
 subst this;unfold Blk at h;grind
theorem cut0(A:Option Addr)(q sz:Nat): (if q=0 then A else A.map (·.add (0*sz)))=A:=by
 split
 .rfl
 cases A<;>simp[Addr.add]
theorem Yl(hT:TOk P tt){dd:TypeDesc}(ht:tk tt t=some k)(hk:k.desc=dd)(hp:Zw dd=true): P.underlying t=some dd:=by
 have:=hT.at ht;grind [Vn,Zw]
theorem Jdj(hT:TOk P tt){i:Operand}{s:ByteArray}{z:Int}(j:Nat)(ht:tk tt t=some k)(hk:k.desc=.string)(hx:ev al x=some (.string s))(hi:ev al i=some (.int kd z))(hj:z=(j:Int))(hlt:j<s.size)(hd:Nat.blt d n=true)(kk:WL P n ops Q rest ((d,.int .u8 ((s.data.toList.getD j 0).toNat:Int))::al) w): WL P n ops Q (⟨some d,.index t x i,ty,pos,aft,none⟩::rest) al w:=by
 have y:=Yl hT ht hk rfl;subst hj;refine wop hd (λa u=>?_) kk;have G:s[j]?=some s[j]:=by simp[hlt]
 have F:s.data.toList.getD j 0=s[j]:=by
  have D:j<s.data.toList.length:=by simpa using hlt
  simp[List.getD,List.getElem?_eq_getElem D];rfl
 rw[F];simp[execOp,u.ev hx,u.ev hi,Instr.index,asIntOf,run_underlying y,G]
def Bc(l:List UInt8): List Value:=l.map λc=>.int .u8 (c.toNat:Int)
theorem Jdd(l:List UInt8): (Bc l).length=l.length:=by simp[Bc]
theorem Jtz{k:Nat}(h:k<l.length): (Bc l)[k]?=some (.int .u8 ((l.getD k 0).toNat:Int)):=by
 simp[Bc,List.getElem?_eq_getElem h]
def str(l:List UInt8): ByteArray:=⟨l.toArray⟩
theorem Qkh{src dst e:TypeId}(hs:P.underlying src=some (.slice e))(he:P.underlying e=some (.int .u8))(hdst:P.underlying dst=some .string)(hr:Rd w 1 A m (Bc l)):
  (convert src dst (.slice A m c)).run P w=.ok (.string (str l)) w:=by
 have G:l.length=m:=by have:=hr.1;grind [Jdd]
 cases A with
 | none=>
  have F:l=[]:=by
   rcases Nat.eq_zero_or_pos l.length with h|h
   .grind
   obtain⟨_,y,_⟩:=hr.2 (by rw[Jdd];exact h);cases y
  subst F;exact run_convert_bytes_nil w src e hs he m c dst hdst
 | some ad=>
  rcases Nat.eq_zero_or_pos l.length with h|h
  .have F:l=[]:=List.eq_nil_of_length_eq_zero h;subst F;have D:m=0:=by simpa using G.symm
   subst D;rw[run_convert_bytes_string w src dst e _ 0 c hs he hdst];simp[Conv.bytesToString,loadCells,loadCellsFrom,str];rfl
  obtain⟨O,y,Z,J⟩:=hr.2 (by rw[Jdd];exact h);injection y with y
  subst y;have u:ad.spot=none:=by
   have h0:=J 0 _ (Jtz h);rw[add_zero]at h0;unfold World.cell? at h0;split at h0
   .split at h0
    .cases h0
    rename_i h3;simpa using h3
   cases h0
  obtain⟨b,o,U⟩:=ad;simp only at u;subst u;have:=run_convert_bytes_arg (P:=P) w src e hs he b o m c (l.map λc=>(c.toNat:Int)) (by simpa using G) (λi hi=>by
   have h0:=J i _ (Jtz om);grind [Za,List.getD,List.getElem?_eq_getElem]) dst hdst
  rw[this];congr 2
  simp only[strOfNums,str,List.map_map];congr 2
  conv=>rhs;rw[<-List.map_id l]
  apply List.map_congr_left
  intro c _;simp
theorem Qqb(hT:TOk P tt){src dst:Nat}(hs:tk tt src=some k)(hk:k.desc=.slice e)(he:tk tt e=some k3)(hk3:k3.desc=.int .u8)(hdst:tk tt dst=some k2)(hk2:k2.desc=.string)(hx:ev al x=some (.slice A m c))(hr:Rd w 1 A m (Bc l))(hd:Nat.blt d n=true)(kk:WL P n ops Q rest ((d,.string (str l))::al) w): WL P n ops Q (⟨some d,.convert src dst x,ty,pos,aft,none⟩::rest) al w :=
 wop hd (λa u=>by simp[execOp,u.ev hx,Qkh (Ua hT hs hk rfl).1 (Yl hT he hk3 rfl) (Yl hT hdst hk2 rfl) hr]) kk
end
end Go.Wk
namespace Go.Wk
open Go.RowKit
variable {a:Act}{K:Act->World->Prop}{p:Addr}{b:Bool}{z:Int}{kd:IntKind}{l:List (Nat×Oper)}{cs vs:List Value}{c e i id j m s t:Nat}{o oi:Oper}{x y:Operand}{A:Option Addr}{k:TK}{v:Value}
section
variable {P:Program} {ops:Array Oper} {Q:Exit->Act->World->Prop} {T:Nat->Bool}
def QF(Q:Exit->Act->World->Prop): Exit->Act->World->Prop
 | .normal,a,w=>Q .normal a w
 | _,_,_=>False
theorem Yx{Q Q':Exit->Act->World->Prop}(hp:∀ c a w,Q (.panic c) a w->Q' (.panic c) a w)(ho:LetsOut Q->LetsOut Q'){r:Result Next}(h:o.upon P a K Q r): o.upon P a K Q' r:=by
 cases r with
 | ok n w'=>
  cases n<;>simp only[Oper.upon]at h ⊢<;>first
   | exact h
   | exact Calls.mono h (λe u y=>by grind)
 | halt x w'=>cases x<;>simp only[Oper.upon]at h ⊢<;>first|exact h|exact hp _ _ _ h
theorem Jxq{w:World}(h:wpOp P ops (QF Q) i K a w): wpOp P ops Q i K a w:=by
 have u:¬ LetsOut (QF Q):=by rintro⟨a,w,h⟩;exact h
 unfold wpOp at *;split
 .grind
 rename_i o ho;simp only[ho]at h;split
 .rename_i hw;simp only[hw,if_true]at h;rcases h with h|⟨_,h⟩
  .exact .inl (Yx (Q:=QF Q) (λc a w y=>y.elim) (λy=>absurd y u) h)
  exact absurd h u
 repeat grind
def unl(ops:Array Oper)(listed:Array Bool)(i:Nat): Prop:=i<ops.size/\listed.getD i true=false
def Yq(P:Program)(ops:Array Oper)(Q:Exit->Act->World->Prop)(T:Nat->Bool): Nat->Array Bool->Act->World->Prop
 | 0,listed,a,w=>Region.ready .any ops listed=[]/\Q .normal a w
 | fuel+1,listed,a,w=>
  ((∀ i,unl ops listed i->T i=true)/\wpAny P .any ops Q (fuel+1) listed a w) ∨
  ((Region.ready .any ops listed=[]->Q .normal a w) /\
   ∀ i∈Region.ready .any ops listed,wpOp P ops (QF Q) i (λa' w'=>Ext w w'/\Yq P ops Q T fuel (listed.setIfInBounds i true) a' w') a w)
theorem Jwx: ∀(fuel:Nat) (listed:Array Bool) (a:Act) (w:World),Yq P ops Q T fuel listed a w->wpAny P .any ops Q fuel listed a w
 | 0,_,_,_,h=>h
 | fuel+1,_,_,_,h=>by
  rcases h with h|h
  .exact h.2
  exact⟨h.1,λi hi=>wpOp_mono (λa' w' h'=>Jwx fuel _ a' w' h'.2) (Jxq (h.2 i hi))⟩
def Gd(ops:Array Oper)(T:Nat->Bool): Bool:=(List.range ops.size).all λt=>!T t || (List.range ops.size).all λi=>T i || match ops[t]? with
 | some o=>o.after.any λe=>Region.binds .any e && e.on == i
 | none=>false
theorem Qxs(h:Gd ops T=true)(ho:ops[t]?=some o)(ht:T t=true)(hi:i<ops.size)(hn:T i=false): ∃ e∈o.after,Region.binds .any e=true/\e.on=i:=by
 have u:t<ops.size:=by grind
 have y:=List.all_eq_true.1 h t (List.mem_range.2 u);grind
theorem Qwv(hT:Gd ops T=true){listed:Array Bool}(hi:unl ops listed i)(hn:T i=false)(hj:j∈Region.ready .any ops listed): T j=false:=by
 cases h:T j with
 | false=>rfl
 | true=>
  obtain⟨F,U,D,u⟩:=mem_ready.1 hj;obtain⟨e,G,J,y⟩:=Qxs hT D h hi.1 hn;have O:=u e G J;rw[y]at O;have h0:=hi.2;grind
theorem Jdq(hT:Gd ops T=true)(hi:ops[i]?=some oi)(hn:T i=false)(hsel:∀(j:Nat) (o:Oper) cs b,ops[j]?=some o->o.op≠.select cs b):
  ∀(fuel:Nat) (listed:Array Bool) (a:Act) (w:World),
   (∀ j oj,ops[j]?=some oj->j≠i->listed.getD j true=false->(∀ e∈oj.after,Region.binds .any e=true->e.on≠i)->oi.apart ops oj=true) ->
   i∈Region.ready .any ops listed->YieldsIf P ops (Ext w) oi v a ->
   Yq P ops Q T fuel (listed.setIfInBounds i true) (a.put oi.dst v) w->Yq P ops Q T (fuel+1) listed a w:=by
 have a6:i<ops.size:=by grind
 intro fuel;induction fuel with
 | zero=>
  intro listed a w _ G hy H;refine .inr ⟨λh=>(by rw[h]at G;cases G),λj Z=>?_⟩;by_cases hji:j=i
  .subst hji;exact hy.wpOp hi (Ext.refl w) ⟨Ext.refl w,H⟩
  have:=ready_mono Z hji;rw[H.1]at this;cases this
 | succ fuel ih=>
  intro listed a w y G hy H;have a3:unl ops listed i:=⟨a6,(mem_ready.1 G).1⟩;refine .inr ⟨λh=>(by rw[h]at G;cases G),λj Z=>?_⟩;by_cases hji:j=i
  .subst hji;exact hy.wpOp hi (Ext.refl w) ⟨Ext.refl w,H⟩
  obtain⟨u,oj,D,a1⟩:=mem_ready.1 Z;have a7:T j=false:=Qwv hT a3 hn Z;rcases H with H|H
  .have:=H.1 j ⟨(Array.getElem?_eq_some_iff.1 D).1,by rw[getD_set_ne true (Ne.symm hji)];exact u⟩;grind
  have h1:=H.2 j (ready_mono Z hji);have U:∀ e∈oj.after,Region.binds .any e=true->e.on≠i:=λe he hb a8=>by
   have h1:=a1 e he hb;have h0:=(mem_ready.1 G).1;grind
  have h2:=wpOp_putIf D (y j oj D hji u U) (λcs b=>hsel i oi cs b hi) (λcs b=>hsel j oj cs b D) (λc a w h=>h) hy h1;have F:∀ k J,ops[k]?=some J->k≠i->(listed.setIfInBounds j true).getD k true=false ->
    (∀ e∈J.after,Region.binds .any e=true->e.on≠i)->oi.apart ops J=true:=λk J hk a5 O a4=>by
   refine y k J hk a5 ?_ a4;by_cases hjk:j=k
   .subst hjk;exact u
   rw[getD_set_ne true hjk]at O;exact O
  refine wpOp_mono (λa' w' h3=>⟨h3.2.1,ih (listed.setIfInBounds j true) a' w' F (ready_mono G (Ne.symm hji)) ?_ ?_⟩) h2
  .exact h3.1.imp (λ⟨h4,h5⟩=>⟨h4,λa2 hx=>h5 a2 (h3.2.1.trans hx)⟩) id
  rw[Array.setIfInBounds_comm _ _ hji];exact h3.2.2
def Qt(ops:Array Oper): List (Nat×Nat)->Array Bool->Bool
 | [],listed=>(Region.ready .any ops listed).isEmpty
 | (0,i)::r,listed=>(Region.ready .any ops listed).contains i && Region.free .any ops listed i && Qt ops r (listed.setIfInBounds i true)
 | (_,i)::r,listed=>(Region.ready .any ops listed == [i]) && Qt ops r (listed.setIfInBounds i true)
def Ux(s:List (Nat×Nat))(i:Nat): Bool:=s.any λp=>p.1 == 2 && p.2 == i
def Jkj: List (Nat×Nat)->Bool
 | []=>true
 | (k,_)::r=>Nat.ble k 2 && (k != 2 || r.all λp=>p.1 == 2) && Jkj r
def Jvt(ops:Array Oper)(s:List (Nat×Nat)): Bool :=
 Region.noSelect ops && (s.length == ops.size) && Gd ops (Ux s) && Jkj s && (s.all λp=>(p.1 == 2) == Ux s p.2) && Qt ops s (Array.replicate ops.size false) && (s.all λp=>Nat.blt p.2 ops.size) && ((List.range ops.size).all λi=>s.any λp=>p.2 == i)
def wk1(P:Program)(ops:Array Oper)(Q:Exit->Act->World->Prop)(k:Nat)(o:Oper)(K:Act->World->Prop)(a:Act)(w:World): Prop :=
 match k with
 | 0=>∃ v,YieldsIf P ops (Ext w) o v a/\K (a.put o.dst v) w
 | 1=>if Region.wanted o (yielded ops a.tmps) then o.wp P a w (λa' w'=>Ext w w'/\K a' w') (QF Q) else K (a.put o.dst undef) w
 | _=>if Region.wanted o (yielded ops a.tmps) then o.wp P a w K (QF Q) else K (a.put o.dst undef) w
def Qb(P:Program)(ops:Array Oper)(Q:Exit->Act->World->Prop): List (Nat×Oper)->Act->World->Prop
 | [],a,w=>Q .normal a w
 | p::r,a,w=>wk1 P ops Q p.1 p.2 (Qb P ops Q r) a w
def Qy(l:List Oper): List (Nat×Nat)->List (Nat×Oper)
 | []=>[]
 | (k,i)::r=>match nth l i with
  | some o=>(k,o)::Qy l r
  | none=>Qy l r
theorem Jdl: ∀(s:List (Nat×Nat)) (listed:Array Bool) (a:Act) (w:World),(∀ p∈s,p.1=2)->(∀ p∈s,p.2<ops.size)->Qt ops s listed=true->Qb P ops Q (Qy ops.toList s) a w->wpAny P .any ops Q s.length listed a w
 | [],listed,a,w,_,_,hB,h=>⟨by simpa [Qt] using hB,h⟩
 | (k,i)::r,listed,a,w,hk,hlt,hB,h=>by
  obtain rfl:k=2:=hk _ (mC ..);have hi:i<ops.size:=hlt _ (mC ..);simp only[Qt,Bool.and_eq_true,beq_iff_eq]at hB;obtain⟨hr,hB'⟩:=hB;have ho:ops[i]?=some ops[i]:=Array.getElem?_eq_getElem hi;have hn:nth ops.toList i=some ops[i]:=by rw[Xq];simp[hi]
  simp only[Qy,hn,Qb,wk1]at h;refine⟨λh0=>(by rw[hr]at h0;cases h0),λj hj=>?_⟩;rw[hr]at hj;obtain rfl:j=i:=by simpa using hj
  have hrec:∀ a w,Qb P ops Q (Qy ops.toList r) a w->wpAny P .any ops Q r.length (listed.setIfInBounds j true) a w:=λa w h'=>
   Jdl r _ a w (λp hp=>hk p (List.mem_cons_of_mem _ hp)) (λp hp=>hlt p (List.mem_cons_of_mem _ hp)) hB' h'
  refine wpOp_mono hrec (Jxq ?_);unfold wpOp;grind
theorem Jdp(hsel:Region.noSelect ops=true)(hT:Gd ops T=true): ∀(s:List (Nat×Nat)) (listed:Array Bool) (a:Act) (w:World),Jkj s=true->(∀ p∈s,p.2<ops.size)->(∀ p∈s,(p.1 == 2)=T p.2) ->
  (∀ i,unl ops listed i->∃ k,(k,i)∈s)->Qt ops s listed=true->Qb P ops Q (Qy ops.toList s) a w->Yq P ops Q T s.length listed a w
 | [],listed,a,w,_,_,_,_,hB,h=>⟨by simpa [Qt] using hB,h⟩
 | (k,i)::r,listed,a,w,hk,hlt,hKT,hall,hB,h=>by
  have hi:i<ops.size:=hlt _ (mC ..);have ho:ops[i]?=some ops[i]:=Array.getElem?_eq_getElem hi;have hn:nth ops.toList i=some ops[i]:=by rw[Xq];simp[hi]
  simp only[Jkj,Bool.and_eq_true]at hk;have hTi:=hKT _ (mC ..);simp only at hTi;have hall':∀ j,unl ops (listed.setIfInBounds i true) j->∃ k,(k,j)∈r:=λj hj=>by
   by_cases hji:j=i
   .subst hji;have h2:=hj.2;rcases Nat.lt_or_ge j listed.size with h'|h'
    .simp[h']at h2
    simp at h2
   obtain⟨k',hk'⟩:=hall j ⟨hj.1,by rw[<-getD_set_ne true (Ne.symm hji)];exact hj.2⟩;grind
  have hrec:Qt ops r (listed.setIfInBounds i true)=true->∀ a w,Qb P ops Q (Qy ops.toList r) a w->Yq P ops Q T r.length (listed.setIfInBounds i true) a w:=λhB' a w h'=>
   Jdp hsel hT r _ a w hk.2 (λp hp=>hlt p (List.mem_cons_of_mem _ hp)) (λp hp=>hKT p (List.mem_cons_of_mem _ hp)) hall' hB' h'
  match k,hTi,hk,hB,h with
  | 0,hTi,hk,hB,h=>
   simp only[Qt,Bool.and_eq_true]at hB;obtain⟨⟨hr,hf⟩,hB'⟩:=hB;simp only[Qy,hn,Qb,wk1]at h;obtain⟨v,hy,h⟩:=h;exact Jdq hT ho (by rw[<-hTi];rfl) (Region.noSelect_spec hsel) r.length listed a w (Region.free_spec ho hf) (by simpa using hr) hy (hrec hB' _ _ h)
  | 1,hTi,hk,hB,h=>
   simp only[Qt,Bool.and_eq_true,beq_iff_eq]at hB;obtain⟨hr,hB'⟩:=hB;simp only[Qy,hn,Qb,wk1]at h;refine .inr ⟨λh0=>(by rw[hr]at h0;cases h0),λj hj=>?_⟩;rw[hr]at hj;obtain rfl:j=i:=by simpa using hj
   unfold wpOp;simp only[ho];split
   .rename_i hw;simp only[hw,if_true]at h;exact .inl (Oper.wp_mono (λa' w' h'=>⟨h'.1,hrec hB' _ _ h'.2⟩) h)
   repeat grind [Ext.refl]
  | 2,hTi,hk,hB,h=>
   refine .inl ⟨λj hj=>?_,Jdl ((2,i)::r) listed a w ?_ hlt hB h⟩;repeat grind
  | k+3,hTi,hk,hB,h=>
   have:=hk.1.1;simp at this
end
section
variable {P:Program} {n:Nat} {al al':AL} {w:World} {Q:Exit->Act->World->Prop} {ops:Array Oper} {rest:List (Nat×Oper)}
def WD(P:Program)(n:Nat)(ops:Array Oper)(Q:Exit->Act->World->Prop)(l:List (Nat×Oper))(al:AL)(w:World): Prop:=∀ a,Fr n al a->Qb P ops Q l a w
theorem WD.sub{l:List (Nat×Oper)}(hs:Sub al' al)(h:WD P n ops Q l al' w): WD P n ops Q l al w:=λa u=>h a (u.sub hs)
theorem wdraw{l:List Oper}(s:List (Nat×Nat))(hm:P.follows .mixedOrders=true)(hB:Jvt l.toArray s=true)(h:WD P n l.toArray Q (Qy l s) al w.drew): WC P n (.region id l.toArray true) Q al w:=by
 intro a D;simp only[Jvt,Bool.and_eq_true,beq_iff_eq,List.all_eq_true,List.any_eq_true,List.mem_range]at hB;obtain⟨⟨⟨⟨⟨⟨⟨h1,y⟩,Z⟩,U⟩,O⟩,J⟩,G⟩,F⟩:=hB;refine wp_region_any hm ?_;rw[<-y];refine Jwx (T:=Ux s) _ _ _ _ (Jdp h1 Z s _ a _ U (λp u=>?_) (λp u=>?_) (λi hi=>?_) (by rw[y];exact J) ?_)
 .have:=G p u;have h':p.2+1<=l.toArray.size:=by simpa [Nat.blt] using this
  omega
 .simpa using O p u
 .obtain⟨p,u,he⟩:=F i hi.1;grind
 have:=h a D;simpa using this
theorem dnil(h:QX n Q .normal al w): WD P n ops Q [] al w:=λa u=>h a u
variable {d ty:Nat} {op:Op} {pos:String} {aft:Array Edge}
def Yld(P:Program)(n:Nat)(al:AL)(w:World)(o:Oper)(v:Value): Prop:=∀ w',Ext w w'->∀ a,Fr n al a->(execOp a.eval o).run P w'=.ok (.value v) w'
theorem dy(hy:Yld P n al w ⟨some d,op,ty,pos,aft,none⟩ v)(hd:Nat.blt d n=true)(k:WD P n ops Q rest ((d,v)::al) w): WD P n ops Q ((0,⟨some d,op,ty,pos,aft,none⟩)::rest) al w:=λa y=>by
 have u:d<n:=by(have:d+1<=n:=by simpa [Nat.blt] using hd);(omega)
 exact⟨v,.inl ⟨rfl,λw' D=>hy w' D a y⟩,k _ (y.put u v)⟩
theorem dp{tt:TT}(hT:TOk P tt)(hv:pv tt (ev al) op=some v)(hd:Nat.blt d n=true)(k:WD P n ops Q rest ((d,v)::al) w): WD P n ops Q ((0,⟨some d,op,ty,pos,aft,none⟩)::rest) al w :=
 dy (λw' _ a D=>Uv w' hT (λx u y=>D.ev y) hv) hd k
theorem dpn{tt:TT}(hT:TOk P tt)(hv:pv tt (ev al) op=some v)(k:WD P n ops Q rest al w): WD P n ops Q ((0,⟨none,op,ty,pos,aft,none⟩)::rest) al w:=λa D=>
 ⟨v,.inl ⟨rfl,λw' y=>Uv w' hT (λx u y=>D.ev y) hv⟩,k _ D⟩
theorem Qhr{kd:Nat}{dst:Option Nat}(hj:Xs ops j=some s)(hs:lk al s=some (.bool b))(k:WD P n ops Q ((kd,⟨dst,op,ty,pos,aft,none⟩)::rest) al w):
  WD P n ops Q ((kd,⟨dst,op,ty,pos,aft,some (j,b)⟩)::rest) al w:=λa D=>by
 have h:=k a D;have G:=Kh (ops:=ops) D hj hs;have F:Region.wanted (⟨dst,op,ty,pos,aft,none⟩:Oper) (yielded ops a.tmps)=true:=rfl;have y:Region.wanted (⟨dst,op,ty,pos,aft,some (j,b)⟩:Oper) (yielded ops a.tmps)=true:=by simp[Region.wanted,G]
 unfold Qb wk1 at h ⊢;match kd,h with
 | 0,h=>
  obtain⟨v,u,J⟩:=h;refine⟨v,?_,J⟩;rcases u with u|u
  .exact .inl ⟨y,u.2⟩
  repeat grind
 | 1,h=>simp only[F,if_true]at h;simp only[y,if_true];exact h
 | k+2,h=>simp only[F,if_true]at h;simp only[y,if_true];exact h
theorem dpass{kd:Nat}{c:Bool}(hj:Xs ops j=some s)(hs:lk al s=some (.bool b))(hne:(b == c)=false)(hd:Nat.blt d n=true)(k:WD P n ops Q rest ((d,undef)::al) w):
  WD P n ops Q ((kd,⟨some d,op,ty,pos,aft,some (j,c)⟩)::rest) al w:=λa F=>by
 have u:d<n:=by(have:d+1<=n:=by simpa [Nat.blt] using hd);(omega)
 have G:=Kh (ops:=ops) F hj hs;have D:Region.wanted (⟨some d,op,ty,pos,aft,some (j,c)⟩:Oper) (yielded ops a.tmps)=false:=by
  simp[Region.wanted,G];simpa using hne
 have y:=k _ (F.put u undef);unfold Qb wk1;match kd with
 | 0=>exact⟨undef,.inr ⟨D,rfl⟩,y⟩
 | 1=>simp only[D];exact y
 | m+2=>simp only[D];exact y
theorem dpart(s:Nat)(hs:lk al s=some (.bool b))(ht:b=true->WD P n ops Q l ((s,.bool true)::al) w)(hf:b=false->WD P n ops Q l ((s,.bool false)::al) w): WD P n ops Q l al w:=by
 cases b
 .exact(hf rfl).sub (Sub.cons hs Sub.refl)
 exact(ht rfl).sub (Sub.cons hs Sub.refl)
theorem dknow(s:Nat)(u:Value)(hs:lk al s=some v)(hv:v=u)(k:WD P n ops Q l ((s,u)::al) w): WD P n ops Q l al w:=by
 subst hv;exact k.sub (Sub.cons hs Sub.refl)
theorem dcall{f:FuncId}{xs:Array Operand}{ats:Array TypeId}{Φ:Value->World->Prop}(hx:evs al xs.toList=some vs)(hd:Nat.blt d n=true)(hc:Ret P f vs w Φ)(k:∀ v w',Φ v w'->Ext w w'/\WD P n ops Q rest ((d,v)::al) w'): WD P n ops Q ((1,⟨some d,.call { callee:=.value (.func f),args:=xs,argTypes:=ats },ty,pos,aft,none⟩)::rest) al w:=λa D=>by
 have u:d<n:=by(have:d+1<=n:=by simpa [Nat.blt] using hd);(omega)
 have G:xs.map a.eval=vs.toArray:=by rw[<-D.evs hx,<-List.map_toArray,Array.toArray_toList]
 have F:(execOp a.eval ⟨some d,.call { callee:=.value (.func f),args:=xs,argTypes:=ats },ty,pos,aft,none⟩).run P w=.ok (.enter f vs.toArray) w:=by
  simp[execOp,resolve,G,Act.eval,Deferred.ofValue,invoke,Jzd hc.ok]
 unfold Qb wk1;have J:Region.wanted (⟨some d,.call { callee:=.value (.func f),args:=xs,argTypes:=ats },ty,pos,aft,none⟩:Oper) (yielded ops a.tmps)=true:=rfl;simp only[J,if_true];exact Jkv F hc λv w' y=>⟨(k v w' y).1,(k v w' y).2 _ (D.put u v)⟩
variable {tt:TT}
theorem Xz{w w':World}(hx:Ext w w')(hc:w.cell? p=some v): w'.cell? p=some v:=by
 rw[<-hc];exact hx.cell (World.block_lt_of_cell? w p hc)
theorem dload(hT:TOk P tt)(ht:tk tt t=some k)(hk:Zw k.desc=true)(hx:ev al x=some (.pointer (some p)))(hc:w.cell? p=some v)(hd:Nat.blt d n=true)(kk:WD P n ops Q rest ((d,v)::al) w): WD P n ops Q ((0,⟨some d,.load t x,ty,pos,aft,none⟩)::rest) al w :=
 dy (λw' u a y=>by simp[execOp,y.ev hx,Instr.loadAt,Instr.sureAddr,Jgv (w:=w') hT ht hk (Xz u hc)]) hd kk
theorem Qhj(hT:TOk P tt)(ht:tk tt t=some k)(hk:k.desc=.invalid)(hl:k.size=cs.length)(hx:ev al x=some (.pointer (some p)))(hc:∀ j u,cs[j]?=some u->w.cell? (p.add j)=some u)(hd:Nat.blt d n=true)(kk:WD P n ops Q rest ((d,.agg cs.toArray)::al) w): WD P n ops Q ((0,⟨some d,.load t x,ty,pos,aft,none⟩)::rest) al w :=
 dy (λw' D a F=>by simp[execOp,F.ev hx,Instr.loadAt,Instr.sureAddr,Ku (w:=w') hT ht hk hl (λj u y=>Xz D (hc j u y))]) hd kk
theorem Jrc(hT:TOk P tt){i:Operand}{sz:Nat}(q:Nat)(j:Nat)(ht:tk tt t=some k)(hk:k.desc=.slice e)(hz:k.esz=sz)(hx:ev al x=some (.slice A m c))(hi:ev al i=some (.int kd z))(hr:Rd w sz A m cs)(hj:z=(j:Int))(hlt:j<m)(h0:0<sz)(hq:j*sz=q)(hd:Nat.blt d n=true)(kk:WD P n ops Q rest ((d,.pointer (some (adr A q)))::al) w): WD P n ops Q ((0,⟨some d,.indexAddr t x i,ty,pos,aft,none⟩)::rest) al w:=by
 obtain⟨y,D⟩:=Ua hT ht hk hz;obtain⟨J,rfl,G⟩:=hr.isome om h0;subst hj;subst hq;refine dy (λw' F a u=>?_) hd kk;simp[execOp,u.ev hx,u.ev hi,Instr.indexAt,asIntOf,run_underlying y,Vj w' D,adr];intro h;omega
theorem Qhp(hT:TOk P tt){i:Operand}(j:Nat)(ht:tk tt t=some k)(hk:k.desc=.slice e)(hz:k.esz=1)(hx:ev al x=some (.slice A m c))(hi:ev al i=some (.int kd z))(hr:Rd w 1 A m cs)(hj:z=(j:Int))(hlt:j<m)(hd:Nat.blt d n=true)(kk:WD P n ops Q rest ((d,.pointer (some (adr A j)))::al) w): WD P n ops Q ((0,⟨some d,.indexAddr t x i,ty,pos,aft,none⟩)::rest) al w :=
 Jrc hT j j ht hk hz hx hi hr hj hlt om om hd kk
theorem dadd{t yt:TypeId}{a b:Int}(hx:ev al x=some (.int .i64 a))(hy:ev al y=some (.int .i64 b))(hc:-9223372036854775808<=a+b/\a+b<=9223372036854775807)(hd:Nat.blt d n=true)(k:WD P n ops Q rest ((d,.int .i64 (a+b))::al) w): WD P n ops Q ((0,⟨some d,.binOp .add t x y yt,ty,pos,aft,none⟩)::rest) al w:=by
 have e:IntKind.i64.wrap (a+b)=a+b:=by rw[IntKind.wrap_i64];omega
 exact dp (tt:=[]) trivial (v:=.int .i64 (a+b)) (by grind [pv,bop]) hd k
theorem dsub{t yt:TypeId}{a b:Int}(hx:ev al x=some (.int .i64 a))(hy:ev al y=some (.int .i64 b))(hc:-9223372036854775808<=a-b/\a-b<=9223372036854775807)(hd:Nat.blt d n=true)(k:WD P n ops Q rest ((d,.int .i64 (a-b))::al) w): WD P n ops Q ((0,⟨some d,.binOp .sub t x y yt,ty,pos,aft,none⟩)::rest) al w:=by
 have e:IntKind.i64.wrap (a-b)=a-b:=by rw[IntKind.wrap_i64];omega
 exact dp (tt:=[]) trivial (v:=.int .i64 (a-b)) (by grind [pv,bop]) hd k
theorem Qhg(hT:TOk P tt){lo hi mx:Option Operand}{sz:Nat}(l h q:Nat)(ht:tk tt t=some k)(hk:k.desc=.slice e)(hz:k.esz=sz)(hx:ev al x=some (.slice A m c))(hl:Bnd al lo 0 l)(hh:Bnd al hi m h)(hq:Bnd al mx c q)(hm:mx=none∨hi≠none)(h1:l<=h)(h2:h<=q)(h3:q<=c)(hd:Nat.blt d n=true)(kk:WD P n ops Q rest ((d,.slice (if q=l then A else A.map (·.add (l*sz))) (h-l) (q-l))::al) w): WD P n ops Q ((0,⟨some d,.slice t x lo hi mx,ty,pos,aft,none⟩)::rest) al w:=by
 obtain⟨u,y⟩:=Ua hT ht hk hz;exact dy (λw' F a D=>Jgp (w:=w') D u y hx hl hh hq hm h1 h2 h3) hd kk
end
end Go.Wk
namespace Go.Wk
open Go.RowKit
variable {p:Addr}{xs:Array Operand}{ats:Array TypeId}{b:Bool}{y:Code}{fn:Func}{f:FuncId}{a z:Int}{kd:IntKind}{l:List Oper}{cs vs:List Value}{e id id' j m s t:Nat}{c i x:Operand}{A:Option Addr}{dst:Option Nat}{k:TK}{yt:TypeId}{u v:Value}{Φ:Value->World->Prop}
class Tab (P:Program) (tt:outParam TT):Prop where
 ok:TOk P tt
 mixed:P.follows .mixedOrders=true
section
variable {P:Program} {n:Nat} {al:AL} {w:World} {Q Q':Exit->Act->World->Prop} {ops:Array Oper} {rest:List Oper} {drest:List (Nat×Oper)}
variable {d ty:Nat} {op:Op} {pos:String} {aft:Array Edge} {tt:TT}
theorem κ1{x:Code}(h:WC P n x (Exit.then (y.wp P Q) Q) al w): WC P n (.seq x y) Q al w:=wseq h
theorem κ2(h:WL P n l.toArray Q l al w): WC P n (.region id l.toArray false) Q al w:=Qjh h
theorem κ3{c:Code}(h:WC P n c (Exit.inBlock id Q) al w): WC P n (.block id c) Q al w:=Qqf h
theorem κ4(h:QX n Q .normal al w): WC P n .skip Q al w:=wskip h
theorem κ5(h:QX n Q (.exit id) al w): WC P n (.exit id) Q al w:=wexit h
theorem κ6(h:QX n Q .ret al w): WC P n .ret Q al w:=wret h
theorem κ7{x:Code}(h:WC P n x Q al w)(hc:ev al c=some (.bool true):=by rfl): WC P n (.cond c x y) Q al w:=Jdx hc h
theorem κ8{x:Code}(h:WC P n y Q al w)(hc:ev al c=some (.bool false):=by rfl): WC P n (.cond c x y) Q al w:=Jfb hc h
theorem χ1(h:WC P n y Q' al w): QX n (Exit.then (y.wp P Q') Q) .normal al w:=qnext h
theorem χ2(h:QX n Q .normal al w): QX n (Exit.inBlock id Q) .normal al w:=Qmx h
theorem χ3{y:Act->World->Prop}(h:QX n Q .ret al w): QX n (Exit.then y Q) .ret al w:=qret h
theorem χ4(h:QX n Q .ret al w): QX n (Exit.inBlock id Q) .ret al w:=bret h
theorem χ5(h:QX n Q .normal al w): QX n (Exit.inBlock id Q) (.exit id) al w:=bexit h
theorem χ6(h:QX n Q (.exit id') al w)(hne:Nat.beq id' id=false:=by rfl): QX n (Exit.inBlock id Q) (.exit id') al w:=Qmw hne h
theorem χ7{y:Act->World->Prop}(h:QX n Q (.exit id) al w): QX n (Exit.then y Q) (.exit id) al w:=qexit h
theorem ω1{y:Operand}{t:TypeId}{b:Int}(k:WL P n ops Q rest ((d,.int .i64 (a+b))::al) w)(hx:ev al x=some (.int .i64 a):=by rfl)(hy:ev al y=some (.int .i64 b):=by rfl)(hd:Nat.blt d n=true:=by rfl)(hc:-9223372036854775808<=a+b/\a+b<=9223372036854775807:=by omega):
  WL P n ops Q (⟨some d,.binOp .add t x y yt,ty,pos,aft,none⟩::rest) al w:=wadd hx hy hc hd k
theorem ω2{y:Operand}{t:TypeId}{b:Int}(k:WL P n ops Q rest ((d,.int .i64 (a-b))::al) w)(hx:ev al x=some (.int .i64 a):=by rfl)(hy:ev al y=some (.int .i64 b):=by rfl)(hd:Nat.blt d n=true:=by rfl)(hc:-9223372036854775808<=a-b/\a-b<=9223372036854775807:=by omega):
  WL P n ops Q (⟨some d,.binOp .sub t x y yt,ty,pos,aft,none⟩::rest) al w:=wsub hx hy hc hd k
theorem ω3{y:Operand}{t:TypeId}{b:Int}(k:WL P n ops Q rest ((d,.int .i64 (a*b))::al) w)(hx:ev al x=some (.int .i64 a):=by rfl)(hy:ev al y=some (.int .i64 b):=by rfl)(hd:Nat.blt d n=true:=by rfl)(hc:-9223372036854775808<=a*b/\a*b<=9223372036854775807:=by omega):
  WL P n ops Q (⟨some d,.binOp .mul t x y yt,ty,pos,aft,none⟩::rest) al w:=wmul hx hy hc hd k
theorem ω4[h:Tab P tt](k:WL P n ops Q rest ((d,v)::al) w)(hv:pv tt (ev al) op=some v:=by rfl)(hd:Nat.blt d n=true:=by rfl): WL P n ops Q (⟨some d,op,ty,pos,aft,none⟩::rest) al w:=wp h.ok hv hd k
theorem ω5(h:QX n Q .normal al w): WL P n ops Q [] al w:=Qk h
theorem ω6(k:WL P n ops Q (⟨dst,op,ty,pos,aft,none⟩::rest) al w)(hj:Xs ops j=some s:=by rfl)(hs:lk al s=some (.bool b):=by rfl): WL P n ops Q (⟨dst,op,ty,pos,aft,some (j,b)⟩::rest) al w:=Qjt hj hs k
theorem ω7{c:Bool}(k:WL P n ops Q rest ((d,undef)::al) w)(hj:Xs ops j=some s:=by rfl)(hs:lk al s=some (.bool b):=by rfl)(hne:(b == c)=false:=by rfl)(hd:Nat.blt d n=true:=by rfl):
  WL P n ops Q (⟨some d,op,ty,pos,aft,some (j,c)⟩::rest) al w:=wpass hj hs hne hd k
theorem ω8[h:Tab P tt](k:WL P n ops Q rest al w)(hv:pv tt (ev al) op=some v:=by rfl): WL P n ops Q (⟨none,op,ty,pos,aft,none⟩::rest) al w:=wpn h.ok hv k
theorem Jwt{a:Act}(ha:Fr n al a)(hj:Xs ops j=some s)(hs:lk al s=some undef): yielded ops a.tmps j=none:=by
 unfold Xs at hj;rw[Xq]at hj;split at hj
 .rename_i o ho;have y:ops[j]?=some o:=by rw[<-ho];simp
  have:=ha.has s _ hs;simp only[Array.getD_eq_getD_getElem?]at this;cases hq:a.tmps[s]? with
  | none=>simp[yielded,y,hj,hq]
  | some u=>
   rw[hq]at this;simp only[Option.getD_some]at this;subst this;simp[yielded,y,hj,hq,undef]
 cases hj
theorem ω9{c:Bool}(k:WL P n ops Q rest ((d,undef)::al) w)(hj:Xs ops j=some s:=by rfl)(hs:lk al s=some undef:=by rfl)(hd:Nat.blt d n=true:=by rfl):
  WL P n ops Q (⟨some d,op,ty,pos,aft,some (j,c)⟩::rest) al w:=λa y=>by
 have u:d<n:=by(have:d+1<=n:=by simpa [Nat.blt] using hd);(omega)
 have D:=Jwt (ops:=ops) y hj hs;unfold wpList;have F:¬ Region.wanted (⟨some d,op,ty,pos,aft,some (j,c)⟩:Oper) (yielded ops a.tmps)=true:=by simp[Region.wanted,D]
 rw[if_neg F];exact k _ (y.put u undef)
theorem δ9{kd:Nat}{c:Bool}(k:WD P n ops Q drest ((d,undef)::al) w)(hj:Xs ops j=some s:=by rfl)(hs:lk al s=some undef:=by rfl)(hd:Nat.blt d n=true:=by rfl):
  WD P n ops Q ((kd,⟨some d,op,ty,pos,aft,some (j,c)⟩)::drest) al w:=λa F=>by
 have u:d<n:=by(have:d+1<=n:=by simpa [Nat.blt] using hd);(omega)
 have G:=Jwt (ops:=ops) F hj hs;have D:Region.wanted (⟨some d,op,ty,pos,aft,some (j,c)⟩:Oper) (yielded ops a.tmps)=false:=by simp[Region.wanted,G]
 have y:=k _ (F.put u undef);unfold Qb wk1;match kd with
 | 0=>exact⟨undef,.inr ⟨D,rfl⟩,y⟩
 | 1=>simp only[D];exact y
 | m+2=>simp only[D];exact y
theorem δ1{y:Operand}{t:TypeId}{b:Int}(k:WD P n ops Q drest ((d,.int .i64 (a+b))::al) w)(hx:ev al x=some (.int .i64 a):=by rfl)(hy:ev al y=some (.int .i64 b):=by rfl)(hd:Nat.blt d n=true:=by rfl)(hc:-9223372036854775808<=a+b/\a+b<=9223372036854775807:=by omega):
  WD P n ops Q ((0,⟨some d,.binOp .add t x y yt,ty,pos,aft,none⟩)::drest) al w:=dadd hx hy hc hd k
theorem δ2{y:Operand}{t:TypeId}{b:Int}(k:WD P n ops Q drest ((d,.int .i64 (a-b))::al) w)(hx:ev al x=some (.int .i64 a):=by rfl)(hy:ev al y=some (.int .i64 b):=by rfl)(hd:Nat.blt d n=true:=by rfl)(hc:-9223372036854775808<=a-b/\a-b<=9223372036854775807:=by omega):
  WD P n ops Q ((0,⟨some d,.binOp .sub t x y yt,ty,pos,aft,none⟩)::drest) al w:=dsub hx hy hc hd k
theorem δ4[h:Tab P tt](k:WD P n ops Q drest ((d,v)::al) w)(hv:pv tt (ev al) op=some v:=by rfl)(hd:Nat.blt d n=true:=by rfl): WD P n ops Q ((0,⟨some d,op,ty,pos,aft,none⟩)::drest) al w:=dp h.ok hv hd k
theorem δ5(h:QX n Q .normal al w): WD P n ops Q [] al w:=dnil h
theorem δ6{kd:Nat}(k:WD P n ops Q ((kd,⟨dst,op,ty,pos,aft,none⟩)::drest) al w)(hj:Xs ops j=some s:=by rfl)(hs:lk al s=some (.bool b):=by rfl): WD P n ops Q ((kd,⟨dst,op,ty,pos,aft,some (j,b)⟩)::drest) al w:=Qhr hj hs k
theorem δ7{kd:Nat}{c:Bool}(k:WD P n ops Q drest ((d,undef)::al) w)(hj:Xs ops j=some s:=by rfl)(hs:lk al s=some (.bool b):=by rfl)(hne:(b == c)=false:=by rfl)(hd:Nat.blt d n=true:=by rfl):
  WD P n ops Q ((kd,⟨some d,op,ty,pos,aft,some (j,c)⟩)::drest) al w:=dpass hj hs hne hd k
theorem δ8[h:Tab P tt](k:WD P n ops Q drest al w)(hv:pv tt (ev al) op=some v:=by rfl): WD P n ops Q ((0,⟨none,op,ty,pos,aft,none⟩)::drest) al w:=dpn h.ok hv k
theorem ct{x:Code}(hb:b=true)(h:WC P n x Q al w)(hc:ev al c=some (.bool b):=by rfl): WC P n (.cond c x y) Q al w:=Qjx hc hb h
theorem cf{x:Code}(hb:b=false)(h:WC P n y Q al w)(hc:ev al c=some (.bool b):=by rfl): WC P n (.cond c x y) Q al w:=Jdz hc hb h
theorem ci{x:Code}(ht:b=true->WC P n x Q al w)(hf:b=false->WC P n y Q al w)(hc:ev al c=some (.bool b):=by rfl): WC P n (.cond c x y) Q al w:=wcond hc ht hf
theorem kt(s:Nat)(hb:b=true)(k:WL P n ops Q l ((s,.bool true)::al) w)(hs:lk al s=some (.bool b):=by rfl): WL P n ops Q l al w:=wkt s hs hb k
theorem kf(s:Nat)(hb:b=false)(k:WL P n ops Q l ((s,.bool false)::al) w)(hs:lk al s=some (.bool b):=by rfl): WL P n ops Q l al w:=wkf s hs hb k
theorem ki(s:Nat)(ht:b=true->WL P n ops Q l ((s,.bool true)::al) w)(hf:b=false->WL P n ops Q l ((s,.bool false)::al) w)(hs:lk al s=some (.bool b):=by rfl): WL P n ops Q l al w:=wpart s hs ht hf
theorem kv(s:Nat)(hv:v=u)(k:WL P n ops Q l ((s,u)::al) w)(hs:lk al s=some v:=by rfl): WL P n ops Q l al w:=wknow s u hs hv k
theorem dkt{l:List (Nat×Oper)}(s:Nat)(hb:b=true)(k:WD P n ops Q l ((s,.bool true)::al) w)(hs:lk al s=some (.bool b):=by rfl): WD P n ops Q l al w:=by subst hb;exact k.sub (Sub.cons hs Sub.refl)
theorem dkf{l:List (Nat×Oper)}(s:Nat)(hb:b=false)(k:WD P n ops Q l ((s,.bool false)::al) w)(hs:lk al s=some (.bool b):=by rfl): WD P n ops Q l al w:=by subst hb;exact k.sub (Sub.cons hs Sub.refl)
theorem dki{l:List (Nat×Oper)}(s:Nat)(ht:b=true->WD P n ops Q l ((s,.bool true)::al) w)(hf:b=false->WD P n ops Q l ((s,.bool false)::al) w)(hs:lk al s=some (.bool b):=by rfl): WD P n ops Q l al w:=dpart s hs ht hf
theorem dkv{l:List (Nat×Oper)}(s:Nat)(hv:v=u)(k:WD P n ops Q l ((s,u)::al) w)(hs:lk al s=some v:=by rfl): WD P n ops Q l al w:=dknow s u hs hv k
theorem ld[h:Tab P tt](hc:w.cell? p=some v)(kk:WL P n ops Q rest ((d,v)::al) w)(ht:tk tt t=some k:=by rfl)(hk:Zw k.desc=true:=by rfl)(hx:ev al x=some (.pointer (some p)):=by rfl)(hd:Nat.blt d n=true:=by rfl): WL P n ops Q (⟨some d,.load t x,ty,pos,aft,none⟩::rest) al w:=wload h.ok ht hk hx hc hd kk
theorem dld[h:Tab P tt](hc:w.cell? p=some v)(kk:WD P n ops Q drest ((d,v)::al) w)(ht:tk tt t=some k:=by rfl)(hk:Zw k.desc=true:=by rfl)(hx:ev al x=some (.pointer (some p)):=by rfl)(hd:Nat.blt d n=true:=by rfl): WD P n ops Q ((0,⟨some d,.load t x,ty,pos,aft,none⟩)::drest) al w:=dload h.ok ht hk hx hc hd kk
theorem lds[h:Tab P tt](hc:∀ j u,cs[j]?=some u->w.cell? (p.add j)=some u)(kk:WL P n ops Q rest ((d,.agg cs.toArray)::al) w)(ht:tk tt t=some k:=by rfl)(hk:k.desc=.invalid:=by rfl)(hl:k.size=cs.length:=by rfl)(hx:ev al x=some (.pointer (some p)):=by rfl)(hd:Nat.blt d n=true:=by rfl): WL P n ops Q (⟨some d,.load t x,ty,pos,aft,none⟩::rest) al w:=Qjn h.ok ht hk hl hx hc hd kk
theorem Qj[h:Tab P tt](hc:∀ j u,cs[j]?=some u->w.cell? (p.add j)=some u)(kk:WD P n ops Q drest ((d,.agg cs.toArray)::al) w)(ht:tk tt t=some k:=by rfl)(hk:k.desc=.invalid:=by rfl)(hl:k.size=cs.length:=by rfl)(hx:ev al x=some (.pointer (some p)):=by rfl)(hd:Nat.blt d n=true:=by rfl): WD P n ops Q ((0,⟨some d,.load t x,ty,pos,aft,none⟩)::drest) al w:=Qhj h.ok ht hk hl hx hc hd kk
theorem ix[h:Tab P tt]{c:Nat}(j:Nat)(hr:Rd w 1 A m cs)(hlt:j<m)(kk:WL P n ops Q rest ((d,.pointer (some (adr A j)))::al) w)(ht:tk tt t=some k:=by rfl)(hk:k.desc=.slice e:=by rfl)(hz:k.esz=1:=by rfl)(hx:ev al x=some (.slice A m c):=by rfl)(hi:ev al i=some (.int kd z):=by rfl)(hj:z=(j:Int):=by first|rfl|omega)(hd:Nat.blt d n=true:=by rfl):
  WL P n ops Q (⟨some d,.indexAddr t x i,ty,pos,aft,none⟩::rest) al w:=Qjs h.ok j ht hk hz hx hi hr hj hlt hd kk
theorem dix[h:Tab P tt]{c:Nat}(j:Nat)(hr:Rd w 1 A m cs)(hlt:j<m)(kk:WD P n ops Q drest ((d,.pointer (some (adr A j)))::al) w)(ht:tk tt t=some k:=by rfl)(hk:k.desc=.slice e:=by rfl)(hz:k.esz=1:=by rfl)(hx:ev al x=some (.slice A m c):=by rfl)(hi:ev al i=some (.int kd z):=by rfl)(hj:z=(j:Int):=by first|rfl|omega)(hd:Nat.blt d n=true:=by rfl):
  WD P n ops Q ((0,⟨some d,.indexAddr t x i,ty,pos,aft,none⟩)::drest) al w:=Qhp h.ok j ht hk hz hx hi hr hj hlt hd kk
theorem ixq[h:Tab P tt]{c:Nat}(sz j:Nat)(hr:Rd w sz A m cs)(hlt:j<m)(kk:WL P n ops Q rest ((d,.pointer (some (adr A (j*sz))))::al) w)(ht:tk tt t=some k:=by rfl)(hk:k.desc=.slice e:=by rfl)(hz:k.esz=sz:=by rfl)(hx:ev al x=some (.slice A m c):=by rfl)(hi:ev al i=some (.int kd z):=by rfl)(hj:z=(j:Int):=by first|rfl|omega)(h0:0<sz:=by omega)(hd:Nat.blt d n=true:=by rfl):
  WL P n ops Q (⟨some d,.indexAddr t x i,ty,pos,aft,none⟩::rest) al w:=Jdv h.ok (j*sz) j ht hk hz hx hi hr hj hlt h0 rfl hd kk
theorem Qp[h:Tab P tt]{c:Nat}(sz j:Nat)(hr:Rd w sz A m cs)(hlt:j<m)(kk:WD P n ops Q drest ((d,.pointer (some (adr A (j*sz))))::al) w)(ht:tk tt t=some k:=by rfl)(hk:k.desc=.slice e:=by rfl)(hz:k.esz=sz:=by rfl)(hx:ev al x=some (.slice A m c):=by rfl)(hi:ev al i=some (.int kd z):=by rfl)(hj:z=(j:Int):=by first|rfl|omega)(h0:0<sz:=by omega)(hd:Nat.blt d n=true:=by rfl):
  WD P n ops Q ((0,⟨some d,.indexAddr t x i,ty,pos,aft,none⟩)::drest) al w:=Jrc h.ok (j*sz) j ht hk hz hx hi hr hj hlt h0 rfl hd kk
theorem sto[h:Tab P tt]{y:Operand}(hc:w.cell? p=some u)(hf:w.frozen? p=false)(kk:WL P n ops Q rest al (w.setCell p v))(ht:tk tt t=some k:=by rfl)(hk:k.size=1:=by rfl)(hp:Zw k.desc=true:=by rfl)(hx:ev al x=some (.pointer (some p)):=by rfl)(hy:ev al y=some v:=by rfl)(hv:v.oneCell'=true:=by rfl): WL P n ops Q (⟨none,.store t x y,ty,pos,aft,none⟩::rest) al w:=Jdh h.ok ht hk hp hx hy hv hc hf kk
theorem bx(kk:∀ w1 b,Ext w w1->w.heap.size<=b->Blk w1 b t cs->WL P n ops Q rest ((d,.pointer (some ⟨b,0,none⟩))::al) w1)(hx:ev al x=some v:=by rfl)(hv:v.cells=cs.toArray:=by rfl)(hd:Nat.blt d n=true:=by rfl): WL P n ops Q (⟨some d,.box t x,ty,pos,aft,none⟩::rest) al w:=wbox hx hv hd kk
theorem cl(hc:Ret P f vs w Φ)(k:∀ v w',Φ v w'->WL P n ops Q rest ((d,v)::al) w')(hx:evs al xs.toList=some vs:=by rfl)(hd:Nat.blt d n=true:=by rfl):
  WL P n ops Q (⟨some d,.call { callee:=.value (.func f),args:=xs,argTypes:=ats },ty,pos,aft,none⟩::rest) al w:=wcall hx hd hc k
theorem dcl(hc:Ret P f vs w Φ)(k:∀ v w',Φ v w'->Ext w w'/\WD P n ops Q drest ((d,v)::al) w')(hx:evs al xs.toList=some vs:=by rfl)(hd:Nat.blt d n=true:=by rfl):
  WD P n ops Q ((1,⟨some d,.call { callee:=.value (.func f),args:=xs,argTypes:=ats },ty,pos,aft,none⟩)::drest) al w:=dcall hx hd hc k
theorem dr[h:Tab P tt](s:List (Nat×Nat))(hB:Jvt l.toArray s=true)(k:WD P n l.toArray Q (Qy l s) al w.drew): WC P n (.region id l.toArray true) Q al w:=wdraw s h.mixed hB k
theorem Jq(h:Φ v w)(hr:fn.results = #[.tmp t]:=by rfl)(ht:lk al t=some v:=by rfl): QX n (Ze P fn Φ) .ret al w:=done1 hr ht h
theorem Xx{u:Nat}{x y:Value}(h:Φ (.tuple #[x,y]) w)(hr:fn.results = #[.tmp t,.tmp u]:=by rfl)(ht:lk al t=some x:=by rfl)(hu:lk al u=some y:=by rfl): QX n (Ze P fn Φ) .ret al w:=done2 hr ht hu h
theorem fin3{u:Nat}{x y z:Value}(h:Φ (.tuple #[x,y,z]) w)(hr:fn.results = #[.tmp t,.tmp u,.tmp s]:=by rfl)(ht:lk al t=some x:=by rfl)(hu:lk al u=some y:=by rfl)(hs:lk al s=some z:=by rfl): QX n (Ze P fn Φ) .ret al w:=done3 hr ht hu hs h
theorem Jqx{u r:Nat}{x y z q:Value}(h:Φ (.tuple #[x,y,z,q]) w)(hr:fn.results = #[.tmp t,.tmp u,.tmp s,.tmp r]:=by rfl)(ht:lk al t=some x:=by rfl)(hu:lk al u=some y:=by rfl)(hs:lk al s=some z:=by rfl)(hq:lk al r=some q:=by rfl): QX n (Ze P fn Φ) .ret al w:=done4 hr ht hu hs hq h
end
end Go.Wk
namespace Go.Wk
open Go.RowKit
variable {parts:Array (Nat×Operand)}{pw:Array (Nat×Value)}{kc kd kl:IntKind}{cs news vs xs xs':List Value}{bytes c c' dst e len m m' n src t:Nat}{x y:Operand}{A A':Option Addr}{k k2 k3:TK}{v v' z:Value}{a w w':World}
theorem Rd.take{sz:Nat}(h:Rd w sz A n cs)(hm:m<=n): Rd w sz A m (cs.take (m*sz)):=by
 refine⟨?_,λh0=>?_⟩
 .rw[List.length_take,h.1];exact Nat.min_eq_left (nO _ hm)
 obtain⟨D,e,y,u⟩:=h.2 (by grind);grind
theorem Rd.drop{sz:Nat}(h:Rd w sz A n cs){k:Nat}(hk:k<=n)(hc:n<=c): Rd w sz (if c=k then A else A.map (·.add (k*sz))) (n-k) (cs.drop (k*sz)):=by
 have:=h.cut k n c hk (nR _) (.inl hc);rwa [List.take_of_length_le (by rw[List.length_drop,h.1,Nat.sub_mul];exact nR _)]at this
theorem Zq{base sz base' e' sz':Nat}(h:w.ownsRow base e sz v m xs)(h':w.ownsRow base' e' sz' v' m' xs')(hg:w.grownBy w' v'.ownBlock)(hne:Nat.beq e e'=false): w'.ownsRow base e sz v m xs:=by
 refine h.kept hg ?_;have y:e≠e':=by intro u;subst u;simp at hne
 rcases h.2 with⟨rfl,_⟩|⟨g,cap,cur,rfl,_,hh,_⟩
 .exact .inl rfl
 right
 intro D;rcases h'.2 with⟨rfl,_⟩|⟨g',cap',cur',rfl,_,hh',_⟩
 .simp[Value.ownBlock]at D
 have:g=g':=by simpa [Value.ownBlock] using D
 grind
section
variable {P:Program} {n:Nat} {al:AL} {w:World} {Q Q' Q2:Exit->Act->World->Prop} {ops:Array Oper}
theorem Jxr(hq:∀ e a w,Q e a w->Q2 e a w): ∀(l:List Oper) (a:Act) (w:World),wpList P ops Q l a w->wpList P ops Q2 l a w
 | [],a,w,h=>hq _ _ _ h
 | o::l,a,w,h=>by
  unfold wpList at h ⊢;split
  .rename_i hw;rw[if_pos hw]at h;rcases h with h|⟨h1,a',w',h2⟩
   .exact .inl (Yx (Q:=Q) (λc a w hp=>hq _ _ _ hp) (λ⟨a,w,h⟩=>⟨a,w,hq _ _ _ h⟩) (Oper.wp_mono (λa w h=>Jxr hq l a w h) h))
   exact .inr ⟨h1,a',w',hq _ _ _ h2⟩
  rename_i hw;rw[if_neg hw]at h;exact Jxr hq l _ _ h
theorem Kp{α:Type}{d:Code}{l:List Oper}(fr:α->AL)(I:α->World->Prop)(h1:WL P n ops (Exit.then (λa w=>∃ x,Fr n (fr x) a/\I x w) Q) l al w)(h2:∀ x w,I x w->WC P n d Q' (fr x) w): WL P n ops (Exit.then (d.wp P Q') Q) l al w:=by
 intro a y;refine Jxr ?_ l a w (h1 a y);intro e G w' u;cases e with
 | normal=>obtain⟨x,F,D⟩:=u;exact h2 x w' D G F
 | exit id=>exact u
 | goto l=>exact u
 | ret=>exact u
 | panic c=>exact u
 | outgrown=>exact u
end
section
variable {P:Program} {n:Nat} {al:AL} {w:World} {Q Q':Exit->Act->World->Prop} {ops:Array Oper} {rest:List Oper} {drest:List (Nat×Oper)}
variable {d ty:Nat} {op:Op} {pos:String} {aft:Array Edge} {tt:TT}
theorem mkn{sz:Nat}(hE:ElT P t e sz bytes z){zl zc:Int}(m:Nat)(hb:bytes*m<=281474976710656)(h63:m<=maxLen)(kk:∀ w1 A,Ext w w1->w1.ownsRow w.heap.size e sz (.slice A m m) m (madeCells z.cells (m*sz)).toList->(∀ g,A=some g->w.heap.size<=g.block)->WL P n ops Q rest ((d,.slice A m m)::al) w1)(hx:ev al x=some (.int kl zl):=by rfl)(hy:ev al y=some (.int kc zc):=by rfl)(hl:zl=(m:Int):=by first|rfl|omega)(hc:zc=(m:Int):=by first|rfl|omega)(hd:Nat.blt d n=true:=by rfl): WL P n ops Q (⟨some d,.makeSlice t x y,ty,pos,aft,none⟩::rest) al w:=by
 subst hc;subst hl;obtain⟨i,hi,J,D,F⟩:=hE.info;subst F;obtain⟨w1,Z,U,u⟩:=run_make_full (P:=P) w w.heap.size t e i z sz hE.sl hi J D kl kc m hb h63 (nR _);exact wop hd (λa G=>by simp[execOp,G.ev hx,G.ev hy,Z]) (kk w1 _ ⟨u.os,u.tape,u.output,u.size,λk O=>u.block k O (by simp)⟩ U (λg hg=>by grind))
theorem slh[hT:Tab P tt]{z:Int}(h:Nat)(kk:WL P n ops Q rest ((d,.slice A h c)::al) w)(ht:tk tt t=some k:=by rfl)(hk:k.desc=.slice e:=by rfl)(hx:ev al x=some (.slice A m c):=by rfl)(hy:ev al y=some (.int kd z):=by rfl)(hz:z=(h:Int):=by first|rfl|omega)(h2:h<=c:=by omega)(hd:Nat.blt d n=true:=by rfl):
  WL P n ops Q (⟨some d,.slice t x none (some y) none,ty,pos,aft,none⟩::rest) al w :=
 Jxn hT.ok 0 h c A h c ht hk rfl hx rfl ⟨kd,z,hy,hz⟩ rfl (.inl rfl) (Nat.zero_le _) h2 (nR _) (cut0 A _ _) rfl rfl hd kk
theorem sll[hT:Tab P tt]{z:Int}(l:Nat)(kk:WL P n ops Q rest ((d,.slice (if c=l then A else A.map (·.add (l*k.esz))) (m-l) (c-l))::al) w)(ht:tk tt t=some k:=by rfl)(hk:k.desc=.slice e:=by rfl)(hx:ev al x=some (.slice A m c):=by rfl)(hy:ev al y=some (.int kd z):=by rfl)(hz:z=(l:Int):=by first|rfl|omega)(h1:l<=m:=by omega)(h2:m<=c:=by omega)(hd:Nat.blt d n=true:=by rfl):
  WL P n ops Q (⟨some d,.slice t x (some y) none none,ty,pos,aft,none⟩::rest) al w :=
 Jxn hT.ok l m c _ _ _ ht hk rfl hx ⟨kd,z,hy,hz⟩ rfl rfl (.inl rfl) h1 h2 (nR _) rfl rfl rfl hd kk
theorem apo(hxa:Ext a w){sz:Nat}(hE:ElT P t e sz bytes z)(ha:w.ownsRow a.heap.size e sz v m xs)(hr:Rd w sz A' m' news)(h1:∀ u∈news,u.oneCell'=true)(h63:m+m'<=maxLen)(hby:(m+m')*bytes<=140737488355328)(kk:∀ v' w',w'.ownsRow a.heap.size e sz v' (m+m') (xs++news)->Ext a w'->w.grownBy w' v.ownBlock->(∀ g,v'.ownBlock=some g->v.ownBlock=some g∨w.heap.size<=g)->WL P n ops Q rest ((d,v')::al) w')(hx:ev al x=some v:=by rfl)(hy:ev al y=some (.slice A' m' c'):=by rfl)(hd:Nat.blt d n=true:=by rfl):
  WL P n ops Q (⟨some d,.call { callee:=.builtin .append,args:=#[x,y],argTypes:=#[t,t] },ty,pos,aft,none⟩::rest) al w :=
 Qqg hxa hE hx hy (.inl ha) hr h1 h63 hby hd λv' w' _ _ J G F D=>kk v' w' (J ha) G F D
theorem bsl(hb:∀ w:World,(Instr.buildSlice t len pw).run P w=.ok (.slice (some ⟨w.heap.size,0,none⟩) len len) (w.alloc (.cells cs.toArray e)))(kk:∀ w1 b,Ext w w1->w.heap.size<=b->Blk w1 b e cs->WL P n ops Q rest ((d,.slice (some ⟨b,0,none⟩) len len)::al) w1)(hx:evs al (parts.toList.map (·.2))=some vs:=by rfl)(hp:((parts.toList.map (·.1)).zip vs).toArray=pw:=by rfl)(hd:Nat.blt d n=true:=by rfl):
  WL P n ops Q (⟨some d,.buildSlice t len parts,ty,pos,aft,none⟩::rest) al w:=by subst hp;exact Qqc hx hb hd kk
theorem bld(hb:(Instr.build t pw).run P w=.ok v w)(kk:WL P n ops Q rest ((d,v)::al) w)(hx:evs al (parts.toList.map (·.2))=some vs:=by rfl)(hp:((parts.toList.map (·.1)).zip vs).toArray=pw:=by rfl)(hd:Nat.blt d n=true:=by rfl): WL P n ops Q (⟨some d,.build t parts,ty,pos,aft,none⟩::rest) al w:=by grind [Qqd]
theorem sb[h:Tab P tt]{l:List UInt8}(hr:Rd w 1 A m (Bc l))(kk:WL P n ops Q rest ((d,.string (str l))::al) w)(hs:tk tt src=some k:=by rfl)(hk:k.desc=.slice e:=by rfl)(he:tk tt e=some k3:=by rfl)(hk3:k3.desc=.int .u8:=by rfl)(hdst:tk tt dst=some k2:=by rfl)(hk2:k2.desc=.string:=by rfl)(hx:ev al x=some (.slice A m c):=by rfl)(hd:Nat.blt d n=true:=by rfl): WL P n ops Q (⟨some d,.convert src dst x,ty,pos,aft,none⟩::rest) al w:=Qqb h.ok hs hk he hk3 hdst hk2 hx hr hd kk
end
end Go.Wk
namespace Go.Wk
open Go.RowKit
section
variable {P:Program} {n:Nat} {al:AL} {w:World} {Q:Exit->Act->World->Prop} {ops:Array Oper} {rest:List Oper}
variable {d ty:Nat} {op:Op} {pos:String} {aft:Array Edge} {tt:TT}
theorem wext{f:FuncId}{xs:Array Operand}{ats:Array TypeId}{vs:List Value}{v:Value}{w':World}(hc:(callFunc f vs.toArray).run P w=.ok (.value v) w')(k:WL P n ops Q rest ((d,v)::al) w')(hx:evs al xs.toList=some vs:=by rfl)(hd:Nat.blt d n=true:=by rfl): WL P n ops Q (⟨some d,.call { callee:=.value (.func f),args:=xs,argTypes:=ats },ty,pos,aft,none⟩::rest) al w :=
 wop hd (λa u=>by
  have y:xs.map a.eval=vs.toArray:=by rw[<-u.evs hx,<-List.map_toArray,Array.toArray_toList]
  simp[execOp,resolve,y,Act.eval,Deferred.ofValue,invoke,hc]) k
end
end Go.Wk
namespace Go.Wk
open Go.RowKit
variable {fn:Func}{cs cs':List Value}{b c t tb:Nat}{x y:Operand}{k:TK}{Φ:Value->World->Prop}
section
variable {P:Program} {n:Nat} {al:AL} {w:World} {Q:Exit->Act->World->Prop} {ops:Array Oper} {rest:List Oper}
variable {d ty:Nat} {op:Op} {pos:String} {aft:Array Edge} {tt:TT}
theorem Jjd(w:World)(g:Nat)(cs:Array Value): w.grownBy (w.setRow g cs) (some g) :=
 ⟨rfl,rfl,rfl,by rw[setRow_size];exact nR _,λk _ u=>setRow_other w g k cs (λe=>u (by rw[e]))⟩
theorem alc{z:Value}(hz:Qu P t=some z)(kk:∀ w1 b,Ext w w1->w.heap.size<=b->Blk w1 b t cs->WL P n ops Q rest ((d,.pointer (some ⟨b,0,none⟩))::al) w1)(hv:z.cells=cs.toArray:=by rfl)(hd:Nat.blt d n=true:=by rfl):
  WL P n ops Q (⟨some d,.alloc t,ty,pos,aft,none⟩::rest) al w:=Qqh hz hv hd kk
theorem stb[h:Tab P tt](hb:Blk w b t cs)(kk:∀ w1,Blk w1 b t cs'->w.grownBy w1 (some b)->(∀ a,Ext a w->a.heap.size<=b->Ext a w1)->WL P n ops Q rest al w1)(h1:∀ u∈cs',u.oneCell'=true)(hl:cs.length=cs'.length:=by rfl)(ht:tk tt t=some k:=by rfl)(hk:k.desc=.invalid:=by rfl)(hs:k.size=cs'.length:=by rfl)(hx:ev al x=some (.pointer (some ⟨b,0,none⟩)):=by rfl)(hy:ev al y=some (.agg cs'.toArray):=by rfl):
  WL P n ops Q (⟨none,.store t x y,ty,pos,aft,none⟩::rest) al w:=by
 have J:=Jjd w b cs'.toArray;refine Kn (λa G=>?_) (kk (w.setRow b cs'.toArray) (setRow_heap w b _ _ _ _ hb) J (λa hx G=>Jr hx J (λk hk=>by grind)));have F:=Vj w (Jjz h.ok ht hk w).2;have D:=run_storeCells_from (P:=P) b t cs' 0 cs.toArray w hb (by simpa using hl.symm) h1;simp only[List.take_zero,List.nil_append]at D;simp[execOp,G.ev hx,G.ev hy,Instr.storeAt,Instr.sureAddr,storeVar,Value.cells,F,hs,D]
theorem ldW[h:Tab P tt](hb:Blk w b tb cs)(kk:WL P n ops Q rest ((d,.agg cs.toArray)::al) w)(ht:tk tt t=some k:=by rfl)(hk:k.desc=.invalid:=by rfl)(hl:k.size=cs.length:=by rfl)(hx:ev al x=some (.pointer (some ⟨b,0,none⟩)):=by rfl)(hd:Nat.blt d n=true:=by rfl): WL P n ops Q (⟨some d,.load t x,ty,pos,aft,none⟩::rest) al w:=lds (λj u y=>hb.at y) kk ht hk hl hx hd
theorem Jpq[h:Tab P tt]{t1 t2:Nat}{x y:Value}(hb:Blk w b t cs)(hp:Φ (.tuple #[.agg cs.toArray,x,y]) w)(hr:fn.results = #[.cell c t,.tmp t1,.tmp t2]:=by rfl)(ht:tk tt t=some k:=by rfl)(hk:k.desc=.invalid:=by rfl)(hs:k.size=cs.length:=by rfl)(hc:lk al c=some (.pointer (some ⟨b,0,none⟩)):=by rfl)(h1:lk al t1=some x:=by rfl)(h2:lk al t2=some y:=by rfl):
  QX n (Ze P fn Φ) .ret al w :=
 Jkz (rs:=[.cell c t,.tmp t1,.tmp t2]) (vs:=[.agg cs.toArray,x,y]) hr ⟨⟨_,hc,Ku h.ok ht hk hs (λj u D=>hb.at D)⟩,h1,h2,trivial⟩ rfl hp
theorem Zb[h:Tab P tt](hb:Blk w b t cs)(hp:Φ (.agg cs.toArray) w)(hr:fn.results = #[.cell c t]:=by rfl)(ht:tk tt t=some k:=by rfl)(hk:k.desc=.invalid:=by rfl)(hs:k.size=cs.length:=by rfl)(hc:lk al c=some (.pointer (some ⟨b,0,none⟩)):=by rfl):
  QX n (Ze P fn Φ) .ret al w :=
 Jkz (rs:=[.cell c t]) (vs:=[.agg cs.toArray]) hr ⟨⟨_,hc,Ku h.ok ht hk hs (λj u y=>hb.at y)⟩,trivial⟩ rfl hp
end
end Go.Wk
namespace Go.Wk
open Go.RowKit
section
variable {P:Program} {ops:Array Oper} {Q:Exit->Act->World->Prop} {T:Nat->Bool}
def wk1B(P:Program)(ops:Array Oper)(Q:Exit->Act->World->Prop)(k:Nat)(o:Oper)(K:Act->World->Prop)(a:Act)(w:World): Prop :=
 match k with
 | 0=>∃ v,YieldsIf P ops (λ_=>True) o v a/\K (a.put o.dst v) w
 | 1=>if Region.wanted o (yielded ops a.tmps) then o.wp P a w (λa' w'=>True/\K a' w') (QF Q) else K (a.put o.dst undef) w
 | _=>if Region.wanted o (yielded ops a.tmps) then o.wp P a w K (QF Q) else K (a.put o.dst undef) w
def Jdk(P:Program)(ops:Array Oper)(Q:Exit->Act->World->Prop): List (Nat×Oper)->Act->World->Prop
 | [],a,w=>Q .normal a w
 | p::r,a,w=>wk1B P ops Q p.1 p.2 (Jdk P ops Q r) a w
end
section
variable {P:Program} {n:Nat} {al al':AL} {w:World} {Q:Exit->Act->World->Prop} {ops:Array Oper} {rest:List (Nat×Oper)}
def WDB(P:Program)(n:Nat)(ops:Array Oper)(Q:Exit->Act->World->Prop)(l:List (Nat×Oper))(al:AL)(w:World): Prop:=∀ a,Fr n al a->Jdk P ops Q l a w
theorem WDB.sub{l:List (Nat×Oper)}(hs:Sub al' al)(h:WDB P n ops Q l al' w): WDB P n ops Q l al w:=λa u=>h a (u.sub hs)
variable {d ty:Nat} {op:Op} {pos:String} {aft:Array Edge}
variable {d ty:Nat} {op:Op} {pos:String} {aft:Array Edge} {tt:TT} {drest:List (Nat×Oper)}
end
end Go.Wk
namespace Go.Wk
open Go.RowKit
variable {xs:Array Operand}{ats:Array TypeId}{captured first:Array Value}{fn:Func}{f:FuncId}{us vs:List Value}{x:Operand}{Φ:Value->World->Prop}
section
variable {P:Program} {n:Nat} {al al':AL} {w:World} {Q:Exit->Act->World->Prop} {ops:Array Oper} {drest:List (Nat×Oper)} {rest:List Oper}
variable {d ty:Nat} {op:Op} {pos:String} {aft:Array Edge} {tt:TT}
def toD(P:Program)(ops:Array Oper)(Q:Exit->Act->World->Prop)(rest:List (Nat×Oper)): Exit->Act->World->Prop
 | .normal,a,w=>Qb P ops Q rest a w
 | _,_,_=>False
theorem Qh(h:WD P n ops Q drest al w): QX n (toD P ops Q drest) .normal al w:=h
theorem Jf{o:Oper}(h:WL P n ops (toD P ops Q drest) [o] al w): WD P n ops Q ((2,o)::drest) al w:=λa F=>by
 have u:=h a F;unfold wpList at u;unfold Qb wk1;simp only;have y:¬ LetsOut (toD P ops Q drest):=by rintro⟨a,w,h⟩;exact h
 split
 .rename_i hw;simp only[hw,if_true]at u;rcases u with u|⟨_,u⟩
  .refine Oper.wp_mono (K:=Qb P ops Q drest) (λJ w' G=>G) ?_;unfold Oper.wp at u ⊢;exact Yx (Q:=toD P ops Q drest) (λc a w D=>D.elim) (λD=>absurd D y) u
  exact absurd u y
 rename_i hw;simp only[hw]at u;exact u
theorem Zc(hc:Ret P f us w Φ)(k:∀ v w',Φ v w'->Ext w w'/\WD P n ops Q drest ((d,v)::al) w')(hf:ev al x=some (.func (.func f) first captured):=by rfl)(hx:evs al xs.toList=some vs:=by rfl)(hu:first.toList++vs++captured.toList=us:=by rfl)(hd:Nat.blt d n=true:=by rfl):
  WD P n ops Q ((1,⟨some d,.call { callee:=.value x,args:=xs,argTypes:=ats },ty,pos,aft,none⟩)::drest) al w:=λa y=>by
 subst hu;have u:d<n:=by(have:d+1<=n:=by simpa [Nat.blt] using hd);(omega)
 have G:xs.map a.eval=vs.toArray:=by rw[<-y.evs hx,<-List.map_toArray,Array.toArray_toList]
 have F:(execOp a.eval ⟨some d,.call { callee:=.value x,args:=xs,argTypes:=ats },ty,pos,aft,none⟩).run P w=.ok (.enter f (first.toList++vs++captured.toList).toArray) w:=by
  have e:(first.toList++vs++captured.toList).toArray=first++vs.toArray++captured:=by apply Array.ext';simp
  rw[e];simp[execOp,resolve,G,y.ev hf,Deferred.ofValue,invoke,Jzd hc.ok]
 unfold Qb wk1;have J:Region.wanted (⟨some d,.call { callee:=.value x,args:=xs,argTypes:=ats },ty,pos,aft,none⟩:Oper) (yielded ops a.tmps)=true:=rfl;simp only[J,if_true];exact Jkv F hc λv w' D=>⟨(k v w' D).1,(k v w' D).2 _ (y.put u v)⟩
theorem clv(hc:Ret P f us w Φ)(k:∀ v w',Φ v w'->WL P n ops Q rest ((d,v)::al) w')(hf:ev al x=some (.func (.func f) first captured):=by rfl)(hx:evs al xs.toList=some vs:=by rfl)(hu:first.toList++vs++captured.toList=us:=by rfl)(hd:Nat.blt d n=true:=by rfl):
  WL P n ops Q (⟨some d,.call { callee:=.value x,args:=xs,argTypes:=ats },ty,pos,aft,none⟩::rest) al w:=by grind [Qjz]
theorem Jqz(h:Φ (.tuple #[]) w)(hr:fn.results = #[]:=by rfl): QX n (Ze P fn Φ) .ret al w :=
 Jkz (rs:=[]) (vs:=[]) hr trivial rfl h
theorem Ve(h:Φ (.tuple #[]) w)(hr:fn.results = #[]:=by rfl): QX n (Ze P fn Φ) .normal al w:=λa u=>
 Jqz (n:=n) (al:=al) h hr a u
end
end Go.Wk
namespace Go.Wk
open Go.RowKit
variable {listed:Array Bool}{a b:Int}{l:List Oper}{i id j:Nat}{oi oj:Oper}{x y:Operand}{t yt:TypeId}{v:Value}
section
variable {P:Program} {ops:Array Oper} {Q:Exit->Act->World->Prop} {T:Nat->Bool}
def Zd(P:Program)(ops:Array Oper)(Q:Exit->Act->World->Prop)(T:Nat->Bool): Nat->Array Bool->Act->World->Prop
 | 0,listed,a,w=>Region.ready .any ops listed=[]/\Q .normal a w
 | fuel+1,listed,a,w=>
  (Region.ready .any ops listed=[]->Q .normal a w) /\
   ∀ i∈Region.ready .any ops listed,wpOp P ops (QF Q) i (λa' w'=>(T i=false->Ext w w')/\Zd P ops Q T fuel (listed.setIfInBounds i true) a' w') a w
theorem Jwz: ∀(fuel:Nat) (listed:Array Bool) (a:Act) (w:World),Zd P ops Q T fuel listed a w->wpAny P .any ops Q fuel listed a w
 | 0,_,_,_,h=>h
 | fuel+1,_,_,_,h=>⟨h.1,λi hi=>wpOp_mono (λa' w' h'=>Jwz fuel _ a' w' h'.2) (Jxq (h.2 i hi))⟩
def Vk(ops:Array Oper): Nat->Nat->Nat->Bool
 | 0,_,_=>false
 | f+1,t,r=>match ops[t]? with
  | none=>false
  | some o=>(o.after.any λe=>Region.binds .any e && e.on == r) || o.after.any λe=>Region.binds .any e && Vk ops f e.on r
def Closed(ops:Array Oper)(listed:Array Bool): Prop:=∀ k o,ops[k]?=some o->listed.getD k false=true->∀ e∈o.after,Region.binds .any e=true->listed.getD e.on false=true
theorem Gn{listed:Array Bool}(hc:Closed ops listed): ∀(f t r:Nat) (o:Oper),ops[t]?=some o->(∀ e∈o.after,Region.binds .any e=true->listed.getD e.on false=true)->Vk ops f t r=true->listed.getD r false=true
 | 0,_,_,_,_,_,h=>by cases h
 | f+1,t,r,o,ho,hl,h=>by
  simp only[Vk,ho,Bool.or_eq_true,Array.any_eq_true',Bool.and_eq_true,beq_iff_eq]at h;rcases h with⟨e,he,hb,hr⟩|⟨e,he,hb,hr⟩
  .grind
  have h1:=hl e he hb;cases ho':ops[e.on]? with
  | none=>
   cases f with
   | zero=>cases hr
   | succ f=>simp[Vk,ho']at hr
  | some o'=>exact Gn hc f e.on r o' ho' (hc e.on o' ho' h1) hr
theorem Gm(hoj:ops[j]?=some oj)(hj:j∈Region.ready .any ops listed): ∀ e∈oj.after,Region.binds .any e=true->listed.getD e.on false=true:=by
 obtain⟨_,D,y,u⟩:=mem_ready.1 hj;grind
theorem Closed.step(hc:Closed ops listed)(hi:i∈Region.ready .any ops listed): Closed ops (listed.setIfInBounds i true):=by
 have keep:∀ k,listed.getD k false=true->(listed.setIfInBounds i true).getD k false=true:=λk y=>by
  by_cases hik:i=k
  .subst hik;have u:i<listed.size:=by grind
   simp[u]
  simpa [Array.getElem?_setIfInBounds_ne hik] using y
 intro k o D y e F G;by_cases hik:i=k
 .grind [Gm]
 have:listed.getD k false=true:=by simpa [Array.getElem?_setIfInBounds_ne hik] using y
 exact keep _ (hc k o D this e F G)
theorem Jvb(S:World->World->Prop)(hS0:∀ w,S w w)(hSt:∀ {a b c},S a b->S b c->S a c)(hi:ops[i]?=some oi)(hsel:∀(j:Nat) (o:Oper) cs b,ops[j]?=some o->o.op≠.select cs b)(hSx:∀ listed j,Closed ops listed->i∈Region.ready .any ops listed->j∈Region.ready .any ops listed->∀ w w',(T j=false->Ext w w')->S w w'):
  ∀(fuel:Nat) (listed:Array Bool) (a:Act) (w:World),Closed ops listed ->
   (∀ j oj,ops[j]?=some oj->j≠i->listed.getD j true=false->(∀ e∈oj.after,Region.binds .any e=true->e.on≠i)->oi.apart ops oj=true) ->
   i∈Region.ready .any ops listed->YieldsIf P ops (S w) oi v a ->
   Zd P ops Q T fuel (listed.setIfInBounds i true) (a.put oi.dst v) w->Zd P ops Q T (fuel+1) listed a w:=by
 intro fuel;induction fuel with
 | zero=>
  intro listed a w J _ D hy H;refine⟨λh=>(by rw[h]at D;cases D),λj O=>?_⟩;by_cases hji:j=i
  .subst hji;exact hy.wpOp hi (hS0 w) ⟨λ_=>Ext.refl w,H⟩
  have:=ready_mono O hji;rw[H.1]at this;cases this
 | succ fuel ih=>
  intro listed a w J u D hy H;refine⟨λh=>(by rw[h]at D;cases D),λj O=>?_⟩;by_cases hji:j=i
  .subst hji;exact hy.wpOp hi (hS0 w) ⟨λ_=>Ext.refl w,H⟩
  obtain⟨F,oj,G,a2⟩:=mem_ready.1 O;have h1:=H.2 j (ready_mono O hji);have a1:∀ e∈oj.after,Region.binds .any e=true->e.on≠i:=λe he hb a6=>by
   have h1:=a2 e he hb;have h0:=(mem_ready.1 D).1;grind
  have h2:=wpOp_putIf G (u j oj G hji F a1) (λcs b=>hsel i oi cs b hi) (λcs b=>hsel j oj cs b G) (λc a w h=>h) hy h1;have y:∀ k U,ops[k]?=some U->k≠i->(listed.setIfInBounds j true).getD k true=false ->
    (∀ e∈U.after,Region.binds .any e=true->e.on≠i)->oi.apart ops U=true:=λk U hk a5 Z a4=>by
   refine u k U hk a5 ?_ a4;by_cases hjk:j=k
   .subst hjk;exact F
   rw[getD_set_ne true hjk]at Z;exact Z
  refine wpOp_mono (λa' w' h3=>⟨h3.2.1,ih (listed.setIfInBounds j true) a' w' (J.step O) y (ready_mono D (Ne.symm hji)) ?_ ?_⟩) h2
  .exact h3.1.imp (λ⟨h4,h5⟩=>⟨h4,λa3 hx=>h5 a3 (hSt (hSx listed j J D O w w' h3.2.1) hx)⟩) id
  rw[Array.setIfInBounds_comm _ _ hji];exact h3.2.2
theorem Jdr(hsel:Region.noSelect ops=true)(F:Nat): ∀(s:List (Nat×Nat)) (listed:Array Bool) (a:Act) (w:World),Closed ops listed->(∀ p∈s,Nat.ble p.1 2=true)->(∀ p∈s,p.2<ops.size)->(∀ p∈s,(p.1 == 2)=T p.2) ->
  (∀ t,T t=true->t<ops.size->∀ p∈s,p.1=0->Vk ops F t p.2=true)->Qt ops s listed=true->Qb P ops Q (Qy ops.toList s) a w->Zd P ops Q T s.length listed a w
 | [],listed,a,w,_,_,_,_,_,hB,h=>⟨by simpa [Qt] using hB,h⟩
 | (k,i)::r,listed,a,w,hcl,hk,hlt,hKT,hR,hB,h=>by
  have hi:i<ops.size:=hlt _ (mC ..);have ho:ops[i]?=some ops[i]:=Array.getElem?_eq_getElem hi;have hn:nth ops.toList i=some ops[i]:=by rw[Xq];simp[hi]
  have hTi:=hKT _ (mC ..);have hk0:=hk _ (mC ..);simp only at hTi hk0;have hrec:Closed ops (listed.setIfInBounds i true)->Qt ops r (listed.setIfInBounds i true)=true->∀ a w,Qb P ops Q (Qy ops.toList r) a w->Zd P ops Q T r.length (listed.setIfInBounds i true) a w:=λhc' hB' a w h'=>
   Jdr hsel F r _ a w hc' (λp hp=>hk p (List.mem_cons_of_mem _ hp)) (λp hp=>hlt p (List.mem_cons_of_mem _ hp)) (λp hp=>hKT p (List.mem_cons_of_mem _ hp)) (λt ht htl p hp=>hR t ht htl p (List.mem_cons_of_mem _ hp)) hB' h'
  have one:Qt ops r (listed.setIfInBounds i true)=true->Region.ready .any ops listed=[i]->(T i=false->if Region.wanted ops[i] (yielded ops a.tmps) then ops[i].wp P a w (λa' w'=>Ext w w'/\Qb P ops Q (Qy ops.toList r) a' w') (QF Q) else Qb P ops Q (Qy ops.toList r) (a.put ops[i].dst undef) w) ->
    (T i=true->if Region.wanted ops[i] (yielded ops a.tmps) then ops[i].wp P a w (Qb P ops Q (Qy ops.toList r)) (QF Q) else Qb P ops Q (Qy ops.toList r) (a.put ops[i].dst undef) w)->Zd P ops Q T (r.length+1) listed a w:=λhB' hr hf ht=>by
   have hcl':Closed ops (listed.setIfInBounds i true):=hcl.step (by grind);refine⟨λh0=>(by rw[hr]at h0;cases h0),λj hj=>?_⟩;rw[hr]at hj;obtain rfl:j=i:=by simpa using hj
   unfold wpOp;simp only[ho];cases hT:T j with
   | false=>
    have h:=hf hT;split
    .rename_i hw;simp only[hw,if_true]at h;exact .inl (Oper.wp_mono (λa' w' h'=>⟨λ_=>h'.1,hrec hcl' hB' _ _ h'.2⟩) h)
    repeat grind [Ext.refl]
   | true=>
    have h:=ht hT;split
    .rename_i hw;simp only[hw,if_true]at h;exact .inl (Oper.wp_mono (λa' w' h'=>⟨λh0=>(by cases h0),hrec hcl' hB' _ _ h'⟩) h)
    repeat grind
  match k,hTi,hk0,hR,hB,h with
  | 0,hTi,_,hR,hB,h=>
   simp only[Qt,Bool.and_eq_true]at hB;obtain⟨⟨hr,hf⟩,hB'⟩:=hB;have hr':i∈Region.ready .any ops listed:=by simpa using hr
   simp only[Qy,hn,Qb,wk1]at h;obtain⟨v,hy,h⟩:=h;refine Jvb Ext Ext.refl Ext.trans ho (Region.noSelect_spec hsel) ?_ r.length listed a w hcl (Region.free_spec ho hf) hr' hy (hrec (hcl.step hr') hB' _ _ h);intro listed' j hcl' hri hrj w w' hx;cases hT:T j with
   | false=>exact hx hT
   | true=>
    obtain⟨_,oj,hoj,_⟩:=mem_ready.1 hrj;have h1:=Gn hcl' F j i oj hoj (Gm hoj hrj) (hR j hT (Array.getElem?_eq_some_iff.1 hoj).1 _ (mC ..) rfl);have h0:=(mem_ready.1 hri).1;grind
  | 1,hTi,_,hR,hB,h=>
   simp only[Qt,Bool.and_eq_true,beq_iff_eq]at hB;simp only[Qy,hn,Qb,wk1]at h;grind
  | 2,hTi,_,hR,hB,h=>
   simp only[Qt,Bool.and_eq_true,beq_iff_eq]at hB;simp only[Qy,hn,Qb,wk1]at h;grind
  | k+3,_,hk0,_,_,_=>simp at hk0
def Jxp(P:Program)(ops:Array Oper)(K:Act->World->Prop): List Oper->Act->World->Prop
 | [],a,w=>K a w
 | o::r,a,w=>∃ v,YieldsIf P ops (λ_=>True) o v a/\Jxp P ops K r (a.put o.dst v) w
def Jwf(ops:Array Oper)(s:List (Nat×Nat)): List Nat->Array Bool->Bool
 | [],listed=>Qt ops s listed
 | i::r,listed=>Nat.blt i ops.size && (Region.ready .any ops listed).contains i && Region.free .any ops listed i && Jwf ops s r (listed.setIfInBounds i true)
def Iy(l:List Oper): List Nat->List Oper
 | []=>[]
 | i::r=>match nth l i with
  | some o=>o::Iy l r
  | none=>Iy l r
theorem Jds(hsel:Region.noSelect ops=true)(F:Nat){s:List (Nat×Nat)}(hk:∀ p∈s,Nat.ble p.1 2=true)(hlt:∀ p∈s,p.2<ops.size)(hKT:∀ p∈s,(p.1 == 2)=T p.2)(hR:∀ t,T t=true->t<ops.size->∀ p∈s,p.1=0->Vk ops F t p.2=true): ∀(s0:List Nat) (listed:Array Bool) (a:Act) (w:World),Closed ops listed->Jwf ops s s0 listed=true ->
  Jxp P ops (Qb P ops Q (Qy ops.toList s)) (Iy ops.toList s0) a w->Zd P ops Q T (s0.length+s.length) listed a w
 | [],listed,a,w,hcl,hB,h=>by
  simp only[List.length_nil,Nat.zero_add];exact Jdr hsel F s listed a w hcl hk hlt hKT hR hB h
 | i::r,listed,a,w,hcl,hB,h=>by
  simp only[Jwf,Bool.and_eq_true]at hB;obtain⟨⟨⟨hi0,hr⟩,hf⟩,hB'⟩:=hB;have hi:i<ops.size:=by(have:i+1<=ops.size:=by simpa [Nat.blt] using hi0);(omega)
  have ho:ops[i]?=some ops[i]:=Array.getElem?_eq_getElem hi;have hn:nth ops.toList i=some ops[i]:=by rw[Xq];simp[hi]
  have hr':i∈Region.ready .any ops listed:=by simpa using hr
  simp only[Iy,hn,Jxp]at h;obtain⟨v,hy,h⟩:=h;have e:(i::r).length+s.length=(r.length+s.length)+1:=by simp;omega
  rw[e];exact Jvb (λ_ _=>True) (λ_=>trivial) (λ_ _=>trivial) ho (Region.noSelect_spec hsel) (λ_ _ _ _ _ _ _ _=>trivial) _ listed a w hcl (Region.free_spec ho hf) hr' hy
   (Jds hsel F hk hlt hKT hR r _ _ _ (hcl.step hr') hB' h)
def Jvs(ops:Array Oper)(F:Nat)(s0:List Nat)(s:List (Nat×Nat)): Bool :=
 Region.noSelect ops && (s0.length+s.length == ops.size) && (s.all λp=>Nat.ble p.1 2) && (s.all λp=>Nat.blt p.2 ops.size) && (s.all λp=>(p.1 == 2) == Ux s p.2) &&
 ((List.range ops.size).all λt=>!Ux s t || s.all λp=>p.1 != 0 || Vk ops F t p.2) && Jwf ops s s0 (Array.replicate ops.size false)
end
section
variable {P:Program} {n:Nat} {al al':AL} {w:World} {Q:Exit->Act->World->Prop} {ops:Array Oper} {s:List (Nat×Oper)} {rest:List Oper}
def WP(P:Program)(n:Nat)(ops:Array Oper)(Q:Exit->Act->World->Prop)(s:List (Nat×Oper))(l:List Oper)(al:AL)(w:World): Prop:=∀ a,Fr n al a->Jxp P ops (Qb P ops Q s) l a w
theorem WP.sub{l:List Oper}(hs:Sub al' al)(h:WP P n ops Q s l al' w): WP P n ops Q s l al w:=λa u=>h a (u.sub hs)
theorem Qjw(F:Nat)(s0:List Nat)(s:List (Nat×Nat))(hm:P.follows .mixedOrders=true)(hB:Jvs l.toArray F s0 s=true)(h:WP P n l.toArray Q (Qy l s) (Iy l s0) al w.drew): WC P n (.region id l.toArray true) Q al w:=by
 intro a J;simp only[Jvs,Bool.and_eq_true,beq_iff_eq,List.all_eq_true,List.mem_range,Bool.or_eq_true,Bool.not_eq_true',bne_iff_ne]at hB;obtain⟨⟨⟨⟨⟨⟨h1,y⟩,h3⟩,Z⟩,U⟩,h6⟩,O⟩:=hB;refine wp_region_any hm ?_;rw[<-y];refine Jwz (T:=Ux s) _ _ _ _ (Jds h1 F (λp u=>h3 p u) (λp u=>?_) (λp u=>?_) (λt ht D p u h0=>?_) s0 _ a _ ?_ (by rw[y];exact O) ?_)
 .have:=Z p u;have h':p.2+1<=l.toArray.size:=by simpa [Nat.blt] using this
  omega
 .simpa using U p u
 .grind
 .intro k o ho G e he hb;exfalso
  simp only[Array.getD_eq_getD_getElem?,Array.getElem?_replicate]at G;grind
 have:=h a J;simpa using this
variable {d ty:Nat} {op:Op} {pos:String} {aft:Array Edge} {tt:TT}
theorem pnil(h:WD P n ops Q s al w): WP P n ops Q s [] al w:=λa u=>h a u
theorem py(hy:∀ w' a,Fr n al a->(execOp a.eval ⟨some d,op,ty,pos,aft,none⟩).run P w'=.ok (.value v) w')(hd:Nat.blt d n=true)(k:WP P n ops Q s rest ((d,v)::al) w): WP P n ops Q s (⟨some d,op,ty,pos,aft,none⟩::rest) al w:=λa y=>by
 have u:d<n:=by(have:d+1<=n:=by simpa [Nat.blt] using hd);(omega)
 exact⟨v,.inl ⟨rfl,λw' _=>hy w' a y⟩,k _ (y.put u v)⟩
theorem π4[h:Tab P tt](k:WP P n ops Q s rest ((d,v)::al) w)(hv:pv tt (ev al) op=some v:=by rfl)(hd:Nat.blt d n=true:=by rfl): WP P n ops Q s (⟨some d,op,ty,pos,aft,none⟩::rest) al w :=
 py (λw' a D=>Uv w' h.ok (λx u y=>D.ev y) hv) hd k
theorem π1(k:WP P n ops Q s rest ((d,.int .i64 (a+b))::al) w)(hx:ev al x=some (.int .i64 a):=by rfl)(hy:ev al y=some (.int .i64 b):=by rfl)(hd:Nat.blt d n=true:=by rfl)(hc:-9223372036854775808<=a+b/\a+b<=9223372036854775807:=by omega):
  WP P n ops Q s (⟨some d,.binOp .add t x y yt,ty,pos,aft,none⟩::rest) al w :=
 py (λw' e F=>by
  have G:IntKind.i64.wrap (a+b)=a+b:=Vf hc;have:=Uv (P:=P) (tt:=[]) w' trivial (o:=⟨some d,.binOp .add t x y yt,ty,pos,aft,none⟩) (ρ:=e.eval) (e:=ev al) (λz u D=>F.ev D) (v:=.int .i64 (IntKind.i64.wrap (a+b))) (by grind [pv,bop]);grind) hd k
theorem π2(k:WP P n ops Q s rest ((d,.int .i64 (a-b))::al) w)(hx:ev al x=some (.int .i64 a):=by rfl)(hy:ev al y=some (.int .i64 b):=by rfl)(hd:Nat.blt d n=true:=by rfl)(hc:-9223372036854775808<=a-b/\a-b<=9223372036854775807:=by omega):
  WP P n ops Q s (⟨some d,.binOp .sub t x y yt,ty,pos,aft,none⟩::rest) al w :=
 py (λw' e F=>by
  have G:IntKind.i64.wrap (a-b)=a-b:=Vf hc;have:=Uv (P:=P) (tt:=[]) w' trivial (o:=⟨some d,.binOp .sub t x y yt,ty,pos,aft,none⟩) (ρ:=e.eval) (e:=ev al) (λz u D=>F.ev D) (v:=.int .i64 (IntKind.i64.wrap (a-b))) (by grind [pv,bop]);grind) hd k
theorem π5(h:WD P n ops Q s al w): WP P n ops Q s [] al w:=pnil h
theorem drC[h:Tab P tt](F:Nat)(s0:List Nat)(s:List (Nat×Nat))(hB:Jvs l.toArray F s0 s=true)(k:WP P n l.toArray Q (Qy l s) (Iy l s0) al w.drew): WC P n (.region id l.toArray true) Q al w:=Qjw F s0 s h.mixed hB k
end
end Go.Wk
namespace Go.Wk
open Go.RowKit
section
variable {P:Program} {n:Nat} {al al':AL} {w:World} {Q:Exit->Act->World->Prop} {ops:Array Oper} {drest:List (Nat×Oper)} {rest:List Oper} {s:List (Nat×Oper)}
variable {d ty:Nat} {op:Op} {pos:String} {aft:Array Edge} {tt:TT}
end
end Go.Wk
namespace Go.Wk
variable {a b:AL}{p q:Prop}
structure Hold(p:Prop): Prop where
 of:p
theorem ρ(h:p)(t:Hold p->q:=by intro h;(repeat first|refine ω1 ?_|refine ω2 ?_|refine ω3 ?_|refine ω4 ?_|refine ω5 ?_|refine χ1 ?_|refine κ1 ?_|refine κ2 ?_|refine χ2 ?_|refine κ3 ?_|refine ω6 ?_|refine ω7 ?_|refine ω9 ?_|refine κ4 ?_|refine κ7 ?_|refine κ8 ?_|refine χ3 ?_|refine χ4 ?_|refine κ5 ?_|refine κ6 ?_|refine χ5 ?_|refine χ6 ?_|refine χ7 ?_|refine ω8 ?_);exact h.of): q:=t ⟨h⟩
theorem ρd(h:p)(t:Hold p->q:=by intro h;(repeat first|refine δ1 ?_|refine δ2 ?_|refine δ4 ?_|refine δ5 ?_|refine δ6 ?_|refine δ7 ?_|refine δ9 ?_|refine δ8 ?_|refine χ1 ?_|refine χ2 ?_|refine χ3 ?_|refine χ4 ?_|refine χ5 ?_|refine χ6 ?_|refine χ7 ?_);exact h.of): q:=t ⟨h⟩
theorem ρp(h:p)(t:Hold p->q:=by intro h;(repeat first|refine π1 ?_|refine π2 ?_|refine π4 ?_|refine π5 ?_);exact h.of): q:=t ⟨h⟩
theorem sB(h:Sub a b:=by repeat' (first|exact Sub.nil|refine Sub.cons rfl ?_)): Sub a b:=h
theorem sO(h:Sub a b:=by repeat' (first|exact Sub.nil|refine Sub.cons (by first|rfl|(refine congrArg (λz=>some (Value.int .i64 z)) ?_;omega)) ?_)): Sub a b:=h
end Go.Wk
namespace Go.Wk
open Go.RowKit
variable {cs xs:List Value}{base c e j m:Nat}{A:Option Addr}
section
variable {P:Program} {n:Nat} {al:AL} {w:World} {Q:Exit->Act->World->Prop} {ops:Array Oper} {rest:List Oper}
variable {d ty:Nat} {op:Op} {pos:String} {aft:Array Edge} {tt:TT}
theorem Qyv{sz:Nat}(ho:w.ownsRow base e sz (.slice A m c) m xs)(hj:j<m)(hl:cs.length=sz)(h1:∀ u∈cs,u.oneCell'=true):
  ∃ w',(storeCells (adr A (j*sz)) cs).run P w=.ok () w'/\w'.ownsRow base e sz (.slice A m c) m (xs.take (j*sz)++cs++xs.drop (j*sz+sz))/\w.grownBy w' (Value.slice A m c).ownBlock:=by
 rcases ho.2 with⟨_,h0⟩|⟨g,cap,cur,hv,hb,hg,hc,hcm,hcs,ht⟩
 .omega
 injection hv with F _ e3
 subst F;subst e3;have J:j*sz+sz<=m*sz:=by have:=nO sz hj;grind
 have G:m*sz<=c*sz:=nO _ hc;have O:adr (some ⟨g,0,none⟩) (j*sz)=⟨g,j*sz,none⟩:=by simp[adr,Za]
 rw[O];have y:=run_storeCells_at (P:=P) g (j*sz) e cs 0 cur w hg om h1;simp only[Nat.add_zero]at y;refine⟨_,y,⟨?_,.inr ⟨g,c,_,rfl,hb,setRow_heap w g cur _ e (0,0) hg,hc,hcm,?_,?_⟩⟩,?_⟩
 .grind
 .grind
 .simp only;have D:(cur.toList.take (j*sz)++cs).length=j*sz+sz:=by grind
  rw[List.take_append,D];have F:(cur.toList.take (j*sz)++cs).take (m*sz)=cur.toList.take (j*sz)++cs:=List.take_of_length_le om;rw[F,<-ht,List.take_take,Nat.min_eq_left om,List.drop_take,hl]
 have:=Jjd w g (cur.toList.take (j*sz)++cs++cur.toList.drop (j*sz+cs.length)).toArray;exact this
theorem stoE[h:Tab P tt]{x y:Operand}{t sz:Nat}{k:TK}(ho:w.ownsRow base e sz (.slice A m c) m xs)(hj:j<m)(kk:∀ w1,w1.ownsRow base e sz (.slice A m c) m (xs.take (j*sz)++cs++xs.drop (j*sz+sz))->w.grownBy w1 (Value.slice A m c).ownBlock->WL P n ops Q rest al w1)(h1:∀ u∈cs,u.oneCell'=true)(ht:tk tt t=some k:=by rfl)(hk:k.desc=.invalid:=by rfl)(hs:k.size=sz:=by rfl)(hl:cs.length=sz:=by rfl)(hx:ev al x=some (.pointer (some (adr A (j*sz)))):=by rfl)(hy:ev al y=some (.agg cs.toArray):=by rfl):
  WL P n ops Q (⟨none,.store t x y,ty,pos,aft,none⟩::rest) al w:=by
 obtain⟨w',F,G,J⟩:=Qyv (P:=P) ho hj hl h1;refine Kn (λa O=>?_) (kk w' G J);have D:=Vj w (Jjz h.ok ht hk w).2;simp[execOp,O.ev hx,O.ev hy,Instr.storeAt,Instr.sureAddr,storeVar,Value.cells,D,hs,hl,F]
end
end Go.Wk
namespace Go.Wk
open Go.RowKit
variable {p q:Bool}{x y:Operand}{k:TK}{t t2:TypeId}
section
variable {P:Program} {n:Nat} {al:AL} {w:World} {Q:Exit->Act->World->Prop} {ops:Array Oper} {rest:List Oper} {drest:List (Nat×Oper)}
variable {d ty:Nat} {op:Op} {pos:String} {aft:Array Edge} {tt:TT}
def toE(P:Program)(ops:Array Oper)(Q:Exit->Act->World->Prop)(w0:World)(rest:List (Nat×Oper)): Exit->Act->World->Prop
 | .normal,a,w=>Ext w0 w/\Qb P ops Q rest a w
 | _,_,_=>False
theorem Jkw{w0:World}(hx:Ext w0 w)(h:WD P n ops Q drest al w): QX n (toE P ops Q w0 drest) .normal al w:=λa u=>⟨hx,h a u⟩
theorem Jkx{o:Oper}(h:WL P n ops (toE P ops Q w drest) [o] al w): WD P n ops Q ((1,o)::drest) al w:=λa D=>by
 have u:=h a D;unfold wpList at u;unfold Qb wk1;simp only;have y:¬ LetsOut (toE P ops Q w drest):=by rintro⟨a,w,h⟩;exact h
 split
 .rename_i hw;simp only[hw,if_true]at u;rcases u with u|⟨_,u⟩
  .refine Oper.wp_mono (K:=wpList P ops (toE P ops Q w drest) []) (λG w' F=>F) ?_;unfold Oper.wp at u ⊢;grind [Yx,toE]
  exact absurd u y
 rename_i hw;simp only[hw]at u;exact u.2
theorem Qkf(hT:TOk P tt)(ht:tk tt t=some k)(hk:k.desc=.bool){a:Act}(ha:Fr n al a)(hx:ev al x=some (.bool p))(hy:ev al y=some (.bool q))(dst:Option Nat)(w:World):
  (execOp a.eval ⟨dst,.binOp .eql t x y t2,ty,pos,aft,none⟩).run P w=.ok (.value (.bool (p == q))) w:=by
 have u:=Yl hT ht hk rfl;have h:∀ d:Nat,(Op.equalIn (d+1) t (.bool p) (.bool q)).run P w=.ok (p == q) w:=λd=>by simp[Op.equalIn,run_underlying u]
 simp[execOp,ha.ev hx,ha.ev hy,eqGuard,binOp,Op.equal,Op.maxDepth,h 9999]
theorem eqb[h:Tab P tt](kk:WL P n ops Q rest ((d,.bool (p == q))::al) w)(ht:tk tt t=some k:=by rfl)(hk:k.desc=.bool:=by rfl)(hx:ev al x=some (.bool p):=by rfl)(hy:ev al y=some (.bool q):=by rfl)(hd:Nat.blt d n=true:=by rfl):
  WL P n ops Q (⟨some d,.binOp .eql t x y t2,ty,pos,aft,none⟩::rest) al w:=wop hd (λa u=>Qkf h.ok ht hk u hx hy (some d) w) kk
end
end Go.Wk
namespace Go.Wk
open Go.RowKit
variable {L listed:Array Bool}{l:List Oper}{fuel fuel' i id:Nat}{o oi oj:Oper}{w w0:World}
section
variable {P:Program} {ops:Array Oper} {Q:Exit->Act->World->Prop}
def noT: Nat->Bool:=λ_=>false
theorem Qxr: Gd ops noT=true:=by simp[Gd,noT]
def Gw(ops:Array Oper): List (Nat×Nat)->Array Bool->Option (Array Bool)
 | [],listed=>some listed
 | (0,i)::r,listed=>if(Region.ready .any ops listed).contains i && Region.free .any ops listed i && Nat.blt i ops.size then Gw ops r (listed.setIfInBounds i true) else none
 | (1,i)::r,listed=>if(Region.ready .any ops listed == [i]) && Nat.blt i ops.size then Gw ops r (listed.setIfInBounds i true) else none
 | _::_,_=>none
def toK(P:Program)(ops:Array Oper)(Q:Exit->Act->World->Prop)(fuel:Nat)(listed:Array Bool): Exit->Act->World->Prop
 | .normal,a,w=>Yq P ops Q noT fuel listed a w
 | _,_,_=>False
theorem Qpn{a:Act}{K:Act->World->Prop}(h:o.wp P a w K (QF (toK P ops Q fuel listed))): o.wp P a w K (QF Q):=by
 unfold Oper.wp at h ⊢;have u:¬ LetsOut (QF (toK P ops Q fuel listed)):=by rintro⟨a,w,h⟩;exact h
 grind [Yx,QF,toK]
theorem Jxs(hsel:Region.noSelect ops=true)(fuel:Nat)(listed':Array Bool): ∀(s:List (Nat×Nat)) (listed:Array Bool) (a:Act) (w:World),Gw ops s listed=some listed'->Qb P ops (toK P ops Q fuel listed') (Qy ops.toList s) a w->Yq P ops Q noT (s.length+fuel) listed a w
 | [],listed,a,w,hB,h=>by
  simp only[Gw,Option.some.injEq]at hB;subst hB;simp only[List.length_nil,Nat.zero_add];exact h
 | (0,i)::r,listed,a,w,hB,h=>by
  simp only[Gw]at hB;split at hB
  .rename_i hc;simp only[Bool.and_eq_true]at hc;obtain⟨⟨hr,hf⟩,hi0⟩:=hc;have hi:i<ops.size:=by(have:i+1<=ops.size:=by simpa [Nat.blt] using hi0);(omega)
   have ho:ops[i]?=some ops[i]:=Array.getElem?_eq_getElem hi;have hn:nth ops.toList i=some ops[i]:=by rw[Xq];simp[hi]
   simp only[Qy,hn,Qb,wk1]at h;obtain⟨v,hy,h⟩:=h;rw[show((0,i)::r).length+fuel=(r.length+fuel)+1 by simp;omega];exact Jdq Qxr ho rfl (Region.noSelect_spec hsel) _ listed a w (Region.free_spec ho hf) (by simpa using hr) hy (Jxs hsel fuel listed' r _ _ _ hB h)
  cases hB
 | (1,i)::r,listed,a,w,hB,h=>by
  simp only[Gw]at hB;split at hB
  .rename_i hc;simp only[Bool.and_eq_true,beq_iff_eq]at hc;obtain⟨hr,hi0⟩:=hc;have hi:i<ops.size:=by(have:i+1<=ops.size:=by simpa [Nat.blt] using hi0);(omega)
   have ho:ops[i]?=some ops[i]:=Array.getElem?_eq_getElem hi;have hn:nth ops.toList i=some ops[i]:=by rw[Xq];simp[hi]
   simp only[Qy,hn,Qb,wk1]at h;rw[show((1,i)::r).length+fuel=(r.length+fuel)+1 by simp;omega];refine .inr ⟨λh0=>(by rw[hr]at h0;cases h0),λj hj=>?_⟩;rw[hr]at hj;obtain rfl:j=i:=by simpa using hj
   unfold wpOp;simp only[ho];split
   .rename_i hw;simp only[hw,if_true]at h;exact .inl (Oper.wp_mono (λa' w' h'=>⟨h'.1,Jxs hsel fuel listed' r _ _ _ hB h'.2⟩) (Qpn h))
   rename_i hw;simp only[hw]at h;exact⟨Ext.refl w,Jxs hsel fuel listed' r _ _ _ hB h⟩
  cases hB
 | (k+2,i)::r,listed,a,w,hB,h=>by simp[Gw]at hB
end
section
variable {P:Program} {n:Nat} {al al':AL} {w:World} {Q:Exit->Act->World->Prop} {ops:Array Oper}
def WG(P:Program)(n:Nat)(ops:Array Oper)(Q:Exit->Act->World->Prop)(fuel:Nat)(listed:Array Bool)(al:AL)(w:World): Prop:=∀ a,Fr n al a->Yq P ops Q noT fuel listed a w
theorem WG.sub{fuel:Nat}{listed:Array Bool}(hs:Sub al' al)(h:WG P n ops Q fuel listed al' w): WG P n ops Q fuel listed al w:=λa u=>h a (u.sub hs)
theorem drG{tt:TT}[ht:Tab P tt](hsel:Region.noSelect l.toArray=true)(h:WG P n l.toArray Q l.toArray.size (Array.replicate l.toArray.size false) al w.drew): WC P n (.region id l.toArray true) Q al w:=λa u=>
 wp_region_any ht.mixed (Jwx (T:=noT) _ _ _ _ (h a u))
theorem gpre(s:List (Nat×Nat))(listed':Array Bool)(hsel:Region.noSelect l.toArray=true)(hB:Gw l.toArray s listed=some listed')(hf:fuel=s.length+fuel')(h:WD P n l.toArray (toK P l.toArray Q fuel' listed') (Qy l s) al w): WG P n l.toArray Q fuel listed al w:=λa u=>by
 subst hf;refine Jxs hsel fuel' listed' s listed a w hB ?_;have:=h a u;simpa using this
theorem Jkn(h:WG P n ops Q fuel listed al w): QX n (toK P ops Q fuel listed) .normal al w:=h
theorem gend(hr:Region.ready .any ops listed=[])(h:QX n Q .normal al w): WG P n ops Q 0 listed al w:=λa u=>⟨hr,h a u⟩
def toJ(P:Program)(ops:Array Oper)(Q:Exit->Act->World->Prop)(w0:World)(fuel:Nat)(listed:Array Bool): Exit->Act->World->Prop
 | .normal,a,w=>Ext w0 w/\Yq P ops Q noT fuel listed a w
 | _,_,_=>False
theorem Jnk(hx:Ext w0 w)(h:WG P n ops Q fuel listed al w): QX n (toJ P ops Q w0 fuel listed) .normal al w:=λa u=>⟨hx,h a u⟩
theorem Qjk(ho:ops[i]?=some o)(h:WL P n ops (toJ P ops Q w fuel listed) [o] al w): ∀ a,Fr n al a->wpOp P ops (QF Q) i (λa' w'=>Ext w w'/\Yq P ops Q noT fuel listed a' w') a w:=λa D=>by
 have u:=h a D;unfold wpList at u;unfold wpOp;simp only[ho];have y:¬ LetsOut (toJ P ops Q w fuel listed):=by rintro⟨a,w,h⟩;exact h
 split
 .rename_i hw;simp only[hw,if_true]at u;rcases u with u|⟨_,u⟩
  .left
   refine Oper.wp_mono (K:=wpList P ops (toJ P ops Q w fuel listed) []) (λa' w' F=>F) ?_;unfold Oper.wp at u ⊢;grind [Yx,toJ]
  exact absurd u y
 rename_i hw;simp only[hw]at u;exact u
theorem gtwo(i j:Nat)(hr:Region.ready .any l.toArray listed=[i,j])(hf:fuel=fuel'+1)(hi:nth l i=some oi)(hj:nth l j=some oj)(h1:WL P n l.toArray (toJ P l.toArray Q w fuel' (listed.setIfInBounds i true)) [oi] al w)(h2:WL P n l.toArray (toJ P l.toArray Q w fuel' (listed.setIfInBounds j true)) [oj] al w): WG P n l.toArray Q fuel listed al w:=λa y=>by
 subst hf;have F:l.toArray[i]?=some oi:=by rw[<-hi,Xq];simp
 have D:l.toArray[j]?=some oj:=by rw[<-hj,Xq];simp
 refine .inr ⟨λh0=>(by rw[hr]at h0;cases h0),λk u=>?_⟩;grind [Qjk]
theorem gcut{α:Type}(fuel':Nat)(L':Array Bool)(fr:α->AL)(I:α->World->Prop)(h2:∀ x w,I x w->WG P n ops Q fuel' L' (fr x) w)(h1:(∀ x al w,I x w->Sub (fr x) al->WG P n ops Q fuel' L' al w)->WG P n ops Q fuel L al w): WG P n ops Q fuel L al w:=h1 λx al w hi u=>(h2 x w hi).sub u
def lst(m k:Nat): Array Bool:=((List.range m).map λi=>Nat.blt i k).toArray
end
end Go.Wk
namespace Go.Wk
open Go.RowKit
variable {L listed listed':Array Bool}{l:List Oper}{fuel fuel' id:Nat}
section
variable {P:Program} {ops:Array Oper} {Q:Exit->Act->World->Prop} {T:Nat->Bool}
def Yo(ops:Array Oper)(T:Nat->Bool)(F:Nat): List (Nat×Nat)->Array Bool->Option (Array Bool)
 | [],listed=>some listed
 | (0,i)::r,listed=>if(Region.ready .any ops listed).contains i && Region.free .any ops listed i && Nat.blt i ops.size && !T i && (List.range ops.size).all (λt=>!T t || Vk ops F t i) then Yo ops T F r (listed.setIfInBounds i true) else none
 | (1,i)::r,listed=>if(Region.ready .any ops listed == [i]) && Nat.blt i ops.size then Yo ops T F r (listed.setIfInBounds i true) else none
 | (2,i)::r,listed=>if(Region.ready .any ops listed == [i]) && Nat.blt i ops.size && T i then Yo ops T F r (listed.setIfInBounds i true) else none
 | _::_,_=>none
def Ke(P:Program)(ops:Array Oper)(Q:Exit->Act->World->Prop)(T:Nat->Bool)(fuel:Nat)(listed:Array Bool): Exit->Act->World->Prop
 | .normal,a,w=>Closed ops listed->Zd P ops Q T fuel listed a w
 | _,_,_=>False
theorem Jtt{o:Oper}{a:Act}{w:World}{K:Act->World->Prop}(h:o.wp P a w K (QF (Ke P ops Q T fuel listed))): o.wp P a w K (QF Q):=by
 unfold Oper.wp at h ⊢;have u:¬ LetsOut (QF (Ke P ops Q T fuel listed)):=by rintro⟨a,w,h⟩;exact h
 grind [Yx,QF,Ke]
theorem Km(hsel:Region.noSelect ops=true)(F fuel:Nat)(listed':Array Bool): ∀(s:List (Nat×Nat)) (listed:Array Bool) (a:Act) (w:World),Closed ops listed->Yo ops T F s listed=some listed'->Qb P ops (Ke P ops Q T fuel listed') (Qy ops.toList s) a w->Zd P ops Q T (s.length+fuel) listed a w
 | [],listed,a,w,hcl,hB,h=>by
  simp only[Yo,Option.some.injEq]at hB;subst hB;simp only[List.length_nil,Nat.zero_add];exact h hcl
 | (0,i)::r,listed,a,w,hcl,hB,h=>by
  simp only[Yo]at hB;split at hB
  .rename_i hc;simp only[Bool.and_eq_true]at hc;obtain⟨⟨⟨⟨hr,hf⟩,hi0⟩,hTi⟩,hre⟩:=hc;have hi:i<ops.size:=by(have:i+1<=ops.size:=by simpa [Nat.blt] using hi0);(omega)
   have ho:ops[i]?=some ops[i]:=Array.getElem?_eq_getElem hi;have hn:nth ops.toList i=some ops[i]:=by rw[Xq];simp[hi]
   have hr':i∈Region.ready .any ops listed:=by simpa using hr
   simp only[Qy,hn,Qb,wk1]at h;obtain⟨v,hy,h⟩:=h;rw[show((0,i)::r).length+fuel=(r.length+fuel)+1 by simp;omega];refine Jvb Ext Ext.refl Ext.trans ho (Region.noSelect_spec hsel) ?_ _ listed a w hcl (Region.free_spec ho hf) hr' hy (Km hsel F fuel listed' r _ _ _ (hcl.step hr') hB h);intro listed2 j hcl2 hri hrj w w' hx;cases hT:T j with
   | false=>exact hx hT
   | true=>
    obtain⟨_,oj,hoj,_⟩:=mem_ready.1 hrj;have hjl:j<ops.size:=by grind
    have h9:=List.all_eq_true.1 hre j (List.mem_range.2 hjl);rw[hT]at h9;have h1:=Gn hcl2 F j i oj hoj (Gm hoj hrj) (by simpa using h9);have h0:=(mem_ready.1 hri).1;grind
  cases hB
 | (1,i)::r,listed,a,w,hcl,hB,h=>by
  simp only[Yo]at hB;split at hB
  .rename_i hc;simp only[Bool.and_eq_true,beq_iff_eq]at hc;obtain⟨hr,hi0⟩:=hc;have hi:i<ops.size:=by(have:i+1<=ops.size:=by simpa [Nat.blt] using hi0);(omega)
   have ho:ops[i]?=some ops[i]:=Array.getElem?_eq_getElem hi;have hn:nth ops.toList i=some ops[i]:=by rw[Xq];simp[hi]
   have hcl':Closed ops (listed.setIfInBounds i true):=hcl.step (by grind);simp only[Qy,hn,Qb,wk1]at h;rw[show((1,i)::r).length+fuel=(r.length+fuel)+1 by simp;omega];refine⟨λh0=>(by rw[hr]at h0;cases h0),λj hj=>?_⟩;rw[hr]at hj;obtain rfl:j=i:=by simpa using hj
   unfold wpOp;simp only[ho];split
   .rename_i hw;simp only[hw,if_true]at h;exact .inl (Oper.wp_mono (λa' w' h'=>⟨λ_=>h'.1,Km hsel F fuel listed' r _ _ _ hcl' hB h'.2⟩) (Jtt h))
   rename_i hw;simp only[hw]at h;exact⟨λ_=>Ext.refl w,Km hsel F fuel listed' r _ _ _ hcl' hB h⟩
  cases hB
 | (2,i)::r,listed,a,w,hcl,hB,h=>by
  simp only[Yo]at hB;split at hB
  .rename_i hc;simp only[Bool.and_eq_true,beq_iff_eq]at hc;obtain⟨⟨hr,hi0⟩,hTi⟩:=hc;have hi:i<ops.size:=by(have:i+1<=ops.size:=by simpa [Nat.blt] using hi0);(omega)
   have ho:ops[i]?=some ops[i]:=Array.getElem?_eq_getElem hi;have hn:nth ops.toList i=some ops[i]:=by rw[Xq];simp[hi]
   have hcl':Closed ops (listed.setIfInBounds i true):=hcl.step (by grind);simp only[Qy,hn,Qb,wk1]at h;rw[show((2,i)::r).length+fuel=(r.length+fuel)+1 by simp;omega];refine⟨λh0=>(by rw[hr]at h0;cases h0),λj hj=>?_⟩;rw[hr]at hj;obtain rfl:j=i:=by simpa using hj
   unfold wpOp;simp only[ho];split
   .rename_i hw;simp only[hw,if_true]at h;exact .inl (Oper.wp_mono (λa' w' h'=>⟨λh0=>(by grind),Km hsel F fuel listed' r _ _ _ hcl' hB h'⟩) (Jtt h))
   rename_i hw;simp only[hw]at h;exact⟨λ_=>Ext.refl w,Km hsel F fuel listed' r _ _ _ hcl' hB h⟩
  cases hB
 | (k+3,i)::r,listed,a,w,hcl,hB,h=>by simp[Yo]at hB
end
section
variable {P:Program} {n:Nat} {al al':AL} {w:World} {Q:Exit->Act->World->Prop} {ops:Array Oper} {T:Nat->Bool}
def WH(P:Program)(n:Nat)(ops:Array Oper)(Q:Exit->Act->World->Prop)(T:Nat->Bool)(fuel:Nat)(listed:Array Bool)(al:AL)(w:World): Prop:=Closed ops listed->∀ a,Fr n al a->Zd P ops Q T fuel listed a w
theorem WH.sub{fuel:Nat}{listed:Array Bool}(hs:Sub al' al)(h:WH P n ops Q T fuel listed al' w): WH P n ops Q T fuel listed al w:=λu a y=>h u a (y.sub hs)
theorem Qmj(ops:Array Oper)(m:Nat): Closed ops (Array.replicate m false):=λk o _ u=>by
 exfalso
 rcases Nat.lt_or_ge k m with h|h
 .simp[h]at u
 repeat grind
theorem drH{tt:TT}[ht:Tab P tt](T:Nat->Bool)(h:WH P n l.toArray Q T l.toArray.size (Array.replicate l.toArray.size false) al w.drew): WC P n (.region id l.toArray true) Q al w:=λa u=>
 wp_region_any ht.mixed (Jwz (T:=T) _ _ _ _ (h (Qmj _ _) a u))
theorem Jjb(F:Nat)(s:List (Nat×Nat))(listed':Array Bool)(hsel:Region.noSelect l.toArray=true)(hB:Yo l.toArray T F s listed=some listed')(hf:fuel=s.length+fuel')(h:WD P n l.toArray (Ke P l.toArray Q T fuel' listed') (Qy l s) al w): WH P n l.toArray Q T fuel listed al w:=λu a y=>by
 subst hf;refine Km hsel F fuel' listed' s listed a w u hB ?_;have:=h a y;simpa using this
theorem Jjc(h:WH P n ops Q T fuel listed al w): QX n (Ke P ops Q T fuel listed) .normal al w:=λa y u=>h u a y
theorem Zx(hr:Region.ready .any ops listed=[])(h:QX n Q .normal al w): WH P n ops Q T 0 listed al w:=λ_ a u=>⟨hr,h a u⟩
theorem hlist(e:listed=listed')(h:WH P n ops Q T fuel listed' al w): WH P n ops Q T fuel listed al w:=by subst e;exact h
theorem hcut{α:Type}(fuel':Nat)(L':Array Bool)(fr:α->AL)(I:α->World->Prop)(h2:∀ x w,I x w->WH P n ops Q T fuel' L' (fr x) w)(h1:(∀ x al w,I x w->Sub (fr x) al->WH P n ops Q T fuel' L' al w)->WH P n ops Q T fuel L al w): WH P n ops Q T fuel L al w:=h1 λx al w hi u=>(h2 x w hi).sub u
end
end Go.Wk
namespace Go.Wk
open Go.RowKit
variable {a e:Act}{b z:Int}{k1 kd:IntKind}{i x y:Operand}{k:TK}{t t2 yt:TypeId}
section
variable {P:Program} {n:Nat} {al:AL} {w:World} {Q:Exit->Act->World->Prop} {ops:Array Oper} {rest:List Oper} {drest:List (Nat×Oper)}
variable {d ty:Nat} {op:Op} {pos:String} {aft:Array Edge} {tt:TT}
theorem Qxm(hT:TOk P tt){t m e sz:Nat}(ht:tk tt t=some k)(hk:k.desc=.array m e)(hz:k.esz=sz): P.underlying t=some (.array m e)/\Xh P e=some sz:=by
 have:=hT.at ht;grind [Vn]
theorem Jgw(hT:TOk P tt){t m e:Nat}{p:Addr}(j:Nat)(ht:tk tt t=some k)(hk:k.desc=.array m e)(hlt:j<m)(ha:Fr n al a)(hx:ev al x=some (.pointer (some p)))(hi:ev al i=some (.int kd z))(hj:z=(j:Int))(dst:Option Nat)(w:World):
  (execOp a.eval ⟨dst,.indexAddr t x i,ty,pos,aft,none⟩).run P w=.ok (.value (.pointer (some (p.add (j*k.esz))))) w:=by
 obtain⟨u,y⟩:=Qxm hT ht hk rfl;subst hj;simp[execOp,ha.ev hx,ha.ev hi,Instr.indexAt,asIntOf,run_underlying u,Vj w y,Instr.sureAddr];intro h;omega
theorem Jgs{a:Int}(h0:b≠0)(he:Fr n al e)(hx:ev al x=some (.int k1 a))(hy:ev al y=some (.int k1 b))(dst:Option Nat)(w:World):
  (execOp e.eval ⟨dst,.binOp .rem t x y yt,ty,pos,aft,none⟩).run P w=.ok (.value (.int k1 (a.tmod b))) w:=by
 simp[execOp,he.ev hx,he.ev hy,eqGuard,binOp,Op.intDiv,h0]
theorem drem{a:Int}(h0:b≠0)(kk:WD P n ops Q drest ((d,.int k1 (a.tmod b))::al) w)(hx:ev al x=some (.int k1 a):=by rfl)(hy:ev al y=some (.int k1 b):=by rfl)(hd:Nat.blt d n=true:=by rfl):
  WD P n ops Q ((0,⟨some d,.binOp .rem t x y yt,ty,pos,aft,none⟩)::drest) al w:=dy (λw' _ e u=>Jgs h0 u hx hy (some d) w') hd kk
theorem rem{a:Int}(h0:b≠0)(kk:WL P n ops Q rest ((d,.int k1 (a.tmod b))::al) w)(hx:ev al x=some (.int k1 a):=by rfl)(hy:ev al y=some (.int k1 b):=by rfl)(hd:Nat.blt d n=true:=by rfl):
  WL P n ops Q (⟨some d,.binOp .rem t x y yt,ty,pos,aft,none⟩::rest) al w:=by grind [wop,Jgs]
theorem Qkc(hT:TOk P tt){p q:Bool}(ht:tk tt t=some k)(hk:k.desc=.bool)(ha:Fr n al a)(hx:ev al x=some (.bool p))(hy:ev al y=some (.bool q))(dst:Option Nat)(w:World):
  (execOp a.eval ⟨dst,.binOp .neq t x y t2,ty,pos,aft,none⟩).run P w=.ok (.value (.bool (!(p == q)))) w:=by
 have u:=Yl hT ht hk rfl;have h:∀ d:Nat,(Op.equalIn (d+1) t (.bool p) (.bool q)).run P w=.ok (p == q) w:=λd=>by simp[Op.equalIn,run_underlying u]
 simp[execOp,ha.ev hx,ha.ev hy,eqGuard,binOp,Op.equal,Op.maxDepth,h 9999]
end
end Go.Wk
