/- Part 1. -/
import Derived.Test.YtebcagekopgdhaaGreatDoorB00
import Derived.Maps.AppendAt
import Derived.ArgAppend
import Derived.Laws.OwnMore
import Derived.Laws.BytesArg
import Derived.OwnWalk
import Derived.Deep.AppendLies
import Derived.Deep.Onto
set_option linter.unusedVariables false
set_option maxRecDepth 100000
set_option maxHeartbeats 40000000
namespace Go.Wk
open Go.RowKit
abbrev Ext(w w':World): Prop:=Below w.heap.size w w'
theorem Ext.refl(w:World): Ext w w:=Below.refl _ _
theorem Ext.trans{a b c:World}(h:Ext a b)(k:Ext b c): Ext a c:=Below.trans h (k.mono h.size)
theorem Ext.drew{a b:World}(h:Ext a b): Ext a b.drew:=Below.drew h
theorem Ext.alloc{a b:World}(h:Ext a b)(o:Obj): Ext a (b.alloc o):=Below.alloc h h.size o
theorem Ext.setCell{a b:World}(h:Ext a b){p:Addr}(hp:a.heap.size<=p.block)(u:Value): Ext a (b.setCell p u):=Below.setCell h hp u
theorem Uf(a:Addr)(n:Nat): (a.add n).block=a.block:=by unfold Addr.add;split<;>rfl
theorem add_add(a:Addr)(i j:Nat): (a.add i).add j=a.add (i+j):=by
 unfold Addr.add;by_cases hi:i=0<;>by_cases hj:j=0<;>simp [hi,hj,Nat.add_assoc]
theorem add_zero(a:Addr): a.add 0=a:=by simp [Addr.add]
theorem Vg(b o j:Nat): (⟨b,o,none⟩:Addr).add j=⟨b,o+j,none⟩:=by unfold Addr.add;split<;>simp_all
def adr(A:Option Addr)(k:Nat): Addr:=(A.getD ⟨0,0,none⟩).add k
theorem Xb(A:Option Addr)(k j:Nat): (adr A k).add j=adr A (k+j):=by unfold adr;rw [add_add]
def Rd(w:World)(sz:Nat)(A:Option Addr)(n:Nat)(cs:List Value): Prop :=
 cs.length=n*sz/\(0<cs.length->∃ ad,A=some ad/\ad.block<w.heap.size/\∀ j u,cs[j]?=some u->w.cell? (ad.add j)=some u)
section
variable {w w':World} {sz n:Nat} {A:Option Addr} {cs:List Value}
theorem Rd.nil: Rd w sz A 0 []:=⟨by simp,λh=>absurd h (by simp)⟩
theorem Rd.len(h:Rd w sz A n cs): cs.length=n*sz:=h.1
theorem Rd.ext(h:Rd w sz A n cs)(hx:Ext w w'): Rd w' sz A n cs :=
 ⟨h.1,λh0=>by
  obtain ⟨C,e,o,J⟩:=h.2 h0;exact ⟨C,e,Nat.lt_of_lt_of_le o hx.size,λj u G=>(hx.cell (p:=C.add j) (by rw [Uf];exact o)).trans (J j u G)⟩⟩
theorem Rd.cell(h:Rd w sz A n cs){k:Nat}{u:Value}(hk:cs[k]?=some u): w.cell? (adr A k)=some u:=by
 obtain ⟨C,rfl,_,o⟩:=h.2 (by have:=(List.getElem?_eq_some_iff.1 hk).1;omega);exact o k u hk
theorem Rd.isome(h:Rd w sz A n cs)(h0:0<n)(hs:0<sz): ∃ ad,A=some ad/\ad.block<w.heap.size:=by
 obtain ⟨ad,e,o,_⟩:=h.2 (by rw [h.1];exact Nat.mul_pos h0 hs);exact ⟨ad,e,o⟩
theorem Rd.cut(h:Rd w sz A n cs)(k m q:Nat)(hk:k<=m)(hm:m<=n)(hq:n<=q∨k<q∨k=m):
  Rd w sz (if q=k then A else A.map (·.add (k*sz))) (m-k) ((cs.drop (k*sz)).take ((m-k)*sz)):=by
 refine ⟨?_,λh0=>?_⟩
 .rw [List.length_take,List.length_drop,h.1,<-Nat.sub_mul];apply Nat.min_eq_left
  exact nO _ om
 .rw [List.length_take,List.length_drop,h.1]at h0;have C:k<m:=by
   rcases Nat.lt_or_ge k m with h'|h'
   .exact h'
   .have:m-k=0:=om
    simp [this]at h0
  obtain ⟨O,rfl,J,G⟩:=h.2 (by rw [h.1];omega);rw [if_neg om];refine ⟨O.add (k*sz),rfl,by rw [Uf];exact J,λj u o=>?_⟩;rw [add_add];rw [List.getElem?_take]at o;split at o
  .exact G _ u (by rw [<-o,List.getElem?_drop])
  .cases o
theorem Rd.own{base:Nat}{e:TypeId}{c:Nat}(h:w.ownsRow base e sz (.slice A n c) n cs): Rd w sz A n cs:=by
 refine ⟨h.1,λh0=>?_⟩;have hn:0<n:=by
  rcases Nat.eq_zero_or_pos n with h'|h'
  .rw [h.1,h']at h0;simp at h0
  .exact h'
 obtain ⟨g,G,u,_,o⟩:=h.form hn;have C:A=some ⟨g,0,none⟩:=by injection u
 subst C;exact ⟨_,rfl,o,h.cells (g:=g) rfl⟩
end
def RdV(w:World)(sz:Nat)(v:Value)(cs:List Value): Prop:=∃ A n c,v=.slice A n c/\n<=c/\Rd w sz A n cs
theorem Jv{w:World}{base:Nat}{e:TypeId}{sz n:Nat}{v:Value}{cs:List Value}(h:w.ownsRow base e sz v n cs): ∃ A c,v=.slice A n c/\n<=c/\(∀ g,v.ownBlock=some g->base<=g/\g<w.heap.size):=by
 rcases h.2 with ⟨rfl,rfl⟩|⟨g,cap,cur,rfl,hb,hh,hle,_⟩
 .exact ⟨none,0,rfl,Nat.le_refl _,λg o=>by simp [Value.ownBlock]at o⟩
 .refine ⟨_,cap,rfl,hle,λu o=>?_⟩;have:g=u:=by simpa [Value.ownBlock] using o
  subst this;refine ⟨hb,?_⟩;rcases Nat.lt_or_ge g w.heap.size with h'|h'
  .exact h'
  .rw [Array.getElem?_eq_none h']at hh;cases hh
theorem RdV.own{w:World}{base:Nat}{e:TypeId}{sz n:Nat}{v:Value}{cs:List Value}(h:w.ownsRow base e sz v n cs): RdV w sz v cs:=by
 obtain ⟨A,c,rfl,o,_⟩:=Jv h;exact ⟨A,n,c,rfl,o,Rd.own h⟩
theorem Xs(w:World)(base:Nat)(e:TypeId)(sz:Nat): w.ownsRow base e sz (.slice none 0 0) 0 []:=⟨by simp,.inl ⟨rfl,rfl⟩⟩
def Blk(w:World)(g:Nat)(t:TypeId)(cs:List Value): Prop:=w.heap[g]?=some (.cells cs.toArray t (0,0))
section
variable {w w':World} {g:Nat} {t:TypeId} {cs:List Value}
theorem Blk.lt(h:Blk w g t cs): g<w.heap.size:=by
 rcases Nat.lt_or_ge g w.heap.size with hlt|hge
 .exact hlt
 .unfold Blk at h;rw [Array.getElem?_eq_none hge]at h;cases h
theorem Blk.cell(h:Blk w g t cs)(i:Nat): w.cell? ⟨g,i,none⟩=cs[i]?:=by
 unfold Blk at h;simp [World.cell?,h]
theorem Blk.at(h:Blk w g t cs){i:Nat}{v:Value}(hv:cs[i]?=some v): w.cell? ((⟨g,0,none⟩:Addr).add i)=some v:=by
 rw [Vg,Nat.zero_add,h.cell,hv]
theorem Blk.frozen(h:Blk w g t cs)(i:Nat): w.frozen? ⟨g,i,none⟩=false:=by
 unfold Blk at h;simp [World.frozen?,h]
theorem Blk.ext(h:Blk w g t cs)(hx:Ext w w'): Blk w' g t cs:=(hx.block g h.lt).trans h
theorem Blk.set(h:Blk w g t cs)(i:Nat)(u:Value): Blk (w.setCell ⟨g,i,none⟩ u) g t (cs.set i u):=by
 unfold Blk at h ⊢;simp [World.setCell,Array.getElem?_modify,h]
theorem Blk.far(h:Blk w g t cs){p:Addr}(hp:g≠p.block)(u:Value): Blk (w.setCell p u) g t cs:=(Below.heap_setCell w p u g hp).trans h
theorem Blk.grown{row:Option Nat}(h:Blk w g t cs)(hb:w.grownBy w' row)(hg:some g≠row): Blk w' g t cs:=(hb.block g h.lt hg).trans h
theorem Blk.rd(h:Blk w g t cs){sz n:Nat}(hl:cs.length=n*sz): Rd w sz (some ⟨g,0,none⟩) n cs :=
 ⟨hl,λ_=>⟨_,rfl,h.lt,λj u o=>h.at o⟩⟩
theorem Blk.own(h:Blk w g t cs){base sz n:Nat}(hb:base<=g)(hl:cs.length=n*sz)(hm:n<=maxLen): w.ownsRow base t sz (.slice (some ⟨g,0,none⟩) n n) n cs :=
 ⟨hl,.inr ⟨g,n,cs.toArray,rfl,hb,h,Nat.le_refl _,hm,by simpa using hl,by rw [<-hl];simp⟩⟩
end
theorem Qv{a w w':World}{row:Option Nat}(h:Ext a w)(hg:w.grownBy w' row)(hr:∀ k,row=some k->a.heap.size<=k): Ext a w':=Below.grown h hg h.size hr
theorem Rd.grown{w w':World}{sz n:Nat}{A:Option Addr}{cs:List Value}{row:Option Nat}(h:Rd w sz A n cs)(hg:w.grownBy w' row)(hr:∀ ad,A=some ad->row≠some ad.block): Rd w' sz A n cs :=
 ⟨h.1,λh0=>by
  obtain ⟨ad,e,o,G⟩:=h.2 h0;refine ⟨ad,e,Nat.lt_of_lt_of_le o hg.size,λj u C=>?_⟩;rw [<-G j u C];exact World.cell?_of_block (by rw [Uf];exact hg.block _ o (λJ=>hr ad e J.symm))⟩
def Qzc(P:Program)(f:FuncId): Prop:=∃ fn c,P.funcs[f]?=some fn/\fn.body=some c/\(fn.name == "runtime.NumGoroutine")=false
structure Ret(P:Program)(f:FuncId)(vs:List Value)(w:World)(Φ:Value->World->Prop): Prop where
 ok:Qzc P f
 calls:Calls P f vs.toArray w λe w'=>∃ v,e=.returned v/\Φ v w'
section
variable {P:Program} {n:Nat} {al:AL} {w:World}
theorem Ret.mono{f:FuncId}{vs:List Value}{Φ Φ':Value->World->Prop}(h:Ret P f vs w Φ)(hm:∀ v w',Φ v w'->Φ' v w'): Ret P f vs w Φ' :=
 ⟨h.ok,h.calls.mono λe w' ⟨v,u,o⟩=>⟨v,u,hm v w' o⟩⟩
def Vh(P:Program)(fn:Func)(Φ:Value->World->Prop): Exit->Act->World->Prop:=bodyPost P fn λe w'=>∃ v,e=.returned v/\Φ v w'
theorem Jz{f:FuncId}{fn:Func}{c:Code}{args:List Value}{Φ:Value->World->Prop}(hf:P.funcs[f]?=some fn)(hn:fn.ntmps=n)(hb:fn.body=some c)(hname:(fn.name == "runtime.NumGoroutine")=false)(hle:Nat.ble args.length n=true)(h:WC P n c (Vh P fn Φ) (al0 0 args) w): Ret P f args w Φ :=
 ⟨⟨fn,c,hf,hb,hname⟩,enter hf hb hn hle h⟩
theorem done1{fn:Func}{Φ:Value->World->Prop}{t:Nat}{v:Value}(hr:fn.results = #[.tmp t])(ht:lk al t=some v)(h:Φ v w): QX n (Vh P fn Φ) .ret al w:=Qbb hr ht ⟨v,rfl,h⟩
theorem done2{fn:Func}{Φ:Value->World->Prop}{t u:Nat}{x y:Value}(hr:fn.results = #[.tmp t,.tmp u])(ht:lk al t=some x)(hu:lk al u=some y)(h:Φ (.tuple #[x,y]) w): QX n (Vh P fn Φ) .ret al w:=Qyz hr ht hu ⟨_,rfl,h⟩
theorem done3{fn:Func}{Φ:Value->World->Prop}{t u s:Nat}{x y z:Value}(hr:fn.results = #[.tmp t,.tmp u,.tmp s])(ht:lk al t=some x)(hu:lk al u=some y)(hs:lk al s=some z)(h:Φ (.tuple #[x,y,z]) w): QX n (Vh P fn Φ) .ret al w:=Qyx hr ht hu hs ⟨_,rfl,h⟩
def Jyd(P:Program)(al:AL)(w:World): List ResultVar->List Value->Prop
 | [],[]=>True
 | .tmp t::r,v::vs=>lk al t=some v/\Jyd P al w r vs
 | .cell t ty::r,v::vs=>(∃ p,lk al t=some (.pointer (some p))/\(loadVar ty p).run P w=.ok v w)/\Jyd P al w r vs
 | _,_=>False
def Jwh(a:Act): ResultVar->Sem Value
 | .tmp t=>pure (a.tmps.getD t undef)
 | .cell b t=>do loadVar t (<-asAddr (a.tmps.getD b undef))
theorem Jbs{a:Act}(ha:Fr n al a): ∀ {rs:List ResultVar} {vs:List Value},Jyd P al w rs vs->(rs.mapM (Jwh a)).run P w=Result.ok vs w
 | [],[],_=>rfl
 | [],_::_,h=>h.elim
 | .tmp t::r,[],h=>h.elim
 | .cell _ _::_,[],h=>h.elim
 | .tmp t::r,v::vs,h=>by
  obtain ⟨h1,h2⟩:=h;have:=Jbs ha h2;rw [List.mapM_cons,Sem.run_bind];simp only [Jwh,Sem.run_pure,Result.andThen_ok,Sem.run_bind,this,ha.has t v h1]
 | .cell b t::r,v::vs,h=>by
  obtain ⟨⟨p,h1,h1'⟩,h2⟩:=h;have:=Jbs ha h2;rw [List.mapM_cons,Sem.run_bind];simp only [Jwh,Sem.run_bind,ha.has b _ h1,asAddr,Sem.run_pure,Result.andThen_ok,h1',this]
theorem Jqz{fn:Func}{Φ:Value->World->Prop}{rs:List ResultVar}{vs:List Value}(hr:fn.results=rs.toArray)(hv:Jyd P al w rs vs){v:Value}(hv':(if h:vs.toArray.size=1 then vs.toArray[0] else .tuple vs.toArray)=v)(h:Φ v w): QX n (Vh P fn Φ) .ret al w:=λa o=>by
 refine bodyPost_ret (v:=v) ?_ o.defers ⟨v,rfl,h⟩;have:=Jbs o hv;subst hv';have e:results fn a.tmps=(do let vs <-fn.results.mapM (Jwh a);pure (if h:vs.size=1 then vs[0] else .tuple vs)):=by
  unfold results;congr 1
 rw [e,hr,List.mapM_toArray];simp only [Sem.run_bind,Sem.run_map,this,Result.andThen_ok,Sem.run_pure]
end
section
variable {P:Program} {n:Nat} {al:AL} {w:World} {Q:Exit->Act->World->Prop} {ops:Array Oper} {rest:List Oper}
variable {d ty:Nat} {op:Op} {pos:String} {aft:Array Edge} {tt:TT}
theorem Jwf{f:FuncId}(h:Qzc P f)(args:Array Value)(w:World): (callFunc f args).run P w=.ok (.enter f args) w:=by
 obtain ⟨fn,c,G,C,u⟩:=h;have o:¬ fn.name = "runtime.NumGoroutine":=by simpa using u
 simp [callFunc,G,C,o]
theorem Jvp{o:Oper}{a:Act}{f:FuncId}{vs:List Value}{Φ:Value->World->Prop}{K:Act->World->Prop}(h:(execOp a.eval o).run P w=.ok (.enter f vs.toArray) w)(hc:Ret P f vs w Φ)(k:∀ v w',Φ v w'->K (a.put o.dst v) w'): o.wp P a w K Q:=by
 unfold Oper.wp;rw [h,Oper.upon_enter];refine hc.calls.mono ?_;rintro e w' ⟨v,rfl,u⟩;exact k v w' u
theorem wcall{f:FuncId}{xs:Array Operand}{ats:Array TypeId}{vs:List Value}{Φ:Value->World->Prop}(hx:evs al xs.toList=some vs)(hd:Nat.blt d n=true)(hc:Ret P f vs w Φ)(k:∀ v w',Φ v w'->WL P n ops Q rest ((d,v)::al) w'): WL P n ops Q (⟨some d,.call { callee:=.value (.func f),args:=xs,argTypes:=ats },ty,pos,aft,none⟩::rest) al w:=λa u=>
 wpList_plain rfl λK G=>by
  have o:d<n:=by (have:d+1<=n:=by simpa [Nat.blt] using hd);(omega)
  have O:xs.map a.eval=vs.toArray:=by rw [<-u.evs hx,<-List.map_toArray,Array.toArray_toList]
  have J:(execOp a.eval ⟨some d,.call { callee:=.value (.func f),args:=xs,argTypes:=ats },ty,pos,aft,none⟩).run P w=.ok (.enter f vs.toArray) w:=by
   simp [execOp,resolve,O,Act.eval,Deferred.ofValue,invoke,Jwf hc.ok]
  exact Jvp J hc λv w' C=>G _ _ (k v w' C _ (u.put o v))
theorem Qkc{f:FuncId}{x:Operand}{first captured:Array Value}{xs:Array Operand}{ats:Array TypeId}{vs:List Value}{Φ:Value->World->Prop}(hf:ev al x=some (.func (.func f) first captured))(hx:evs al xs.toList=some vs)(hd:Nat.blt d n=true)(hc:Ret P f (first.toList++vs++captured.toList) w Φ)(k:∀ v w',Φ v w'->WL P n ops Q rest ((d,v)::al) w'): WL P n ops Q (⟨some d,.call { callee:=.value x,args:=xs,argTypes:=ats },ty,pos,aft,none⟩::rest) al w:=λa u=>
 wpList_plain rfl λK G=>by
  have o:d<n:=by (have:d+1<=n:=by simpa [Nat.blt] using hd);(omega)
  have O:xs.map a.eval=vs.toArray:=by rw [<-u.evs hx,<-List.map_toArray,Array.toArray_toList]
  have J:(execOp a.eval ⟨some d,.call { callee:=.value x,args:=xs,argTypes:=ats },ty,pos,aft,none⟩).run P w=.ok (.enter f (first.toList++vs++captured.toList).toArray) w:=by
   have e:(first.toList++vs++captured.toList).toArray=first++vs.toArray++captured:=by apply Array.ext';simp
   rw [e];simp [execOp,resolve,O,u.ev hf,Deferred.ofValue,invoke,Jwf hc.ok]
  exact Jvp J hc λv w' C=>G _ _ (k v w' C _ (u.put o v))
theorem Kx(hT:TOk P tt){t e sz:Nat}{k:TK}(ht:tk tt t=some k)(hk:k.desc=.slice e)(hz:k.esz=sz): P.underlying t=some (.slice e)/\Zc P e=some sz:=by
 have:=hT.at ht;unfold Yb at this;rw [hk]at this;subst hz;exact ⟨this.1,this.2.1⟩
def Vy: TypeDesc->Bool
 | .bool | .int _ | .string | .pointer _ | .slice _ | .map _ _ | .func _ _ _ | .interface _=>true
 | _=>false
theorem Jkz(hT:TOk P tt){t:Nat}{k:TK}(ht:tk tt t=some k)(hk:Vy k.desc=true)(w:World): (isAgg t).run P w=.ok false w/\Zc P t=some k.size:=by
 have:=hT.at ht;unfold Yb at this;revert this
 cases hd:k.desc<;>intro h<;>rw [hd]at hk<;>simp [Vy]at hk<;>first
  | exact ⟨by simp [isAgg,run_underlying h.1],h.2⟩
  | exact ⟨by simp [isAgg,run_underlying h.1],h.2.2⟩
theorem Jjp(hT:TOk P tt){t:Nat}{k:TK}(ht:tk tt t=some k)(hk:k.desc=.invalid)(w:World): (isAgg t).run P w=.ok true w/\Zc P t=some k.size:=by
 have:=hT.at ht;unfold Yb at this;rw [hk]at this;obtain ⟨fs,u,_,o⟩:=this;exact ⟨by simp [isAgg,run_underlying u],o⟩
theorem Jhm(hT:TOk P tt){x i:Operand}{t e sz:Nat}{k:TK}{A:Option Addr}{m c:Nat}{kd:IntKind}{z:Int}{cs:List Value}(q:Nat)(j:Nat)(ht:tk tt t=some k)(hk:k.desc=.slice e)(hz:k.esz=sz)(hx:ev al x=some (.slice A m c))(hi:ev al i=some (.int kd z))(hr:Rd w sz A m cs)(hj:z=(j:Int))(hlt:j<m)(h0:0<sz)(hq:j*sz=q)(hd:Nat.blt d n=true)(kk:WL P n ops Q rest ((d,.pointer (some (adr A q)))::al) w): WL P n ops Q (⟨some d,.indexAddr t x i,ty,pos,aft,none⟩::rest) al w:=by
 obtain ⟨u,C⟩:=Kx hT ht hk hz;obtain ⟨J,rfl,G⟩:=hr.isome om h0;subst hj;subst hq;refine wop hd (λa o=>?_) kk;simp [execOp,o.ev hx,o.ev hi,Instr.indexAt,asIntOf,run_underlying u,Ze w C,adr];intro h;omega
theorem wload(hT:TOk P tt){x:Operand}{t:Nat}{k:TK}{p:Addr}{v:Value}(ht:tk tt t=some k)(hk:Vy k.desc=true)(hx:ev al x=some (.pointer (some p)))(hc:w.cell? p=some v)(hd:Nat.blt d n=true)(kk:WL P n ops Q rest ((d,v)::al) w): WL P n ops Q (⟨some d,.load t x,ty,pos,aft,none⟩::rest) al w :=
 wop hd (λa o=>by simp [execOp,o.ev hx,Instr.loadAt,Instr.sureAddr,loadVar,(Jkz hT ht hk w).1,hc]) kk
theorem Iz(hT:TOk P tt){t:Nat}{k:TK}{p:Addr}{cs:List Value}(ht:tk tt t=some k)(hk:k.desc=.invalid)(hl:k.size=cs.length)(hc:∀ j u,cs[j]?=some u->w.cell? (p.add j)=some u): (loadVar t p).run P w=.ok (.agg cs.toArray) w:=by
 have o:=run_loadCells_list (P:=P) w p cs hc;rw [<-hl]at o;simp [loadVar,(Jjp hT ht hk w).1,Ze w (Jjp hT ht hk w).2,o]
theorem Jmt(hT:TOk P tt){t:Nat}{k:TK}{p:Addr}{v:Value}(ht:tk tt t=some k)(hk:Vy k.desc=true)(hc:w.cell? p=some v): (loadVar t p).run P w=.ok v w:=by
 simp [loadVar,(Jkz hT ht hk w).1,hc]
theorem Qzp(hT:TOk P tt){x:Operand}{t:Nat}{k:TK}{p:Addr}{cs:List Value}(ht:tk tt t=some k)(hk:k.desc=.invalid)(hl:k.size=cs.length)(hx:ev al x=some (.pointer (some p)))(hc:∀ j u,cs[j]?=some u->w.cell? (p.add j)=some u)(hd:Nat.blt d n=true)(kk:WL P n ops Q rest ((d,.agg cs.toArray)::al) w): WL P n ops Q (⟨some d,.load t x,ty,pos,aft,none⟩::rest) al w :=
 wop hd (λa o=>by simp [execOp,o.ev hx,Instr.loadAt,Instr.sureAddr,Iz (w:=w) hT ht hk hl hc]) kk
theorem Jgq(hT:TOk P tt){x y:Operand}{t:Nat}{k:TK}{p:Addr}{u v:Value}(ht:tk tt t=some k)(hk:k.size=1)(hp:Vy k.desc=true)(hx:ev al x=some (.pointer (some p)))(hy:ev al y=some v)(hv:v.oneCell'=true)(hc:w.cell? p=some u)(hf:w.frozen? p=false)(kk:WL P n ops Q rest al (w.setCell p v)): WL P n ops Q (⟨none,.store t x y,ty,pos,aft,none⟩::rest) al w:=by
 refine Kp (λa G=>?_) kk;have C:=(Jkz hT ht hp w).2;rw [hk]at C;have o:v.cells = #[v]:=by cases v<;>simp_all [Value.oneCell',Value.cells]
 simp [execOp,G.ev hx,G.ev hy,Instr.storeAt,Instr.sureAddr,storeVar,o,Ze w C,storeCells,add_zero,run_store P w p v .plain hv,hc,hf]
theorem Jqf(w:World)(t:TypeId)(cs:List Value): Ext w (w.alloc (.cells cs.toArray t))/\Blk (w.alloc (.cells cs.toArray t)) w.heap.size t cs :=
 ⟨(Ext.refl w).alloc _,heap_alloc_new w _⟩
theorem wbox{x:Operand}{t:Nat}{v:Value}{cs:List Value}(hx:ev al x=some v)(hv:v.cells=cs.toArray)(hd:Nat.blt d n=true)(kk:∀ w1 b,Ext w w1->w.heap.size<=b->Blk w1 b t cs->WL P n ops Q rest ((d,.pointer (some ⟨b,0,none⟩))::al) w1): WL P n ops Q (⟨some d,.box t x,ty,pos,aft,none⟩::rest) al w :=
 wop hd (λa o=>by
   show _=Result.ok (Next.value (.pointer (some ⟨w.heap.size,0,none⟩))) (w.alloc (.cells cs.toArray t));simp [execOp,o.ev hx,Instr.box,newVar,newRow,hv]) (kk _ _ (Jqf w t cs).1 (Nat.le_refl _) (Jqf w t cs).2)
theorem Qkk{t:Nat}{z:Value}{cs:List Value}(hz:Qt P t=some z)(hv:z.cells=cs.toArray)(hd:Nat.blt d n=true)(kk:∀ w1 b,Ext w w1->w.heap.size<=b->Blk w1 b t cs->WL P n ops Q rest ((d,.pointer (some ⟨b,0,none⟩))::al) w1): WL P n ops Q (⟨some d,.alloc t,ty,pos,aft,none⟩::rest) al w:=by
 have o:(zeroValue t).run P w=.ok z w:=by
  unfold Qt at hz;obtain ⟨i,C,u⟩:=Option.bind_eq_some_iff.1 hz;simp [zeroValue,typeInfo,C,u]
 exact wop hd (λa G=>by
   show _=Result.ok (Next.value (.pointer (some ⟨w.heap.size,0,none⟩))) (w.alloc (.cells cs.toArray t));simp [execOp,Instr.alloc,o,newVar,newRow,hv]) (kk _ _ (Jqf w t cs).1 (Nat.le_refl _) (Jqf w t cs).2)
theorem Qkg{t:Nat}{parts:Array (Nat×Operand)}{vs:List Value}{v:Value}(hx:evs al (parts.toList.map (·.2))=some vs)(hb:(Instr.build t ((parts.toList.map (·.1)).zip vs).toArray).run P w=.ok v w)(hd:Nat.blt d n=true)(kk:WL P n ops Q rest ((d,v)::al) w): WL P n ops Q (⟨some d,.build t parts,ty,pos,aft,none⟩::rest) al w :=
 wop hd (λa o=>by
  have C:=o.evs hx;have u:(parts.map fun (i,x)=>(i,a.eval x))=((parts.toList.map (·.1)).zip vs).toArray:=by
   rw [<-C];apply Array.ext'
   simp only [Array.toList_map];induction parts.toList with
   | nil=>rfl
   | cons x r ih=>simpa using ih
  simp [execOp,u,hb]) kk
def Bnd(al:AL)(o:Option Operand)(dflt r:Nat): Prop:=match o with
 | none=>r=dflt
 | some x=>∃ k z,ev al x=some (.int k z)/\z=(r:Int)
theorem Gv{x:Value}{k:IntKind}{z:Int}{r y:Nat}{code:BoundsCode}(hx:x=.int k z)(hz:z=(r:Int))(h:r<=y)(w:World): (Instr.sliceBound x y code).run P w=.ok r w:=by
 subst hx;subst hz;have:(r:Int)<=(y:Int):=om
 simp [Instr.sliceBound,asIntOf];intro h;omega
theorem Jmn{w:World}{a:Act}(ha:Fr n al a){x:Operand}{lo hi mx:Option Operand}{t e sz:Nat}{A:Option Addr}{m c l h q:Nat}{dst:Option Nat}(hu:P.underlying t=some (.slice e))(hs:Zc P e=some sz)(hx:ev al x=some (.slice A m c))(hl:Bnd al lo 0 l)(hh:Bnd al hi m h)(hq:Bnd al mx c q)(hm:mx=none∨hi≠none)(h1:l<=h)(h2:h<=q)(h3:q<=c):
  (execOp a.eval ⟨dst,.slice t x lo hi mx,ty,pos,aft,none⟩).run P w=.ok (.value (.slice (if q=l then A else A.map (·.add (l*sz))) (h-l) (q-l))) w:=by
 have hb:(Instr.sliceBounds true m c (lo.map a.eval) (hi.map a.eval) (mx.map a.eval)).run P w=.ok (l,h,q) w:=by
  unfold Instr.sliceBounds;cases mx with
  | none=>
   have:q=c:=hq;subst this;cases hi with
   | none=>
    have:h=m:=hh;subst this;cases lo with
    | none=>have:l=0:=hl;subst this;simp
    | some y=>obtain ⟨U,z,O,u⟩:=hl;simp [Gv (P:=P) (ha.ev O) u h1]
   | some y'=>
    obtain ⟨k2,Z,C,o⟩:=hh;cases lo with
    | none=>have:l=0:=hl;subst this;simp [Gv (P:=P) (ha.ev C) o h2]
    | some y=>obtain ⟨U,z,O,u⟩:=hl;simp [Gv (P:=P) (ha.ev C) o h2,Gv (P:=P) (ha.ev O) u h1]
  | some y3=>
   obtain ⟨k3,z3,J,G⟩:=hq;cases hi with
   | none=>simp at hm
   | some y'=>
    obtain ⟨k2,Z,C,o⟩:=hh;cases lo with
    | none=>have:l=0:=hl;subst this;simp [Gv (P:=P) (ha.ev J) G h3,Gv (P:=P) (ha.ev C) o h2]
    | some y=>obtain ⟨U,z,O,u⟩:=hl;simp [Gv (P:=P) (ha.ev J) G h3,Gv (P:=P) (ha.ev C) o h2,Gv (P:=P) (ha.ev O) u h1]
 simp [execOp,ha.ev hx,Instr.sliceAt,run_underlying hu,Instr.slice,hb,Ze w hs]
theorem Jkn(hT:TOk P tt){x:Operand}{lo hi mx:Option Operand}{t e sz:Nat}{k:TK}{A:Option Addr}{m c:Nat}(l h q:Nat)(A':Option Addr)(m' c':Nat)(ht:tk tt t=some k)(hk:k.desc=.slice e)(hz:k.esz=sz)(hx:ev al x=some (.slice A m c))(hl:Bnd al lo 0 l)(hh:Bnd al hi m h)(hq:Bnd al mx c q)(hm:mx=none∨hi≠none)(h1:l<=h)(h2:h<=q)(h3:q<=c)(e1:(if q=l then A else A.map (·.add (l*sz)))=A')(e2:h-l=m')(e3:q-l=c')(hd:Nat.blt d n=true)(kk:WL P n ops Q rest ((d,.slice A' m' c')::al) w): WL P n ops Q (⟨some d,.slice t x lo hi mx,ty,pos,aft,none⟩::rest) al w:=by
 subst e1;subst e2;subst e3;obtain ⟨o,u⟩:=Kx hT ht hk hz;exact wop hd (λa C=>Jmn C o u hx hl hh hq hm h1 h2 h3) kk
theorem Qkf{t:Nat}{len:Nat}{parts:Array (Nat×Operand)}{vs:List Value}{e:Nat}{cs:List Value}(hx:evs al (parts.toList.map (·.2))=some vs)(hb:∀ w:World,(Instr.buildSlice t len ((parts.toList.map (·.1)).zip vs).toArray).run P w=.ok (.slice (some ⟨w.heap.size,0,none⟩) len len) (w.alloc (.cells cs.toArray e)))(hd:Nat.blt d n=true)(kk:∀ w1 b,Ext w w1->w.heap.size<=b->Blk w1 b e cs->WL P n ops Q rest ((d,.slice (some ⟨b,0,none⟩) len len)::al) w1): WL P n ops Q (⟨some d,.buildSlice t len parts,ty,pos,aft,none⟩::rest) al w :=
 wop hd (λa o=>by
  have C:=o.evs hx;have u:(parts.map fun (i,x)=>(i,a.eval x))=((parts.toList.map (·.1)).zip vs).toArray:=by
   rw [<-C];apply Array.ext'
   simp only [Array.toList_map];induction parts.toList with
   | nil=>rfl
   | cons x r ih=>simpa using ih
  simp [execOp,u,hb]) (kk _ _ (Jqf w e cs).1 (Nat.le_refl _) (Jqf w e cs).2)
structure ElT(P:Program)(t e sz bytes:Nat)(z:Value): Prop where
 sl:P.underlying t=some (.slice e)
 info:∃ i,P.info? e=some i/\i.zero=some z/\i.size=sz/\i.bytes=bytes
 cells:z.cells.size=sz
 pos:0<sz
def Apd(w:World)(base e sz:Nat)(v:Value)(m:Nat)(xs:List Value): Prop:=w.ownsRow base e sz v m xs∨∃ A,v=.slice A m m/\Rd w sz A m xs
theorem Jk{w w':World}{base e sz:Nat}{v:Value}{m:Nat}{xs:List Value}(h:w.ownsRow base e sz v m xs)(hx:Ext w w'): w'.ownsRow base e sz v m xs:=by
 refine h.kept (row:=none) ⟨hx.os,hx.tape,hx.output,hx.size,λk o _=>hx.block k o⟩ ?_;cases v.ownBlock<;>simp
theorem Apd.rdv{w:World}{base e sz:Nat}{v:Value}{m:Nat}{xs:List Value}(h:Apd w base e sz v m xs): RdV w sz v xs:=by
 rcases h with h|⟨A,hv,hr⟩
 .exact RdV.own h
 .exact ⟨A,m,m,hv,Nat.le_refl _,hr⟩
theorem Qvx{t e:TypeId}{i:TypeInfo}(ht:P.underlying t=some (.slice e))(hi:P.info? e=some i)(tyy:TypeId)(A:Option Addr)(m c:Nat)(hmc:m<=c)(w:World)(c':Nat):
  (Builtin.append_ #[t,t] tyy #[.slice A m c,.slice none 0 c']).run P w=.ok (.slice A m c) w:=by
 cases A<;>simp [Builtin.append_,run_underlying ht,sizeOf,typeInfo,hi,Builtin.lenOf,Builtin.firstCells,hmc,storeCells]
theorem Qvw{t e:TypeId}{i:TypeInfo}(ht:P.underlying t=some (.slice e))(hi:P.info? e=some i)(tyy:TypeId)(A:Option Addr)(m c:Nat)(hmc:m<=c)(w:World)(A':Option Addr)(c':Nat):
  (Builtin.append_ #[t,t] tyy #[.slice A m c,.slice A' 0 c']).run P w=.ok (.slice A m c) w:=by
 cases A' with
 | none=>exact Qvx ht hi tyy A m c hmc w c'
 | some b=>cases A<;>simp [Builtin.append_,run_underlying ht,sizeOf,typeInfo,hi,Builtin.lenOf,Builtin.firstCells,hmc,storeCells,loadCells,loadCellsFrom]
theorem Jmw{t e sz bytes:Nat}{z:Value}(hE:ElT P t e sz bytes z)(base:Nat)(tyy:TypeId){v:Value}{m:Nat}{xs:List Value}(ha:Apd w base e sz v m xs){A':Option Addr}{m' c':Nat}{news:List Value}(hr:Rd w sz A' m' news)(h1:∀ u∈news,u.oneCell'=true)(h63:m+m'<=maxLen)(hby:(m+m')*bytes<=140737488355328)(hbase:base<=w.heap.size):
  ∃ v' w',(Builtin.append_ #[t,t] tyy #[v,.slice A' m' c']).run P w=.ok v' w'/\Apd w' base e sz v' (m+m') (xs++news)/\(0<m'->w'.ownsRow base e sz v' (m+m') (xs++news)) /\
   (w.ownsRow base e sz v m xs->w'.ownsRow base e sz v' (m+m') (xs++news))/\((w.ownsRow base e sz v m xs/\w.grownBy w' v.ownBlock)∨Ext w w')/\(∀ g,v'.ownBlock=some g->v.ownBlock=some g∨w.heap.size<=g):=by
 obtain ⟨i,hi,hz,Z,a2⟩:=hE.info;rcases Nat.eq_zero_or_pos m' with h0|h0
 .subst h0;have hn:news=[]:=List.eq_nil_of_length_eq_zero (by rw [hr.1];simp);subst hn;obtain ⟨A,n0,c,rfl,a3,o⟩:=ha.rdv;have a1:n0=m:=by
   rcases ha with h|⟨A2,hv,_⟩
   .obtain ⟨A3,c3,hv,_⟩:=Jv h;injection hv
   .injection hv
  subst a1;refine ⟨_,w,Qvw hE.sl hi tyy A n0 c a3 w A' c',by simpa using ha,λh=>absurd h om,λh=>by simpa using h,.inr (Ext.refl w),λg G=>.inl G⟩
 .obtain ⟨ad,rfl,hb,hc⟩:=hr.2 (by rw [hr.1];exact Nat.mul_pos h0 hE.pos);have a6:w.ownsRow base e sz v m xs∨∃ b,v=.slice (some b) m m/\Rd w sz (some b) m xs:=by
   rcases ha with h|⟨A,rfl,o⟩
   .exact .inl h
   .cases A with
    | some b=>exact .inr ⟨b,rfl,o⟩
    | none=>
     have hx:xs=[]:=by
      rcases Nat.eq_zero_or_pos xs.length with h'|h'
      .exact List.eq_nil_of_length_eq_zero h'
      .obtain ⟨_,J,_⟩:=o.2 h';cases J
     have hm:m=0:=by
      have:=o.1;rw [hx]at this;have hp:=hE.pos;rcases Nat.mul_eq_zero.1 this.symm with h'|h'
      .exact h'
      .omega
     subst hx;subst hm;exact .inl (Xs w base e sz)
  rcases a6 with h|⟨b,rfl,o⟩
  .obtain ⟨v',w',C,J,O,_,h5⟩:=run_append_own_at (P:=P) w base t tyy e i z sz bytes hE.sl hi hz Z a2 hE.cells hE.pos v m xs h ad m' c' news hr.1 hc h1 h63 hby hbase;refine ⟨v',w',C,.inl J,λ_=>J,λ_=>J,.inl ⟨h,O⟩,λg G=>?_⟩;rcases h5 with h5|h5
   .exact .inl (h5 ▸ G)
   .rw [h5]at G;injection G with G;exact .inr om
  .have a5:∀ j u,xs[j]?=some u->w.cell? (b.add j)=some u:=λj u hu=>by
    obtain ⟨b',e',_,a4⟩:=o.2 (by have:=(List.getElem?_eq_some_iff.1 hu).1;omega);injection e' with e'
    subst e';exact a4 j u hu
   obtain ⟨v',w',C,J,O⟩:=run_append_arg_grows (P:=P) w t tyy e i z sz bytes hE.sl hi hz Z a2 hE.cells hE.pos b m m xs o.1 a5 ad m' c' news hr.1 hc om h63 hby;have U:w'.ownsRow base e sz v' (m+m') (xs++news):=World.ownsRow.mono J hbase;refine ⟨v',w',C,.inl U,λ_=>U,λ_=>U,.inr ⟨O.os,O.tape,O.output,O.size,λk hk=>O.block k hk (by simp)⟩,λg G=>.inr (World.ownsRow.lt J g G).1⟩
theorem Zk{w w':World}(h:Ext w w')(row:Option Nat): w.grownBy w' row:=⟨h.os,h.tape,h.output,h.size,λk o _=>h.block k o⟩
theorem Zx{a b c:World}{r:Option Nat}(h:a.grownBy b r)(k:b.grownBy c r): a.grownBy c r :=
 ⟨k.os.trans h.os,k.tape.trans h.tape,k.output.trans h.output,Nat.le_trans h.size k.size,λi hi hn=>(k.block i (nM hi h.size) hn).trans (h.block i hi hn)⟩
theorem Qpv{a w w':World}{e sz m:Nat}{v:Value}{xs:List Value}(h:Ext a w)(hg:(w.ownsRow a.heap.size e sz v m xs/\w.grownBy w' v.ownBlock)∨Ext w w'): Ext a w':=by
 rcases hg with ⟨o,hg⟩|hg
 .exact Qv h hg λk u=>(World.ownsRow.lt o k u).1
 .exact h.trans hg
theorem Qkj{a : World}(hxa : Ext a w){t e sz bytes : Nat}{z : Value}(hE : ElT P t e sz bytes z){x y : Operand}{v : Value}{m : Nat}{xs : List Value}{A' : Option Addr}{m' c' : Nat}{news : List Value}(hx : ev al x = some v)(hy : ev al y = some (.slice A' m' c'))(ha : Apd w a.heap.size e sz v m xs)(hr : Rd w sz A' m' news)(h1 : ∀ u ∈ news, u.oneCell' = true)(h63 : m + m' ≤ maxLen)(hby : (m + m') * bytes ≤ 140737488355328)(hd : Nat.blt d n = true)(kk : ∀ v' w', Apd w' a.heap.size e sz v' (m + m') (xs ++ news) → (0 < m' → w'.ownsRow a.heap.size e sz v' (m + m') (xs ++ news)) → (w.ownsRow a.heap.size e sz v m xs → w'.ownsRow a.heap.size e sz v' (m + m') (xs ++ news)) →
      Ext a w' → w.grownBy w' v.ownBlock → (∀ g, v'.ownBlock = some g → v.ownBlock = some g ∨ w.heap.size ≤ g) → WL P n ops Q rest ((d, v') :: al) w'):
    WL P n ops Q (⟨some d, .call { callee := .builtin .append, args := #[x, y], argTypes := #[t, t] }, ty, pos, aft, none⟩ :: rest) al w := by
  obtain ⟨v', w', hrun, k1, k2, k3, k4, k5⟩ := Jmw hE a.heap.size ty ha (c' := c') hr h1 h63 hby hxa.size
  refine wop hd (fun a ha' => ?_) (kk v' w' k1 k2 k3 (Qpv hxa k4) (k4.elim (·.2) (fun h => Zk h _)) k5)
  simp [execOp, resolve, invoke, builtin, ha'.ev hx, ha'.ev hy, hrun]
theorem Blk.one{w:World}{g:Nat}{t:TypeId}{v:Value}(h:Blk w g t [v]): Rd w 1 (some ⟨g,0,none⟩) 1 [v]:=h.rd (by simp)
theorem Qzs(hT:TOk P tt){x i:Operand}{t e:Nat}{k:TK}{A:Option Addr}{m c:Nat}{kd:IntKind}{z:Int}{cs:List Value}(j:Nat)(ht:tk tt t=some k)(hk:k.desc=.slice e)(hz:k.esz=1)(hx:ev al x=some (.slice A m c))(hi:ev al i=some (.int kd z))(hr:Rd w 1 A m cs)(hj:z=(j:Int))(hlt:j<m)(hd:Nat.blt d n=true)(kk:WL P n ops Q rest ((d,.pointer (some (adr A j)))::al) w): WL P n ops Q (⟨some d,.indexAddr t x i,ty,pos,aft,none⟩::rest) al w :=
 Jhm hT j j ht hk hz hx hi hr hj hlt om om hd kk
theorem Zd{w:World}{base e sz m c q:Nat}{A:Option Addr}{xs:List Value}(h:w.ownsRow base e sz (.slice A m c) m xs)(hq:q<m*sz)(u:Value):
  w.cell? (adr A q)=xs[q]?/\w.frozen? (adr A q)=false/\(w.setCell (adr A q) u).ownsRow base e sz (.slice A m c) m (xs.set q u)/\base<=(adr A q).block/\w.grownBy (w.setCell (adr A q) u) (Value.slice A m c).ownBlock:=by
 have C:0<m:=by
  rcases Nat.eq_zero_or_pos m with h'|h'
  .rw [h']at hq;simp at hq
  .exact h'
 obtain ⟨g,U,o,J,G⟩:=World.ownsRow.form h C;injection o with h1 _ h3
 subst h1;subst h3;have O:adr (some ⟨g,0,none⟩) q=⟨g,q,none⟩:=by simp [adr,Vg]
 rw [O];exact ⟨World.ownsRow.cellAt h q hq,World.ownsRow.frozenAt h q,(World.ownsRow.stored h q u).1,J,(World.ownsRow.stored h q u).2⟩
theorem Blk.ne_own{w:World}{g t:Nat}{cs:List Value}(h:Blk w g t cs){base e sz m:Nat}{v:Value}{xs:List Value}(ho:w.ownsRow base e sz v m xs)(hne:Nat.beq e t=false): some g≠v.ownBlock:=by
 have o:e≠t:=by intro C;subst C;simp at hne
 rcases ho.2 with ⟨rfl,_⟩|⟨g',cap,cur,rfl,_,hh,_⟩
 .simp [Value.ownBlock]
 .intro u;have:g=g':=by simpa [Value.ownBlock] using u
  subst this;unfold Blk at h;rw [h]at hh;injection hh with hh
  injection hh with _ ht
  exact o ht.symm
theorem cut0(A:Option Addr)(q sz:Nat): (if q=0 then A else A.map (·.add (0*sz)))=A:=by
 split
 .rfl
 .cases A<;>simp [Addr.add]
theorem Vw(hT:TOk P tt){t:Nat}{k:TK}{dd:TypeDesc}(ht:tk tt t=some k)(hk:k.desc=dd)(hp:Vy dd=true): P.underlying t=some dd:=by
 have:=hT.at ht;unfold Yb at this;rw [hk]at this;cases dd<;>simp [Vy]at hp<;>exact this.1
theorem Jgr(hT:TOk P tt){x i:Operand}{t:Nat}{k:TK}{s:ByteArray}{kd:IntKind}{z:Int}(j:Nat)(ht:tk tt t=some k)(hk:k.desc=.string)(hx:ev al x=some (.string s))(hi:ev al i=some (.int kd z))(hj:z=(j:Int))(hlt:j<s.size)(hd:Nat.blt d n=true)(kk:WL P n ops Q rest ((d,.int .u8 ((s.data.toList.getD j 0).toNat:Int))::al) w): WL P n ops Q (⟨some d,.index t x i,ty,pos,aft,none⟩::rest) al w:=by
 have u:=Vw hT ht hk rfl;subst hj;refine wop hd (λa o=>?_) kk;have J:s[j]?=some s[j]:=by simp [hlt]
 have G:s.data.toList.getD j 0=s[j]:=by
  have C:j<s.data.toList.length:=by simpa using hlt
  simp [List.getD,List.getElem?_eq_getElem C];rfl
 rw [G];simp [execOp,o.ev hx,o.ev hi,Instr.index,asIntOf,run_underlying u,J]
def Bc(l:List UInt8): List Value:=l.map λc=>.int .u8 (c.toNat:Int)
theorem Jgj(l:List UInt8): (Bc l).length=l.length:=by simp [Bc]
theorem Qzd{l:List UInt8}{k:Nat}(h:k<l.length): (Bc l)[k]?=some (.int .u8 ((l.getD k 0).toNat:Int)):=by
 simp [Bc,List.getElem?_eq_getElem h]
theorem Bc_one(l:List UInt8): ∀ u∈Bc l,u.oneCell'=true:=by
 intro u o;obtain ⟨c,_,rfl⟩:=List.mem_map.1 o;rfl
theorem Bc_app(l r:List UInt8): Bc (l++r)=Bc l++Bc r:=by simp [Bc]
def str(l:List UInt8): ByteArray:=⟨l.toArray⟩
theorem Qvt{src dst e:TypeId}(hs:P.underlying src=some (.slice e))(he:P.underlying e=some (.int .u8))(hdst:P.underlying dst=some .string){A:Option Addr}{m c:Nat}{l:List UInt8}(hr:Rd w 1 A m (Bc l)):
  (convert src dst (.slice A m c)).run P w=.ok (.string (str l)) w:=by
 have O:l.length=m:=by have:=hr.1;rw [Jgj]at this;omega
 cases A with
 | none=>
  have J:l=[]:=by
   rcases Nat.eq_zero_or_pos l.length with h|h
   .exact List.eq_nil_of_length_eq_zero h
   .obtain ⟨_,C,_⟩:=hr.2 (by rw [Jgj];exact h);cases C
  subst J;exact run_convert_bytes_nil w src e hs he m c dst hdst
 | some ad=>
  rcases Nat.eq_zero_or_pos l.length with h|h
  .have J:l=[]:=List.eq_nil_of_length_eq_zero h;subst J;have G:m=0:=by simpa using O.symm
   subst G;rw [run_convert_bytes_string w src dst e _ 0 c hs he hdst];simp [Conv.bytesToString,loadCells,loadCellsFrom,str];rfl
  .obtain ⟨Z,C,hb,U⟩:=hr.2 (by rw [Jgj];exact h);injection C with C
   subst C;have u:ad.spot=none:=by
    have h0:=U 0 _ (Qzd h);rw [add_zero]at h0;unfold World.cell? at h0;split at h0
    .split at h0
     .cases h0
     .rename_i h3;simpa using h3
    .cases h0
   obtain ⟨b,o,sp⟩:=ad;simp only at u;subst u;have:=run_convert_bytes_arg (P:=P) w src e hs he b o m c (l.map λc=>(c.toNat:Int)) (by simpa using O) (λi hi=>by
    have h0:=U i _ (Qzd om);rw [Vg]at h0;rw [h0];have:i<l.length:=om
    simp [List.getD,List.getElem?_eq_getElem this]) dst hdst
   rw [this];congr 2
   simp only [strOfNums,str,List.map_map];congr 2
   conv=>rhs;rw [<-List.map_id l]
   apply List.map_congr_left
   intro c _;simp
theorem Qkd(hT:TOk P tt){x:Operand}{src dst e:Nat}{k k2 k3:TK}{A:Option Addr}{m c:Nat}{l:List UInt8}(hs:tk tt src=some k)(hk:k.desc=.slice e)(he:tk tt e=some k3)(hk3:k3.desc=.int .u8)(hdst:tk tt dst=some k2)(hk2:k2.desc=.string)(hx:ev al x=some (.slice A m c))(hr:Rd w 1 A m (Bc l))(hd:Nat.blt d n=true)(kk:WL P n ops Q rest ((d,.string (str l))::al) w): WL P n ops Q (⟨some d,.convert src dst x,ty,pos,aft,none⟩::rest) al w :=
 wop hd (λa o=>by simp [execOp,o.ev hx,Qvt (Kx hT hs hk rfl).1 (Vw hT he hk3 rfl) (Vw hT hdst hk2 rfl) hr]) kk
end
end Go.Wk
