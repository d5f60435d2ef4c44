/- Part 27 of the proof: RegT, Hg, El, ElP. -/
import Derived.Test.YtefpailelagbkaaGreatDoorJ26
set_option linter.unusedVariables false
set_option maxRecDepth 100000
set_option maxHeartbeats 40000000
namespace Go.Wk
open Go.RowKit
section
variable {P:Program} {n:Nat} {al al':AL} {w:World} {Q:Exit->Act->World->Prop} {ops:Array Oper} {T:Nat->Bool}
def Qtx(P:Program)(ops:Array Oper)(Q:Exit->Act->World->Prop)(T:Nat->Bool)(i:Nat)(w0:World)(fuel:Nat)(listed:Array Bool): Exit->Act->World->Prop
 | .normal,a,w=>(T i=false->Ext w0 w)/\(Closed ops listed->Jwm P ops Q T fuel listed a w)
 | _,_,_=>False
theorem Jdv{i:Nat}{w0:World}{fuel:Nat}{listed:Array Bool}(hx:T i=false->Ext w0 w)(h:WH P n ops Q T fuel listed al w): QX n (Qtx P ops Q T i w0 fuel listed) .normal al w:=λa ha=>⟨hx,λhc=>h hc a ha⟩
theorem Jfh{i:Nat}{o:Oper}{fuel:Nat}{listed:Array Bool}(ho:ops[i]?=some o)(hc:Closed ops listed)(h:WL P n ops (Qtx P ops Q T i w fuel listed) [o] al w): ∀ a,Fr n al a->wpOp P ops (QF Q) i (λa' w'=>(T i=false->Ext w w')/\Jwm P ops Q T fuel listed a' w') a w:=λa ha=>by
 have h1:=h a ha;unfold wpList at h1;unfold wpOp;simp only [ho];have hno:¬ LetsOut (Qtx P ops Q T i w fuel listed):=by rintro ⟨a,w,h⟩;exact h
 split
 ·rename_i hw;simp only [hw,if_true]at h1;rcases h1 with h1|⟨_,h1⟩
  ·left
   refine Oper.wp_mono (K:=wpList P ops (Qtx P ops Q T i w fuel listed) []) (λa' w' h'=>⟨h'.1,h'.2 hc⟩) ?_;unfold Oper.wp at h1 ⊢;exact Jxf (Q:=Qtx P ops Q T i w fuel listed) (λc a w hf=>hf.elim) (λhf=>absurd hf hno) h1
  ·exact absurd h1 hno
 ·rename_i hw;simp only [hw]at h1;exact ⟨h1.1,h1.2 hc⟩
theorem itwo{l:List Oper}{fuel fuel':Nat}{listed:Array Bool}(i j:Nat){oi oj:Oper}(hr:Region.ready .any l.toArray listed=[i,j])(hf:fuel=fuel'+1)(hi:nth l i=some oi)(hj:nth l j=some oj)(h1:WL P n l.toArray (Qtx P l.toArray Q T i w fuel' (listed.setIfInBounds i true)) [oi] al w)(h2:WL P n l.toArray (Qtx P l.toArray Q T j w fuel' (listed.setIfInBounds j true)) [oj] al w): WH P n l.toArray Q T fuel listed al w:=λhc a ha=>by
 subst hf;have e1:l.toArray[i]?=some oi:=by rw [<-hi,Jxm];simp
 have e2:l.toArray[j]?=some oj:=by rw [<-hj,Jxm];simp
 refine ⟨λh0=>(by rw [hr]at h0;cases h0),λk hk=>?_⟩;have hk':=hk;rw [hr]at hk;simp only [List.mem_cons,List.not_mem_nil,or_false]at hk;rcases hk with rfl|rfl
 ·exact Jfh e1 (hc.step hk') h1 a ha
 ·exact Jfh e2 (hc.step hk') h2 a ha
theorem Xbl{l:List Oper}{fuel fuel':Nat}{listed:Array Bool}(i:Nat){oi:Oper}(hr:Region.ready .any l.toArray listed=[i])(hf:fuel=fuel'+1)(hi:nth l i=some oi)(h1:WL P n l.toArray (Qtx P l.toArray Q T i w fuel' (listed.setIfInBounds i true)) [oi] al w): WH P n l.toArray Q T fuel listed al w:=λhc a ha=>by
 subst hf;have e1:l.toArray[i]?=some oi:=by rw [<-hi,Jxm];simp
 refine ⟨λh0=>(by rw [hr]at h0;cases h0),λk hk=>?_⟩;have hk':=hk;rw [hr]at hk;simp only [List.mem_cons,List.not_mem_nil,or_false]at hk;subst hk;exact Jfh e1 (hc.step hk') h1 a ha
theorem Qfr{l:List Oper}{fuel fuel':Nat}{listed:Array Bool}(i:Nat){oi:Oper}(hsel:Region.noSelect l.toArray=true)(hr:((Region.ready .any l.toArray listed).contains i && Region.free .any l.toArray listed i)=true)(hf:fuel=fuel'+1)(hi:nth l i=some oi)(h:WP P n l.toArray (Xqx P l.toArray Q T fuel' (listed.setIfInBounds i true)) [] [oi] al w): WH P n l.toArray Q T fuel listed al w:=λhc a ha=>by
 subst hf;simp only [Bool.and_eq_true]at hr;have hr':i∈Region.ready .any l.toArray listed:=by simpa using hr.1
 have e1:l.toArray[i]?=some oi:=by rw [<-hi,Jxm];simp
 unfold WP at h;obtain ⟨v,hy,h2⟩:=h a ha;exact Jwx (λ_ _=>True) (λ_=>trivial) (λ_ _=>trivial) e1 (Region.noSelect_spec hsel) (λ_ _ _ _ _ _ _ _=>trivial) _ listed a w hc (Region.free_spec e1 hr.2) hr' hy (h2 (hc.step hr'))
end
section
variable {N:Nat->Prop} {P:Program} {n:Nat} {al al':AL} {w:World} {Q:Exit->Act->World->Prop} {ops:Array Oper}
def Jhc(ops:Array Oper): List (Nat×Nat)->Array Bool->Option (Array Bool)
 | [],listed=>some listed
 | (0,i)::r,listed=>if (Region.ready .any ops listed).contains i && Region.free .any ops listed i then Jhc ops r (listed.setIfInBounds i true) else none
 | (1,i)::r,listed=>if Region.ready .any ops listed == [i] then Jhc ops r (listed.setIfInBounds i true) else none
 | _::_,_=>none
def Xwj(N:Nat->Prop)(P:Program)(ops:Array Oper)(Q:Exit->Act->World->Prop)(fuel:Nat)(listed:Array Bool): Exit->Act->World->Prop
 | .normal,a,w=>Closed ops listed->Jyj N P ops Q noT fuel listed a w
 | _,_,_=>False
theorem Xwf{fuel:Nat}{listed:Array Bool}{o:Oper}{a:Act}{w:World}{K:Act->World->Prop}(h:o.wp P a w K (QF (Xwj N P ops Q fuel listed))): o.wp P a w K (QF Q):=by
 unfold Oper.wp at h ⊢;have hno:¬ LetsOut (QF (Xwj N P ops Q fuel listed)):=by rintro ⟨a,w,h⟩;exact h
 exact Jxf (Q:=QF (Xwj N P ops Q fuel listed)) (λc a w hf=>hf.elim) (λhf=>absurd hf hno) h
theorem Jkz(hsel:Region.noSelect ops=true)(fuel:Nat)(listed':Array Bool): ∀ (s:List (Nat×Nat)) (listed:Array Bool) (a:Act) (w:World),Closed ops listed->Jhc ops s listed=some listed'->Jqs N P ops (Xwj N P ops Q fuel listed') (Jqv ops.toList s) a w->Jyj N P ops Q noT (s.length+fuel) listed a w
 | [],listed,a,w,hcl,hB,h=>by
  simp only [Jhc,Option.some.injEq]at hB;subst hB;simp only [List.length_nil,Nat.zero_add];exact h hcl
 | (0,i)::r,listed,a,w,hcl,hB,h=>by
  simp only [Jhc]at hB;split at hB
  ·rename_i hc;simp only [Bool.and_eq_true]at hc;have hr':i∈Region.ready .any ops listed:=by simpa using hc.1
   obtain ⟨_,oi,ho,_⟩:=mem_ready.1 hr';have hn:nth ops.toList i=some oi:=by rw [Jxm];simpa using ho
   simp only [Jqv,hn,Jqs,Qgd]at h;obtain ⟨v,hy,h⟩:=h;have e:((0,i)::r).length+fuel=(r.length+fuel)+1:=by simp;omega
   rw [e];exact Jgl (GrN N) (GrN.refl N) (λh k=>GrN.trans h k) ho (Region.noSelect_spec hsel) (λ_ _ _ _ _ _ _ hg=>hg rfl) _ listed a w hcl (Region.free_spec ho hc.2) hr' hy (Jkz hsel fuel listed' r _ _ _ (hcl.step hr') hB h)
  ·cases hB
 | (1,i)::r,listed,a,w,hcl,hB,h=>by
  simp only [Jhc]at hB;split at hB
  ·rename_i hc;have hc':Region.ready .any ops listed=[i]:=by simpa using hc
   have hr':i∈Region.ready .any ops listed:=by rw [hc'];exact List.mem_singleton.2 rfl
   obtain ⟨_,oi,ho,_⟩:=mem_ready.1 hr';have hn:nth ops.toList i=some oi:=by rw [Jxm];simpa using ho
   simp only [Jqv,hn,Jqs,Qgd]at h;have e:((1,i)::r).length+fuel=(r.length+fuel)+1:=by simp;omega
   rw [e];refine ⟨λh0=>(by rw [h0]at hr';cases hr'),λj hj=>?_⟩;rw [hc']at hj;obtain rfl:j=i:=by simpa using hj
   have hcl':=hcl.step hr';unfold wpOp;simp only [ho];split
   ·rename_i hw;simp only [hw,if_true]at h;exact .inl (Oper.wp_mono (λa' w' h'=>⟨λ_=>h'.1,Jkz hsel fuel listed' r _ _ _ hcl' hB h'.2⟩) (Xwf h))
   ·rename_i hw;simp only [hw]at h;exact ⟨λ_=>GrN.refl N w,Jkz hsel fuel listed' r _ _ _ hcl' hB h⟩
  ·cases hB
 | (k+2,i)::r,listed,a,w,_,hB,_=>by simp [Jhc]at hB
def WM(N:Nat->Prop)(P:Program)(n:Nat)(ops:Array Oper)(Q:Exit->Act->World->Prop)(fuel:Nat)(listed:Array Bool)(al:AL)(w:World): Prop:=Closed ops listed->∀ a,Fr n al a->Jyj N P ops Q noT fuel listed a w
theorem WM.sub{fuel:Nat}{listed:Array Bool}(hs:Sub al' al)(h:WM N P n ops Q fuel listed al' w): WM N P n ops Q fuel listed al w:=λhc a ha=>h hc a (ha.sub hs)
theorem drM{tt:TT}[ht:Tab P tt]{id:Nat}{l:List Oper}(N:Nat->Prop)(h:WM N P n l.toArray Q l.toArray.size (Array.replicate l.toArray.size false) al w.drew): WC P n (.region id l.toArray true) Q al w:=λa ha=>
 wp_region_any ht.mixed (Jfj (N:=N) (T:=noT) _ _ _ _ (h (Jnr _ _) a ha))
theorem Qlm{l:List Oper}{fuel fuel':Nat}{listed:Array Bool}(s:List (Nat×Nat))(listed':Array Bool)(hsel:Region.noSelect l.toArray=true)(hB:Jhc l.toArray s listed=some listed')(hf:fuel=s.length+fuel')(h:WN N P n l.toArray (Xwj N P l.toArray Q fuel' listed') (Jqv l s) al w): WM N P n l.toArray Q fuel listed al w:=λhc a ha=>by
 subst hf;have h1:=h a ha;refine Jkz hsel fuel' listed' s listed a w hc hB ?_;simpa using h1
theorem Jmk{fuel:Nat}{listed:Array Bool}(h:WM N P n ops Q fuel listed al w): QX n (Xwj N P ops Q fuel listed) .normal al w:=λa ha hc=>h hc a ha
theorem mend{listed:Array Bool}(hr:Region.ready .any ops listed=[])(h:QX n Q .normal al w): WM N P n ops Q 0 listed al w:=λ_ a ha=>⟨hr,h a ha⟩
def Qtw(N:Nat->Prop)(P:Program)(ops:Array Oper)(Q:Exit->Act->World->Prop)(w0:World)(fuel:Nat)(listed:Array Bool): Exit->Act->World->Prop
 | .normal,a,w=>GrN N w0 w/\(Closed ops listed->Jyj N P ops Q noT fuel listed a w)
 | _,_,_=>False
theorem Jxp{w0:World}{fuel:Nat}{listed:Array Bool}(hx:GrN N w0 w)(h:WM N P n ops Q fuel listed al w): QX n (Qtw N P ops Q w0 fuel listed) .normal al w:=λa ha=>⟨hx,λhc=>h hc a ha⟩
theorem Jfg{i:Nat}{o:Oper}{fuel:Nat}{listed:Array Bool}(ho:ops[i]?=some o)(hc:Closed ops listed)(h:WL P n ops (Qtw N P ops Q w fuel listed) [o] al w): ∀ a,Fr n al a->wpOp P ops (QF Q) i (λa' w'=>(noT i=false->GrN N w w')/\Jyj N P ops Q noT fuel listed a' w') a w:=λa ha=>by
 have h1:=h a ha;unfold wpList at h1;unfold wpOp;simp only [ho];have hno:¬ LetsOut (Qtw N P ops Q w fuel listed):=by rintro ⟨a,w,h⟩;exact h
 split
 ·rename_i hw;simp only [hw,if_true]at h1;rcases h1 with h1|⟨_,h1⟩
  ·left
   refine Oper.wp_mono (K:=wpList P ops (Qtw N P ops Q w fuel listed) []) (λa' w' h'=>⟨λ_=>h'.1,h'.2 hc⟩) ?_;unfold Oper.wp at h1 ⊢;exact Jxf (Q:=Qtw N P ops Q w fuel listed) (λc a w hf=>hf.elim) (λhf=>absurd hf hno) h1
  ·exact absurd h1 hno
 ·rename_i hw;simp only [hw]at h1;exact ⟨λ_=>h1.1,h1.2 hc⟩
theorem Xwl{l:List Oper}{fuel fuel':Nat}{listed:Array Bool}(i j:Nat){oi oj:Oper}(hr:Region.ready .any l.toArray listed=[i,j])(hf:fuel=fuel'+1)(hi:nth l i=some oi)(hj:nth l j=some oj)(h1:WL P n l.toArray (Qtw N P l.toArray Q w fuel' (listed.setIfInBounds i true)) [oi] al w)(h2:WL P n l.toArray (Qtw N P l.toArray Q w fuel' (listed.setIfInBounds j true)) [oj] al w): WM N P n l.toArray Q fuel listed al w:=λhc a ha=>by
 subst hf;have e1:l.toArray[i]?=some oi:=by rw [<-hi,Jxm];simp
 have e2:l.toArray[j]?=some oj:=by rw [<-hj,Jxm];simp
 refine ⟨λh0=>(by rw [hr]at h0;cases h0),λk hk=>?_⟩;have hk':=hk;rw [hr]at hk;simp only [List.mem_cons,List.not_mem_nil,or_false]at hk;rcases hk with rfl|rfl
 ·exact Jfg e1 (hc.step hk') h1 a ha
 ·exact Jfg e2 (hc.step hk') h2 a ha
theorem Qkq{l:List Oper}{fuel fuel':Nat}{listed:Array Bool}(i:Nat){oi:Oper}(hr:Region.ready .any l.toArray listed=[i])(hf:fuel=fuel'+1)(hi:nth l i=some oi)(h1:WL P n l.toArray (Qtw N P l.toArray Q w fuel' (listed.setIfInBounds i true)) [oi] al w): WM N P n l.toArray Q fuel listed al w:=λhc a ha=>by
 subst hf;have e1:l.toArray[i]?=some oi:=by rw [<-hi,Jxm];simp
 refine ⟨λh0=>(by rw [hr]at h0;cases h0),λk hk=>?_⟩;have hk':=hk;rw [hr]at hk;simp only [List.mem_cons,List.not_mem_nil,or_false]at hk;subst hk;exact Jfg e1 (hc.step hk') h1 a ha
theorem Jsw{fuel:Nat}{listed listed':Array Bool}(e:listed=listed')(h:WM N P n ops Q fuel listed' al w): WM N P n ops Q fuel listed al w:=by subst e;exact h
theorem mcut{α:Type}{fuel:Nat}{L:Array Bool}(fuel':Nat)(L':Array Bool)(fr:α->AL)(I:α->World->Prop)(h2:∀ x w,I x w->WM N P n ops Q fuel' L' (fr x) w)(h1:(∀ x al w,I x w->Sub (fr x) al->WM N P n ops Q fuel' L' al w)->WM N P n ops Q fuel L al w): WM N P n ops Q fuel L al w:=h1 λx al w hi hs=>(h2 x w hi).sub hs
end
end Go.Wk
namespace Go.Wk
open Go.RowKit
theorem sl64{P:Program}{n:Nat}{al:AL}{w:World}{Q:Exit->Act->World->Prop}{ops:Array Oper}{rest:List Oper}{d ty:Nat}{pos:String}{aft:Array Edge}{y:Operand}{t yt:TypeId}{v:Nat}(hv:v<64)(kk:WL P n ops Q rest ((d,.int .u64 ((2^v:Nat):Int))::al) w)(hy:ev al y=some (.int .i64 (v:Int)):=by rfl)(hd:Nat.blt d n=true:=by rfl):
  WL P n ops Q (⟨some d,.binOp .shl t (.const (.int .u64 1)) y yt,ty,pos,aft,none⟩::rest) al w:=by
 have e:IntKind.u64.wrap (1*2^(min ((v:Nat):Int).toNat IntKind.u64.bits))=((2^v:Nat):Int):=by
  have h:2^v<18446744073709551616:=Nat.lt_of_lt_of_le (Nat.pow_lt_pow_right (by decide:1<2) hv) (by decide);rw [Int.toNat_natCast,Nat.min_eq_left (by show v<=64;omega),Int.one_mul];have:((2:Int)^v)=((2^v:Nat):Int):=by simp
  rw [this,IntKind.wrap_u64];generalize 2^v=p at *
  omega
 rw [<-e]at kk;exact wop hd (λa ha=>Jlr (x:=.const (.int .u64 1)) rfl hy (by omega) ha (some d) w) kk
end Go.Wk
namespace Go.Proofs.YtefpailelagbkaaGreatDoor
open Go.RowKit Pl Go.Wk
attribute [local irreducible] WC WL QX WD WDB WP WN WG
def Uc(es:List Nat): List Value:=es.map fun (e:Nat)=>Value.int .u32 (e:Int)
theorem Xqg{es:List Nat}{i:Nat}(h:i<es.length): (Uc es)[i]?=some (.int .u32 (es.getD i 0:Int)):=by
 simp [Uc,List.getD,List.getElem?_eq_getElem h]
structure GrV(w:World)(A:Option Addr)(c n:Nat)(es:List Nat): Prop where
 rd:Rd w 1 A es.length (Uc es)
 cap:es.length<=c
 n32:n<=32
 few:es.length<=64
 lt:∀ e∈es,e<2^n
abbrev grC(A:Option Addr)(c n:Nat)(es:List Nat): List Value:=[.int .i64 (n:Int),.slice A es.length c]
theorem GrV.ext{w w':World}{A:Option Addr}{c n:Nat}{es:List Nat}(h:GrV w A c n es)(hx:Ext w w'): GrV w' A c n es:=⟨h.rd.ext hx,h.cap,h.n32,h.few,h.lt⟩
theorem Jbk{n:Nat}(h:n<=32): 2^n<=4294967296:=Nat.pow_le_pow_right (n:=2) (by decide) h
theorem GrV.lt32{w:World}{A:Option Addr}{c n:Nat}{es:List Nat}(h:GrV w A c n es){e:Nat}(he:e∈es): e<4294967296:=Nat.lt_of_lt_of_le (h.lt e he) (Jbk h.n32)
theorem Qwb{n:Nat}(hn:n<=32)(w:World): Ret Tryz.prog 175 [.int .i64 (n:Int)] w λu w'=>u=.int .u32 ((2^n-1:Nat):Int)/\w'=w:=by
 have hp:=Jbk hn;have hp0:0<2^n:=Nat.two_pow_pos n;refine Jjb Tryz.func175 Tryz.ntmps175 rfl (by kernel_rfl) rfl ?_;refine ρ ?_;refine sl64 (v:=n) (by omega) ?_;refine ρ ?_;refine Jjq ⟨?_,rfl⟩;generalize 2^n=p at *
 congr 1
 rw [IntKind.wrap_u64,IntKind.wrap_u32];omega
theorem Qnw{e n:Nat}(h:e<2^n)(hn:n<=32): Qpp e (2^n-1)=0:=by
 have hp:=Jbk hn;have hp0:0<2^n:=Nat.two_pow_pos n;apply Nat.eq_of_testBit_eq
 intro i;rw [Qjb (by omega) (by omega),Nat.testBit_two_pow_sub_one,Nat.zero_testBit];by_cases hi:i<n
 ·rw [decide_eq_true hi];simp
 ·rw [Nat.testBit_lt_two_pow (Nat.lt_of_lt_of_le h (Nat.pow_le_pow_right (n:=2) (by decide) (by omega)))];rfl
theorem Jmw{w:World}{A:Option Addr}{c n:Nat}{es:List Nat}(h:GrV w A c n es): Ret Tryz.prog 152 [.agg (grC A c n es).toArray] w λu w'=>u=.int .i64 0/\Ext w w':=by
 have hn:=h.n32;have hf:=h.few;refine Jjb Tryz.func152 Tryz.ntmps152 rfl (by kernel_rfl) rfl ?_;refine ρ ?_;refine bx (cs:=grC A c n es) ?_;intro w1 b hx1 hb hB;refine ρ ?_;refine ld (hB.at (i:=0) rfl) ?_;refine ρ ?_;refine ld (hB.at (i:=0) rfl) ?_;refine ρ ?_;refine cf ?_ ?_
 ·exact decide_eq_false (by omega)
 refine ρ ?_;refine ld (hB.at (i:=1) rfl) ?_;refine ρ ?_;refine cf ?_ ?_
 ·exact decide_eq_false (by omega)
 refine ρ ?_;refine ld (hB.at (i:=1) rfl) ?_;refine ρ ?_;refine Jqn (fun (i:Nat)=>[(1,.pointer (some ⟨b,0,none⟩)),(18,.slice A es.length c),(19,.int .i64 (es.length:Int)),(20,.int .i64 (i:Int))])
  (λi w'=>i<=es.length/\Ext w1 w') (λi=>es.length-i) 0 sB ⟨Nat.zero_le _,Ext.refl _⟩ ?_
 rintro i w2 ⟨hi,hx2⟩;have hB2:=hB.ext hx2;have h2:=h.ext (hx1.trans hx2);refine ρ ?_;refine ci (λh=>?_) (λh=>?_)
 ·have li:i<es.length:=by have:=of_decide_eq_true h;omega
  clear h;have hm:=getD_mem' 0 es li;refine ρ ?_;refine ix i h2.rd li ?_;refine ρ ?_;refine ld (h2.rd.cell (Xqg li)) ?_;refine ρ ?_;refine ld (hB2.at (i:=0) rfl) ?_;refine ρ ?_;refine cl (Qwb hn w2) ?_;rintro u w3 ⟨rfl,rfl⟩;have hp:=Jbk hn;have hp0:0<2^n:=Nat.two_pow_pos n;refine ρ ?_;refine cf ?_ ?_
  ·rw [Jdd (h2.lt32 hm) (by omega),Qnw (h.lt _ hm) hn];rfl
  refine ρ ?_;exact Jjt (i+1) sO ⟨by omega,hx2⟩ (by omega)
 refine ρ ?_;exact Jjq ⟨rfl,hx1.trans hx2⟩
def Jfr(a:Nat->Nat): List Value:=(List.range 32).map λv=>.int .u32 (a v:Int)
theorem Jxv(a:Nat->Nat): (Jfr a).length=32:=by simp [Jfr]
theorem Jkn{a:Nat->Nat}{v:Nat}(h:v<32): (Jfr a)[v]?=some (.int .u32 (a v:Int)):=by simp [Jfr,h]
theorem Jsh(a:Nat->Nat){v x:Nat}(h:v<32): (Jfr a).set v (.int .u32 (x:Int))=Jfr (upd a v x):=by
 apply List.ext_getElem?
 intro i;rw [List.getElem?_set];by_cases e:v=i
 ·subst e;rw [if_pos rfl,if_pos (by rw [Jxv];exact h),Jkn h,Jjp]
 ·rw [if_neg e];by_cases hi:i<32
  ·rw [Jkn hi,Jkn hi,Jjl _ _ (λe'=>e e'.symm)]
  ·simp [Jfr,hi]
theorem Jsj(a:Nat->Nat): ∀ u∈Jfr a,u.oneCell'=true:=λu hu=>by obtain ⟨e,_,rfl⟩:=List.mem_map.1 hu;rfl
theorem Qfw: Jxc Tryz.prog 192=some (.agg (Jfr λ_=>0).toArray):=by kernel_rfl
theorem Xws: Jxc Tryz.prog 191=some (.agg (List.replicate 32 (Value.int .i64 0)).toArray):=by kernel_rfl
def AdjP(n:Nat)(es:List Nat)(a:Nat->Nat): Prop:=∀ v,v<32->a v<4294967296/\∀ x,(a v).testBit x=(decide (v<n) && (x != v) && es.any λe=>e.testBit v && e.testBit x)
theorem Jrz{v x:Nat}: (2^v).testBit x=decide (v=x):=Nat.testBit_two_pow
theorem Qmd{w:World}{A:Option Addr}{c n:Nat}{es:List Nat}(h:GrV w A c n es): Ret Tryz.prog 176 [.agg (grC A c n es).toArray] w λu w'=>Ext w w'/\∃ a,u=.agg (Jfr a).toArray/\AdjP n es a:=by
 have hn:=h.n32;have hf:=h.few;refine Jjb Tryz.func176 Tryz.ntmps176 rfl (by kernel_rfl) rfl ?_;refine ρ ?_;refine bx (cs:=grC A c n es) ?_;intro w1 b1 hx1 hb1 hB1;refine ρ ?_;refine alc (cs:=Jfr λ_=>0) Qfw ?_;intro w2 b2 hx2 hb2 hB2;refine ρ ?_;refine alc (cs:=Jfr λ_=>0) Qfw ?_;intro w3 b3 hx3 hb3 hB3;have hxw3:=(hx1.trans hx2).trans hx3;refine ρ ?_;refine ld (((hB1.ext hx2).ext hx3).at (i:=1) rfl) ?_;refine ρ ?_;refine Jjv (fun (i:Nat) (a:Nat->Nat)=>[(1,.pointer (some ⟨b1,0,none⟩)),(2,.pointer (some ⟨b2,0,none⟩)),(3,.pointer (some ⟨b3,0,none⟩)),(8,.slice A es.length c),(9,.int .i64 (es.length:Int)),(10,.int .i64 (i:Int))])
  (λi a w'=>i<=es.length/\Ext w2 w'/\Blk w' b3 192 (Jfr a)/\AdjP n (es.take i) a) (λi _=>es.length-i) 0 (λ_=>0) sB
  ⟨Nat.zero_le _,hx3,hB3,λv _=>⟨by simp only;omega,λx=>by simp⟩⟩ ?_
 rintro i a w4 ⟨hi,hx4,hB34,ha⟩;have hB14:=(hB1.ext hx2).ext hx4;have hB24:=hB2.ext hx4;have h4:=h.ext ((hx1.trans hx2).trans hx4);refine ρ ?_;refine ci (λhc=>?_) (λhc=>?_)
 ·have li:i<es.length:=by have:=of_decide_eq_true hc;omega
  clear hc;have hm:=getD_mem' 0 es li;have he32:=h4.lt32 hm;obtain ⟨e,he⟩:∃ e,e=es.getD i 0:=⟨_,rfl⟩;refine ρ ?_;refine ix i h4.rd li ?_;refine ρ ?_;refine ld (h4.rd.cell (Xqg li)) ?_;rw [<-he]at hm he32 ⊢;refine ρ ?_;refine ld (hB14.at (i:=0) rfl) ?_;refine ρ ?_;refine Jjv (fun (v:Nat) (a':Nat->Nat)=>[(1,.pointer (some ⟨b1,0,none⟩)),(2,.pointer (some ⟨b2,0,none⟩)),(3,.pointer (some ⟨b3,0,none⟩)),(8,.slice A es.length c),(9,.int .i64 (es.length:Int)),(10,.int .i64 (i:Int)),(5,.int .u32 (e:Int)),(15,.int .i64 (n:Int)),(16,.int .i64 (v:Int))])
   (λv a' w'=>v<=n/\Ext w2 w'/\Blk w' b3 192 (Jfr a')/\∀ u,u<32->a' u<4294967296/\∀ x,(a' u).testBit x=((a u).testBit x || (decide (u<v) && e.testBit u && e.testBit x && (x != u)))) (λv _=>n-v) 0 a sB
   ⟨Nat.zero_le _,hx4,hB34,λu hu=>⟨(ha u hu).1,λx=>by simp⟩⟩ ?_
  rintro v a' w5 ⟨hv,hx5,hB35,ha'⟩;refine ρ ?_;refine ci (λhc=>?_) (λhc=>?_)
  ·have lv:v<n:=by have:=of_decide_eq_true hc;omega
   have lv32:v<32:=by omega
   clear hc;have hav:=ha' v lv32;have h2v:=Jwc lv32;refine ρ ?_;refine Xjd (s:=e) (v:=v) (by omega) ?_;refine ρ ?_;refine ci (λhc=>?_) (λhc=>?_)
   ·rw [Jkc he32]at hc;have hxd:Ext w5 w5.drew:=(Ext.refl w5).drew;have hB35d:=hB35.ext hxd;refine ρ ?_;refine drN (λ_=>False) 10 [(0,0),(0,1),(0,2),(0,3),(0,4),(0,5),(0,6),(0,7),(0,8),(2,9)] (by kernel_rfl) ?_;refine ρn ?_;refine nixb v lv32 ?_;refine ρn ?_;refine nld (Jjg (hB35d.atc (Jkn lv32)) (λe=>e)) ?_;refine ρn ?_;refine Xzf lv32 ?_;refine ρn ?_;refine nixb v lv32 ?_;refine ρn ?_;refine Jkj ?_;refine sto (p:=⟨b3,v,none⟩) (hB35d.cell v |>.trans (Jkn lv32)) (hB35d.frozen _) ?_;have hand:=Qnx (t:=2^v) he32;have eval:bits .or .u32 (a' v:Int) (bits .andNot .u32 (e:Int) ((2^v:Nat):Int))=((a' v ||| Qpp e (2^v):Nat):Int):=by
     rw [Jdd he32 h2v,Jdc hav.1 hand]
    rw [eval];have hB36:=hB35d.set v (.int .u32 ((a' v ||| Qpp e (2^v):Nat):Int));rw [Jsh a' lv32]at hB36;have hb3w:w2.heap.size<=b3:=hb3;refine ω5 ?_;refine Jch ?_;refine ρn ?_;refine ρ ?_;refine Jjj (v+1) (upd a' v (a' v ||| Qpp e (2^v))) sO ⟨by omega,(hx5.trans hxd).setCell hb3w _,hB36,λu hu=>?_⟩ (by omega);by_cases e1:u=v
    ·subst e1;rw [Jjp];refine ⟨Jss hav.1 hand,λx=>?_⟩;rw [Nat.testBit_or,Qjb he32 h2v,Jrz,hav.2,hc,decide_eq_true (Nat.lt_succ_self u),decide_eq_false (Nat.lt_irrefl u)];by_cases e2:u=x
     ·subst e2;simp
     ·rw [decide_eq_false e2,bne_iff_ne.2 (λe'=>e2 e'.symm)];simp
    ·rw [Jjl _ _ e1];refine ⟨(ha' u hu).1,λx=>?_⟩;rw [(ha' u hu).2];have:decide (u<v+1)=decide (u<v):=decide_eq_decide.2 (by omega);rw [this]
   ·rw [Jkc he32]at hc;refine ρ ?_;refine Jjj (v+1) a' sO ⟨by omega,hx5,hB35,λu hu=>⟨(ha' u hu).1,λx=>?_⟩⟩ (by omega);rw [(ha' u hu).2];by_cases e1:u=v
    ·subst e1;rw [hc];simp
    ·have:decide (u<v+1)=decide (u<v):=decide_eq_decide.2 (by omega);rw [this]
  ·have hv':v=n:=by have:=of_decide_eq_false hc;omega
   subst hv';clear hc;refine ρ ?_;refine Jjj (i+1) a' sO ⟨by omega,hx5,hB35,λu hu=>⟨(ha' u hu).1,λx=>?_⟩⟩ (by omega);rw [(ha' u hu).2,(ha u hu).2,Jjm 0 li,<-he,List.any_append];simp only [List.any_cons,List.any_nil,Bool.or_false];cases decide (u<v)<;>cases (x != u)<;>simp
 ·have hi':i=es.length:=by have:=of_decide_eq_false hc;omega
  subst hi';clear hc;rw [List.take_length]at ha;refine ρ ?_;refine lda (cs:=Jfr a) (λj u hu=>hB34.at hu) (Jxv a).symm ?_;refine ρ ?_;refine sta (cs':=Jfr a) hB24 ?_ (Jsj a) (by rw [Jxv,Jxv]) (Jxv a).symm;intro w5 hB25 hg5 hx5;refine ρ ?_;exact Xbt hB25 (Jxv a).symm ⟨hx5 w ((hx1.trans hx2).trans hx4) (by have:=hx1.size;omega),a,rfl,ha⟩
open Go.RowKit Pl Go.Wk
theorem Qmc{w:World}{A:Option Addr}{c n v:Nat}{es:List Nat}(h:GrV w A c n es)(hv:v<n): Ret Tryz.prog 153 [.agg (grC A c n es).toArray,.int .i64 (v:Int)] w λu w'=>Ext w w'/\∃ a,u=.int .u32 (a v:Int)/\AdjP n es a:=by
 have hn:=h.n32;refine Jjb Tryz.func153 Tryz.ntmps153 rfl (by kernel_rfl) rfl ?_;refine ρ ?_;refine bx (cs:=grC A c n es) ?_;intro w1 b hx1 hb hB;refine ρ ?_;refine lds (cs:=grC A c n es) (λj u hu=>hB.at hu) ?_;refine ρ ?_;refine cl (Jmw (h.ext hx1)) ?_;rintro u w2 ⟨rfl,hx2⟩;have hB2:=hB.ext hx2;refine ρ ?_;refine ld (hB2.at (i:=0) rfl) ?_;refine ρ ?_;refine cf ?_ ?_
 ·exact decide_eq_false (by omega)
 refine ρ ?_;refine lds (cs:=grC A c n es) (λj u hu=>hB2.at hu) ?_;refine ρ ?_;refine cl (Qmd (h.ext (hx1.trans hx2))) ?_;rintro u w3 ⟨hx3,a,rfl,ha⟩;refine ρ ?_;refine idx v (show v<32 by omega) (Jkn (show v<32 by omega)) ?_;refine ρ ?_;exact Jjq ⟨(hx1.trans hx2).trans hx3,a,rfl,ha⟩
theorem Qmr{w:World}{A:Option Addr}{c n:Nat}{es:List Nat}(h:GrV w A c n es): Ret Tryz.prog 121 [.agg (grC A c n es).toArray] w λu w'=>Ext w w'/\∃ a,u=.agg (Jfr a).toArray/\AdjP n es a:=by
 have hn:=h.n32;refine Jjb Tryz.func121 Tryz.ntmps121 rfl (by kernel_rfl) rfl ?_;refine ρ ?_;refine bx (cs:=grC A c n es) ?_;intro w1 b1 hx1 hb1 hB1;refine ρ ?_;refine alc (cs:=Jfr λ_=>0) Qfw ?_;intro w2 b2 hx2 hb2 hB2;refine ρ ?_;refine alc (cs:=Jfr λ_=>0) Qfw ?_;intro w3 b3 hx3 hb3 hB3;refine ρ ?_;refine ld (((hB1.ext hx2).ext hx3).at (i:=0) rfl) ?_;refine ρ ?_;refine Jjv (fun (v:Nat) (a:Nat->Nat)=>[(1,.pointer (some ⟨b1,0,none⟩)),(2,.pointer (some ⟨b2,0,none⟩)),(3,.pointer (some ⟨b3,0,none⟩)),(6,.int .i64 (n:Int)),(7,.int .i64 (v:Int))])
  (λv a w'=>v<=n/\Ext w2 w'/\Blk w' b3 192 (Jfr a)/\∀ u,u<32->a u<4294967296/\∀ x,(a u).testBit x=(decide (u<v) && (x != u) && es.any λe=>e.testBit u && e.testBit x)) (λv _=>n-v) 0 (λ_=>0) sB
  ⟨Nat.zero_le _,hx3,hB3,λu hu=>⟨by simp only;omega,λx=>by simp⟩⟩ ?_
 rintro v a w4 ⟨hv,hx4,hB34,ha⟩;have hB14:=(hB1.ext hx2).ext hx4;have hB24:=hB2.ext hx4;have hxw4:=(hx1.trans hx2).trans hx4;refine ρ ?_;refine ci (λhc=>?_) (λhc=>?_)
 ·have lv:v<n:=by have:=of_decide_eq_true hc;omega
  have lv32:v<32:=by omega
  clear hc;refine ρ ?_;refine lds (cs:=grC A c n es) (λj u hu=>hB14.at hu) ?_;refine ρ ?_;refine cl (Qmc (h.ext hxw4) lv) ?_;rintro u w5 ⟨hx5,a2,rfl,ha2⟩;have hB35:=hB34.ext hx5;refine ρ ?_;refine ixb v lv32 ?_;refine ρ ?_;refine sto (p:=⟨b3,v,none⟩) (hB35.cell v |>.trans (Jkn lv32)) (hB35.frozen _) ?_;have hB36:=hB35.set v (.int .u32 ((a2 v:Nat):Int));rw [Jsh a lv32]at hB36;refine ρ ?_;refine Jjj (v+1) (upd a v (a2 v)) sO ⟨by omega,(hx4.trans hx5).setCell hb3 _,hB36,λu hu=>?_⟩ (by omega);by_cases e:u=v
  ·subst e;rw [Jjp,decide_eq_true (Nat.lt_succ_self u)];refine ⟨(ha2 u hu).1,λx=>?_⟩;rw [(ha2 u hu).2,decide_eq_true lv]
  ·rw [Jjl _ _ e];refine ⟨(ha u hu).1,λx=>?_⟩;have:decide (u<v+1)=decide (u<v):=decide_eq_decide.2 (by omega);rw [(ha u hu).2,this]
 ·have hv':v=n:=by have:=of_decide_eq_false hc;omega
  subst hv';clear hc;refine ρ ?_;refine lda (cs:=Jfr a) (λj u hu=>hB34.at hu) (Jxv a).symm ?_;refine ρ ?_;refine sta (cs':=Jfr a) hB24 ?_ (Jsj a) (by rw [Jxv,Jxv]) (Jxv a).symm;intro w5 hB25 hg5 hx5;refine ρ ?_;exact Xbt hB25 (Jxv a).symm ⟨hx5 w hxw4 (by have:=hx1.size;omega),a,rfl,ha⟩
theorem Qdw{w:World}{A:Option Addr}{c n f:Nat}{es:List Nat}(h:GrV w A c n es)(hf:f<=n): Ret Tryz.prog 120 [.agg (grC A c n es).toArray,.int .i64 (f:Int)] w λu w'=>u=.int .i64 0/\Ext w w':=by
 have hn:=h.n32;refine Jjb Tryz.func120 Tryz.ntmps120 rfl (by kernel_rfl) rfl ?_;refine ρ ?_;refine bx (cs:=grC A c n es) ?_;intro w1 b hx1 hb hB;refine ρ ?_;refine lds (cs:=grC A c n es) (λj u hu=>hB.at hu) ?_;refine ρ ?_;refine cl (Jmw (h.ext hx1)) ?_;rintro u w2 ⟨rfl,hx2⟩;have hB2:=hB.ext hx2;refine ρ ?_;refine ld (hB2.at (i:=0) rfl) ?_;refine ρ ?_;refine cf ?_ ?_
 ·exact decide_eq_false (by omega)
 refine ρ ?_;exact Jjq ⟨rfl,hx1.trans hx2⟩
end Go.Proofs.YtefpailelagbkaaGreatDoor
namespace Go.Proofs.YtefpailelagbkaaGreatDoor
open Pl Go.Wk
def nb0(n:Nat)(es:List Nat)(u x:Nat): Bool:=decide (u<n) && (x != u) && es.any λe=>e.testBit u && e.testBit x
theorem Xdb{e n u:Nat}(he:e<2^n)(h:e.testBit u=true): u<n:=Jbt he h
theorem Jpz{n:Nat}{es:List Nat}(he:∀ e∈es,e<2^n){u x:Nat}(h:nb0 n es u x=true): u<n/\x<n/\x≠u:=by
 simp only [nb0,Bool.and_eq_true,decide_eq_true_eq,bne_iff_ne,List.any_eq_true]at h;obtain ⟨⟨h1,h2⟩,e,hm,_,h3⟩:=h;exact ⟨h1,Xdb (he e hm) h3,h2⟩
theorem Qlk{n:Nat}{es:List Nat}(he:∀ e∈es,e<2^n): NbInv [] (nb0 n es):=by
 refine ⟨λu x _ _=>?_,λu x _ h=>⟨by simp,(Jpz he h).2.2⟩⟩;rw [Bool.eq_iff_iff];have key:∀ u x,nb0 n es u x=true->nb0 n es x u=true:=λu x h=>by
  have h1:=Jpz he h;simp only [nb0,Bool.and_eq_true,decide_eq_true_eq,bne_iff_ne,List.any_eq_true]at h ⊢;obtain ⟨⟨_,_⟩,e,hm,h4,h5⟩:=h;exact ⟨⟨h1.2.1,λe=>h1.2.2 e.symm⟩,e,hm,h5,h4⟩
 exact ⟨key u x,key x u⟩
theorem Qqp: ∀ (k:Nat) {l:List Nat},l.Nodup->(∀ u∈l,u<k)->l.length<=k
 | 0,[],_,_=>Nat.le_refl _
 | 0,u::l,_,h=>absurd (h u (List.mem_cons_self ..)) (by omega)
 | k+1,l,hn,h=>by
  have h1:=Qqp k (l:=l.filter λu=>u != k) (hn.sublist List.filter_sublist) (λu hu=>by
   obtain ⟨h2,h3⟩:=List.mem_filter.1 hu;have:=h u h2;have:u≠k:=bne_iff_ne.1 h3;omega)
  have h2:l.length<=(l.filter λu=>u != k).length+1:=by
   clear h h1;induction l with
   | nil=>simp
   | cons x l ih=>
    obtain ⟨h3,h4⟩:=List.nodup_cons.1 hn;by_cases e:x=k
    ·subst e;have e2:l.filter (λu=>u != x)=l:=List.filter_eq_self.2 λu hu=>bne_iff_ne.2 λe'=>h3 (by rw [<-e'];exact hu);rw [List.filter_cons_of_neg (by simp),e2,List.length_cons];omega
    ·rw [List.filter_cons_of_pos (p:=λu=>u != k) (bne_iff_ne.2 e),List.length_cons,List.length_cons];have:=ih h4;omega
  omega
theorem Qlh{l:List Nat}{k:Nat}(hn:l.Nodup)(hlt:∀ u∈l,u<k)(hlen:l.length=k){u:Nat}(hu:u<k): u∈l:=by
 refine Classical.byContradiction λh=>?_;have:=Qqp k (l:=u::l) (List.nodup_cons.2 ⟨h,hn⟩) (λx hx=>by
  rcases List.mem_cons.1 hx with rfl|hx
  ·exact hu
  ·exact hlt x hx)
 rw [List.length_cons]at this;omega
def Jzt(perm:List Nat)(f:Nat): List Nat:=perm++(List.range f).reverse
structure PermOk(n f:Nat)(perm:List Nat): Prop where
 fn:f<=n
 len:perm.length=n-f
 rng:∀ v∈perm,f<=v/\v<n
 nd:perm.Nodup
theorem PermOk.olen{n f:Nat}{perm:List Nat}(h:PermOk n f perm): (Jzt perm f).length=n:=by
 have:=h.len;have:=h.fn;simp [Jzt];omega
theorem PermOk.ond{n f:Nat}{perm:List Nat}(h:PermOk n f perm): (Jzt perm f).Nodup:=by
 refine List.nodup_append.2 ⟨h.nd,List.pairwise_reverse.2 (List.nodup_range.imp λh=>h.symm),λu hu v hv e=>?_⟩;have h1:=(h.rng u hu).1;have h2:=List.mem_range.1 (List.mem_reverse.1 hv);omega
theorem PermOk.olt{n f:Nat}{perm:List Nat}(h:PermOk n f perm){u:Nat}(hu:u∈Jzt perm f): u<n:=by
 rcases List.mem_append.1 hu with h1|h1
 ·exact (h.rng u h1).2
 ·have:=List.mem_range.1 (List.mem_reverse.1 h1);have:=h.fn;omega
theorem PermOk.omem{n f:Nat}{perm:List Nat}(h:PermOk n f perm){u:Nat}: u∈Jzt perm f↔u<n :=
 ⟨h.olt,λhu=>Qlh h.ond (λ_=>h.olt) h.olen hu⟩
theorem Qhw{ord:List Nat}(hn:ord.Nodup){i:Nat}(hi:i<ord.length): pre ord (ord.getD i 0)=ord.take i:=by
 have e:ord=ord.take i++ord.getD i 0::ord.drop (i+1):=by
  rw [Jjh 0 ord hi,<-List.drop_eq_getElem_cons hi,List.take_append_drop]
 have hni:ord.getD i 0 ∉ ord.take i:=λhm=>by
  rw [e,List.nodup_append]at hn;exact hn.2.2 _ hm _ (List.mem_cons_self ..) rfl
 have:=Jmc (r:=ord.drop (i+1)) hni;rw [<-e]at this;exact this
def plc(ord:List Nat)(u:Nat): Nat:=(pre ord u).length
theorem Jmd{ord:List Nat}(hn:ord.Nodup){i:Nat}(hi:i<ord.length): plc ord (ord.getD i 0)=i:=by
 rw [plc,Qhw hn hi,List.length_take];omega
theorem Jbc{ord:List Nat}(hn:ord.Nodup){u:Nat}(hu:u∈ord): plc ord u<ord.length/\ord.getD (plc ord u) 0=u:=by
 obtain ⟨i,hi,e⟩:=List.getElem_of_mem hu;have h1:=Jmd hn hi;rw [Jjh 0 ord hi,e]at h1;rw [h1];exact ⟨hi,by rw [Jjh 0 ord hi,e]⟩
theorem Jtb{ord:List Nat}(hn:ord.Nodup){v u:Nat}(hv:v∈ord)(hu:u∈ord): Xdr ord v u↔plc ord v<=plc ord u:=by
 obtain ⟨h1,h2⟩:=Jbc hn hv;obtain ⟨h3,h4⟩:=Jbc hn hu;have e:pre ord v=ord.take (plc ord v):=by have:=Qhw hn h1;rw [h2]at this;exact this
 unfold Xdr;rw [e];constructor
 ·intro h;rcases Nat.lt_or_ge (plc ord u) (plc ord v) with h5|h5
  ·exfalso
   apply h
   refine List.mem_iff_getElem.2 ⟨plc ord u,by rw [List.length_take];omega,?_⟩;rw [List.getElem_take,<-Jjh 0 ord h3];exact h4
  ·exact h5
 ·intro h hm;obtain ⟨j,hj,e⟩:=List.getElem_of_mem hm;rw [List.length_take]at hj;rw [List.getElem_take]at e;have:=Jmd hn (show j<ord.length by omega);rw [Jjh 0 ord (by omega),e]at this;omega
def Jxt(n:Nat)(f:Nat->List Value): List Value:=(List.range n).flatMap f
theorem Jkl(n:Nat)(f:Nat->List Value): Jxt (n+1) f=Jxt n f++f n:=by simp [Jxt,List.range_succ,List.flatMap_append]
theorem Jyz{n sz:Nat}{f:Nat->List Value}(h:∀ i,i<n->(f i).length=sz): (Jxt n f).length=n*sz:=by
 induction n with
 | zero=>simp [Jxt]
 | succ n ih=>rw [Jkl,List.length_append,ih (λi hi=>h i (by omega)),h n (by omega),Nat.succ_mul]
theorem Jyd{n:Nat}{f g:Nat->List Value}(h:∀ i,i<n->f i=g i): Jxt n f=Jxt n g:=by
 induction n with
 | zero=>rfl
 | succ n ih=>rw [Jkl,Jkl,ih (λi hi=>h i (by omega)),h n (by omega)]
theorem Jwr{n sz:Nat}{f:Nat->List Value}(h:∀ i,i<n->(f i).length=sz){i j:Nat}(hi:i<n)(hj:j<sz): (Jxt n f)[i*sz+j]?=(f i)[j]?:=by
 induction n with
 | zero=>omega
 | succ n ih=>
  have hl:=Jyz (n:=n) (λi hi=>h i (by omega));rw [Jkl];by_cases e:i=n
  ·subst e;rw [List.getElem?_append_right (by omega),hl,Nat.add_sub_cancel_left]
  ·have:i*sz+j<n*sz:=by
    have:(i+1)*sz<=n*sz:=Nat.mul_le_mul_right _ (by omega);rw [Nat.succ_mul]at this;omega
   rw [List.getElem?_append_left (by omega)];exact ih (λi hi=>h i (by omega)) (by omega)
theorem Qmg{n sz:Nat}{f:Nat->List Value}(h:∀ i,i<n->(f i).length=sz){i:Nat}(hi:i<n){cs:List Value}(hc:cs.length=sz): (Jxt n f).take (i*sz)++cs++(Jxt n f).drop (i*sz+sz)=Jxt n (upd f i cs):=by
 induction n with
 | zero=>omega
 | succ n ih=>
  have hl:=Jyz (n:=n) (λi hi=>h i (by omega));have hfn:=h n (by omega);rw [Jkl,Jkl];by_cases e:i=n
  ·subst e;rw [List.take_append_of_le_length (by omega),List.take_of_length_le (by omega),List.drop_of_length_le (by rw [List.length_append];omega),List.append_nil,Jjp];congr 1
   exact Jyd λk hk=>(Jjl _ _ (by omega)).symm
  ·have h1:i*sz+sz<=n*sz:=by
    have:(i+1)*sz<=n*sz:=Nat.mul_le_mul_right _ (by omega);rw [Nat.succ_mul]at this;exact this
   rw [List.take_append_of_le_length (by omega),List.drop_append_of_le_length (by omega),<-List.append_assoc,ih (λi hi=>h i (by omega)) (by omega),Jjl _ _ (λe'=>e e'.symm)]
end Go.Proofs.YtefpailelagbkaaGreatDoor
