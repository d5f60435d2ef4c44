/- Part 26 of the proof: RegT, Hg, El, ElP. -/
import Derived.Test.YtefpailelagbkaaGreatDoorJ25
set_option linter.unusedVariables false
set_option maxRecDepth 100000
set_option maxHeartbeats 40000000
namespace Go.Wk
open Go.RowKit
section
variable {P:Program} {n:Nat} {al al':AL} {w:World} {Q:Exit->Act->World->Prop} {ops:Array Oper} {T:Nat->Bool}
def Qrq(P:Program)(ops:Array Oper)(Q:Exit->Act->World->Prop)(T:Nat->Bool)(i:Nat)(w0:World)(fuel:Nat)(listed:Array Bool): Exit->Act->World->Prop
 | .normal,a,w=>(T i=false->Ext w0 w)/\(Closed ops listed->Jkx P ops Q T fuel listed a w)
 | _,_,_=>False
theorem Jdc{i:Nat}{w0:World}{fuel:Nat}{listed:Array Bool}(hx:T i=false->Ext w0 w)(h:WH P n ops Q T fuel listed al w): QX n (Qrq P ops Q T i w0 fuel listed) .normal al w:=λa o=>⟨hx,λj=>h j a o⟩
theorem Jdm{i:Nat}{o:Oper}{fuel:Nat}{listed:Array Bool}(ho:ops[i]?=some o)(hc:Closed ops listed)(h:WL P n ops (Qrq P ops Q T i w fuel listed) [o] al w): ∀ a,Fr n al a->wpOp P ops (QF Q) i (λa' w'=>(T i=false->Ext w w')/\Jkx P ops Q T fuel listed a' w') a w:=λa G=>by
 have j:=h a G;unfold wpList at j;unfold wpOp;simp only [ho];have u:¬ LetsOut (Qrq P ops Q T i w fuel listed):=by rintro ⟨a,w,h⟩;exact h
 split
 ·rename_i hw;simp only [hw,if_true]at j;rcases j with j|⟨_,j⟩
  ·left
   refine Oper.wp_mono (K:=wpList P ops (Qrq P ops Q T i w fuel listed) []) (λa' w' D=>⟨D.1,D.2 hc⟩) ?_;unfold Oper.wp at j ⊢;exact Jxc (Q:=Qrq P ops Q T i w fuel listed) (λc a w C=>C.elim) (λC=>absurd C u) j
  ·exact absurd j u
 ·rename_i hw;simp only [hw]at j;exact ⟨j.1,j.2 hc⟩
theorem itwo{l:List Oper}{fuel fuel':Nat}{listed:Array Bool}(i j:Nat){oi oj:Oper}(hr:Region.ready .any l.toArray listed=[i,j])(hf:fuel=fuel'+1)(hi:nth l i=some oi)(hj:nth l j=some oj)(h1:WL P n l.toArray (Qrq P l.toArray Q T i w fuel' (listed.setIfInBounds i true)) [oi] al w)(h2:WL P n l.toArray (Qrq P l.toArray Q T j w fuel' (listed.setIfInBounds j true)) [oj] al w): WH P n l.toArray Q T fuel listed al w:=λC a D=>by
 subst hf;have J:l.toArray[i]?=some oi:=by rw [<-hi,Jxj];simp
 have G:l.toArray[j]?=some oj:=by rw [<-hj,Jxj];simp
 refine ⟨λh0=>(by rw [hr]at h0;cases h0),λk u=>?_⟩;have o:=u;rw [hr]at u;simp only [List.mem_cons,List.not_mem_nil,or_false]at u;rcases u with rfl|rfl
 ·exact Jdm J (C.step o) h1 a D
 ·exact Jdm G (C.step o) h2 a D
theorem Xwq{l:List Oper}{fuel fuel':Nat}{listed:Array Bool}(i:Nat){oi:Oper}(hr:Region.ready .any l.toArray listed=[i])(hf:fuel=fuel'+1)(hi:nth l i=some oi)(h1:WL P n l.toArray (Qrq P l.toArray Q T i w fuel' (listed.setIfInBounds i true)) [oi] al w): WH P n l.toArray Q T fuel listed al w:=λu a C=>by
 subst hf;have D:l.toArray[i]?=some oi:=by rw [<-hi,Jxj];simp
 refine ⟨λh0=>(by rw [hr]at h0;cases h0),λk j=>?_⟩;have o:=j;rw [hr]at j;simp only [List.mem_cons,List.not_mem_nil,or_false]at j;subst j;exact Jdm D (u.step o) h1 a C
theorem Qct{l:List Oper}{fuel fuel':Nat}{listed:Array Bool}(i:Nat){oi:Oper}(hsel:Region.noSelect l.toArray=true)(hr:((Region.ready .any l.toArray listed).contains i && Region.free .any l.toArray listed i)=true)(hf:fuel=fuel'+1)(hi:nth l i=some oi)(h:WP P n l.toArray (Qts P l.toArray Q T fuel' (listed.setIfInBounds i true)) [] [oi] al w): WH P n l.toArray Q T fuel listed al w:=λo a D=>by
 subst hf;simp only [Bool.and_eq_true]at hr;have j:i∈Region.ready .any l.toArray listed:=by simpa using hr.1
 have u:l.toArray[i]?=some oi:=by rw [<-hi,Jxj];simp
 unfold WP at h;obtain ⟨v,C,G⟩:=h a D;exact Jwh (λ_ _=>True) (λ_=>trivial) (λ_ _=>trivial) u (Region.noSelect_spec hsel) (λ_ _ _ _ _ _ _ _=>trivial) _ listed a w o (Region.free_spec u hr.2) j C (G (o.step j))
end
section
variable {N:Nat->Prop} {P:Program} {n:Nat} {al al':AL} {w:World} {Q:Exit->Act->World->Prop} {ops:Array Oper}
def Jgd(ops:Array Oper): List (Nat×Nat)->Array Bool->Option (Array Bool)
 | [],listed=>some listed
 | (0,i)::r,listed=>if (Region.ready .any ops listed).contains i && Region.free .any ops listed i then Jgd ops r (listed.setIfInBounds i true) else none
 | (1,i)::r,listed=>if Region.ready .any ops listed == [i] then Jgd ops r (listed.setIfInBounds i true) else none
 | _::_,_=>none
def Xxs(N:Nat->Prop)(P:Program)(ops:Array Oper)(Q:Exit->Act->World->Prop)(fuel:Nat)(listed:Array Bool): Exit->Act->World->Prop
 | .normal,a,w=>Closed ops listed->Jvv N P ops Q noT fuel listed a w
 | _,_,_=>False
theorem Xxp{fuel:Nat}{listed:Array Bool}{o:Oper}{a:Act}{w:World}{K:Act->World->Prop}(h:o.wp P a w K (QF (Xxs N P ops Q fuel listed))): o.wp P a w K (QF Q):=by
 unfold Oper.wp at h ⊢;have i:¬ LetsOut (QF (Xxs N P ops Q fuel listed)):=by rintro ⟨a,w,h⟩;exact h
 exact Jxc (Q:=QF (Xxs N P ops Q fuel listed)) (λc a w j=>j.elim) (λj=>absurd j i) h
theorem Jkp(hsel:Region.noSelect ops=true)(fuel:Nat)(listed':Array Bool): ∀ (s:List (Nat×Nat)) (listed:Array Bool) (a:Act) (w:World),Closed ops listed->Jgd ops s listed=some listed'->Jqm N P ops (Xxs N P ops Q fuel listed') (Jqq ops.toList s) a w->Jvv N P ops Q noT (s.length+fuel) listed a w
 | [],listed,a,w,hcl,hB,h=>by
  simp only [Jgd,Option.some.injEq]at hB;subst hB;simp only [List.length_nil,Nat.zero_add];exact h hcl
 | (0,i)::r,listed,a,w,hcl,hB,h=>by
  simp only [Jgd]at hB;split at hB
  ·rename_i hc;simp only [Bool.and_eq_true]at hc;have hr':i∈Region.ready .any ops listed:=by simpa using hc.1
   obtain ⟨_,oi,ho,_⟩:=mem_ready.1 hr';have hn:nth ops.toList i=some oi:=by rw [Jxj];simpa using ho
   simp only [Jqq,hn,Jqm,Qdg]at h;obtain ⟨v,hy,h⟩:=h;have e:((0,i)::r).length+fuel=(r.length+fuel)+1:=by simp;omega
   rw [e];exact Jfq (GrN N) (GrN.refl N) (λh k=>GrN.trans h k) ho (Region.noSelect_spec hsel) (λ_ _ _ _ _ _ _ hg=>hg rfl) _ listed a w hcl (Region.free_spec ho hc.2) hr' hy (Jkp hsel fuel listed' r _ _ _ (hcl.step hr') hB h)
  ·cases hB
 | (1,i)::r,listed,a,w,hcl,hB,h=>by
  simp only [Jgd]at hB;split at hB
  ·rename_i hc;have hc':Region.ready .any ops listed=[i]:=by simpa using hc
   have hr':i∈Region.ready .any ops listed:=by rw [hc'];exact List.mem_singleton.2 rfl
   obtain ⟨_,oi,ho,_⟩:=mem_ready.1 hr';have hn:nth ops.toList i=some oi:=by rw [Jxj];simpa using ho
   simp only [Jqq,hn,Jqm,Qdg]at h;have e:((1,i)::r).length+fuel=(r.length+fuel)+1:=by simp;omega
   rw [e];refine ⟨λh0=>(by rw [h0]at hr';cases hr'),λj hj=>?_⟩;rw [hc']at hj;obtain rfl:j=i:=by simpa using hj
   have hcl':=hcl.step hr';unfold wpOp;simp only [ho];split
   ·rename_i hw;simp only [hw,if_true]at h;exact .inl (Oper.wp_mono (λa' w' h'=>⟨λ_=>h'.1,Jkp hsel fuel listed' r _ _ _ hcl' hB h'.2⟩) (Xxp h))
   ·rename_i hw;simp only [hw]at h;exact ⟨λ_=>GrN.refl N w,Jkp hsel fuel listed' r _ _ _ hcl' hB h⟩
  ·cases hB
 | (k+2,i)::r,listed,a,w,_,hB,_=>by simp [Jgd]at hB
def WM(N:Nat->Prop)(P:Program)(n:Nat)(ops:Array Oper)(Q:Exit->Act->World->Prop)(fuel:Nat)(listed:Array Bool)(al:AL)(w:World): Prop:=Closed ops listed->∀ a,Fr n al a->Jvv N P ops Q noT fuel listed a w
theorem WM.sub{fuel:Nat}{listed:Array Bool}(hs:Sub al' al)(h:WM N P n ops Q fuel listed al' w): WM N P n ops Q fuel listed al w:=λi a j=>h i a (j.sub hs)
theorem drM{tt:TT}[ht:Tab P tt]{id:Nat}{l:List Oper}(N:Nat->Prop)(h:WM N P n l.toArray Q l.toArray.size (Array.replicate l.toArray.size false) al w.drew): WC P n (.region id l.toArray true) Q al w:=λa i=>
 wp_region_any ht.mixed (Jdn (N:=N) (T:=noT) _ _ _ _ (h (Jmq _ _) a i))
theorem Qnl{l:List Oper}{fuel fuel':Nat}{listed:Array Bool}(s:List (Nat×Nat))(listed':Array Bool)(hsel:Region.noSelect l.toArray=true)(hB:Jgd l.toArray s listed=some listed')(hf:fuel=s.length+fuel')(h:WN N P n l.toArray (Xxs N P l.toArray Q fuel' listed') (Jqq l s) al w): WM N P n l.toArray Q fuel listed al w:=λi a j=>by
 subst hf;have o:=h a j;refine Jkp hsel fuel' listed' s listed a w i hB ?_;simpa using o
theorem Jrk{fuel:Nat}{listed:Array Bool}(h:WM N P n ops Q fuel listed al w): QX n (Xxs N P ops Q fuel listed) .normal al w:=λa j i=>h i a j
theorem mend{listed:Array Bool}(hr:Region.ready .any ops listed=[])(h:QX n Q .normal al w): WM N P n ops Q 0 listed al w:=λ_ a i=>⟨hr,h a i⟩
def Qrp(N:Nat->Prop)(P:Program)(ops:Array Oper)(Q:Exit->Act->World->Prop)(w0:World)(fuel:Nat)(listed:Array Bool): Exit->Act->World->Prop
 | .normal,a,w=>GrN N w0 w/\(Closed ops listed->Jvv N P ops Q noT fuel listed a w)
 | _,_,_=>False
theorem Jzt{w0:World}{fuel:Nat}{listed:Array Bool}(hx:GrN N w0 w)(h:WM N P n ops Q fuel listed al w): QX n (Qrp N P ops Q w0 fuel listed) .normal al w:=λa j=>⟨hx,λi=>h i a j⟩
theorem Jdl{i:Nat}{o:Oper}{fuel:Nat}{listed:Array Bool}(ho:ops[i]?=some o)(hc:Closed ops listed)(h:WL P n ops (Qrp N P ops Q w fuel listed) [o] al w): ∀ a,Fr n al a->wpOp P ops (QF Q) i (λa' w'=>(noT i=false->GrN N w w')/\Jvv N P ops Q noT fuel listed a' w') a w:=λa G=>by
 have j:=h a G;unfold wpList at j;unfold wpOp;simp only [ho];have u:¬ LetsOut (Qrp N P ops Q w fuel listed):=by rintro ⟨a,w,h⟩;exact h
 split
 ·rename_i hw;simp only [hw,if_true]at j;rcases j with j|⟨_,j⟩
  ·left
   refine Oper.wp_mono (K:=wpList P ops (Qrp N P ops Q w fuel listed) []) (λa' w' D=>⟨λ_=>D.1,D.2 hc⟩) ?_;unfold Oper.wp at j ⊢;exact Jxc (Q:=Qrp N P ops Q w fuel listed) (λc a w C=>C.elim) (λC=>absurd C u) j
  ·exact absurd j u
 ·rename_i hw;simp only [hw]at j;exact ⟨λ_=>j.1,j.2 hc⟩
theorem mtwo{l:List Oper}{fuel fuel':Nat}{listed:Array Bool}(i j:Nat){oi oj:Oper}(hr:Region.ready .any l.toArray listed=[i,j])(hf:fuel=fuel'+1)(hi:nth l i=some oi)(hj:nth l j=some oj)(h1:WL P n l.toArray (Qrp N P l.toArray Q w fuel' (listed.setIfInBounds i true)) [oi] al w)(h2:WL P n l.toArray (Qrp N P l.toArray Q w fuel' (listed.setIfInBounds j true)) [oj] al w): WM N P n l.toArray Q fuel listed al w:=λC a D=>by
 subst hf;have J:l.toArray[i]?=some oi:=by rw [<-hi,Jxj];simp
 have G:l.toArray[j]?=some oj:=by rw [<-hj,Jxj];simp
 refine ⟨λh0=>(by rw [hr]at h0;cases h0),λk u=>?_⟩;have o:=u;rw [hr]at u;simp only [List.mem_cons,List.not_mem_nil,or_false]at u;rcases u with rfl|rfl
 ·exact Jdl J (C.step o) h1 a D
 ·exact Jdl G (C.step o) h2 a D
theorem Qmj{l:List Oper}{fuel fuel':Nat}{listed:Array Bool}(i:Nat){oi:Oper}(hr:Region.ready .any l.toArray listed=[i])(hf:fuel=fuel'+1)(hi:nth l i=some oi)(h1:WL P n l.toArray (Qrp N P l.toArray Q w fuel' (listed.setIfInBounds i true)) [oi] al w): WM N P n l.toArray Q fuel listed al w:=λu a C=>by
 subst hf;have D:l.toArray[i]?=some oi:=by rw [<-hi,Jxj];simp
 refine ⟨λh0=>(by rw [hr]at h0;cases h0),λk j=>?_⟩;have o:=j;rw [hr]at j;simp only [List.mem_cons,List.not_mem_nil,or_false]at j;subst j;exact Jdl D (u.step o) h1 a C
theorem Qbf{fuel:Nat}{listed listed':Array Bool}(e:listed=listed')(h:WM N P n ops Q fuel listed' al w): WM N P n ops Q fuel listed al w:=by subst e;exact h
theorem mcut{α:Type}{fuel:Nat}{L:Array Bool}(fuel':Nat)(L':Array Bool)(fr:α->AL)(I:α->World->Prop)(h2:∀ x w,I x w->WM N P n ops Q fuel' L' (fr x) w)(h1:(∀ x al w,I x w->Sub (fr x) al->WM N P n ops Q fuel' L' al w)->WM N P n ops Q fuel L al w): WM N P n ops Q fuel L al w:=h1 λx al w hi i=>(h2 x w hi).sub i
end
end Go.Wk
namespace Go.Wk
open Go.RowKit
theorem sl64{P:Program}{n:Nat}{al:AL}{w:World}{Q:Exit->Act->World->Prop}{ops:Array Oper}{rest:List Oper}{d ty:Nat}{pos:String}{aft:Array Edge}{y:Operand}{t yt:TypeId}{v:Nat}(hv:v<64)(kk:WL P n ops Q rest ((d,.int .u64 ((2^v:Nat):Int))::al) w)(hy:ev al y=some (.int .i64 (v:Int)):=by rfl)(hd:Nat.blt d n=true:=by rfl):
  WL P n ops Q (⟨some d,.binOp .shl t (.const (.int .u64 1)) y yt,ty,pos,aft,none⟩::rest) al w:=by
 have e:IntKind.u64.wrap (1*2^(min ((v:Nat):Int).toNat IntKind.u64.bits))=((2^v:Nat):Int):=by
  have h:2^v<18446744073709551616:=nM (Nat.pow_lt_pow_right (by decide:1<2) hv) (by decide);rw [Int.toNat_natCast,Nat.min_eq_left (by show v<=64;omega),Int.one_mul];have:((2:Int)^v)=((2^v:Nat):Int):=by simp
  rw [this,IntKind.wrap_u64];generalize 2^v=p at *
  omega
 rw [<-e]at kk;exact wop hd (λa i=>Jpx (x:=.const (.int .u64 1)) rfl hy (by omega) i (some d) w) kk
end Go.Wk
namespace Go.Proofs.YtefpailelagbkaaGreatDoor
open Go.RowKit Pl Go.Wk
attribute [local irreducible] WC WL QX WD WDB WP WN WG
def Uc(es:List Nat): List Value:=es.map fun (e:Nat)=>Value.int .u32 (e:Int)
theorem Qtb{es:List Nat}{i:Nat}(h:i<es.length): (Uc es)[i]?=some (.int .u32 (es.getD i 0:Int)):=by
 simp [Uc,List.getD,List.getElem?_eq_getElem h]
structure GrV(w:World)(A:Option Addr)(c n:Nat)(es:List Nat): Prop where
 rd:Rd w 1 A es.length (Uc es)
 cap:es.length<=c
 n32:n<=32
 few:es.length<=64
 lt:∀ e∈es,e<2^n
abbrev grC(A:Option Addr)(c n:Nat)(es:List Nat): List Value:=[.int .i64 (n:Int),.slice A es.length c]
theorem GrV.ext{w w':World}{A:Option Addr}{c n:Nat}{es:List Nat}(h:GrV w A c n es)(hx:Ext w w'): GrV w' A c n es:=⟨h.rd.ext hx,h.cap,h.n32,h.few,h.lt⟩
theorem Jyw{n:Nat}(h:n<=32): 2^n<=4294967296:=Nat.pow_le_pow_right (n:=2) (by decide) h
theorem GrV.lt32{w:World}{A:Option Addr}{c n:Nat}{es:List Nat}(h:GrV w A c n es){e:Nat}(he:e∈es): e<4294967296:=nM (h.lt e he) (Jyw h.n32)
theorem Qxx{n:Nat}(hn:n<=32)(w:World): Ret Tryz.prog 175 [.int .i64 (n:Int)] w λu w'=>u=.int .u32 ((2^n-1:Nat):Int)/\w'=w:=by
 have j:=Jyw hn;have i:0<2^n:=Nat.two_pow_pos n;refine Jjc Tryz.func175 Tryz.ntmps175 rfl (by kernel_rfl) rfl ?_;refine ρ ?_;refine sl64 (v:=n) (by omega) ?_;refine ρ ?_;refine Jjr ⟨?_,rfl⟩;generalize 2^n=p at *
 congr 1
 rw [IntKind.wrap_u64,IntKind.wrap_u32];omega
theorem Qls{e n:Nat}(h:e<2^n)(hn:n<=32): Qmk e (2^n-1)=0:=by
 have o:=Jyw hn;have j:0<2^n:=Nat.two_pow_pos n;apply Nat.eq_of_testBit_eq
 intro i;rw [Jsn (by omega) (by omega),Nat.testBit_two_pow_sub_one,Nat.zero_testBit];by_cases hi:i<n
 ·rw [decide_eq_true hi];simp
 ·rw [Nat.testBit_lt_two_pow (nM h (Nat.pow_le_pow_right (n:=2) (by decide) (by omega)))];rfl
theorem Jls{w:World}{A:Option Addr}{c n:Nat}{es:List Nat}(h:GrV w A c n es): Ret Tryz.prog 152 [.agg (grC A c n es).toArray] w λu w'=>u=.int .i64 0/\Ext w w':=by
 have hn:=h.n32;have hf:=h.few;refine Jjc Tryz.func152 Tryz.ntmps152 rfl (by kernel_rfl) rfl ?_;refine ρ ?_;refine bx (cs:=grC A c n es) ?_;intro Z b o hb C;refine ρ ?_;refine ld (C.at (i:=0) rfl) ?_;refine ρ ?_;refine ld (C.at (i:=0) rfl) ?_;refine ρ ?_;refine cf ?_ ?_
 ·exact dF (by omega)
 refine ρ ?_;refine ld (C.at (i:=1) rfl) ?_;refine ρ ?_;refine cf ?_ ?_
 ·exact dF (by omega)
 refine ρ ?_;refine ld (C.at (i:=1) rfl) ?_;refine ρ ?_;refine Jqw (fun (i:Nat)=>[(1,.pointer (some ⟨b,0,none⟩)),(18,.slice A es.length c),(19,.int .i64 (es.length:Int)),(20,.int .i64 (i:Int))])
  (λi w'=>i<=es.length/\Ext Z w') (λi=>es.length-i) 0 sB ⟨Nat.zero_le _,Ext.refl _⟩ ?_
 rintro i U ⟨hi,j⟩;have G:=C.ext j;have J:=h.ext (o.trans j);refine ρ ?_;refine ci (λh=>?_) (λh=>?_)
 ·have D:i<es.length:=by have:=oT h;omega
  clear h;have O:=getD_mem' 0 es D;refine ρ ?_;refine ix i J.rd D ?_;refine ρ ?_;refine ld (J.rd.cell (Qtb D)) ?_;refine ρ ?_;refine ld (G.at (i:=0) rfl) ?_;refine ρ ?_;refine cl (Qxx hn U) ?_;rintro u w3 ⟨rfl,rfl⟩;have hp:=Jyw hn;have a1:0<2^n:=Nat.two_pow_pos n;refine ρ ?_;refine cf ?_ ?_
  ·rw [Jcn (J.lt32 O) (by omega),Qls (h.lt _ O) hn];rfl
  refine ρ ?_;exact Jjx (i+1) sO ⟨by omega,j⟩ (by omega)
 refine ρ ?_;exact Jjr ⟨rfl,o.trans j⟩
def Jdv(a:Nat->Nat): List Value:=(List.range 32).map λv=>.int .u32 (a v:Int)
theorem Jxp(a:Nat->Nat): (Jdv a).length=32:=by simp [Jdv]
theorem Jkf{a:Nat->Nat}{v:Nat}(h:v<32): (Jdv a)[v]?=some (.int .u32 (a v:Int)):=by simp [Jdv,h]
theorem Jpv(a:Nat->Nat){v x:Nat}(h:v<32): (Jdv a).set v (.int .u32 (x:Int))=Jdv (upd a v x):=by
 apply List.ext_getElem?
 intro i;rw [List.getElem?_set];by_cases e:v=i
 ·subst e;rw [if_pos rfl,if_pos (by rw [Jxp];exact h),Jkf h,Jjl]
 ·rw [if_neg e];by_cases hi:i<32
  ·rw [Jkf hi,Jkf hi,Jjj _ _ (λj=>e j.symm)]
  ·simp [Jdv,hi]
theorem Jpw(a:Nat->Nat): ∀ u∈Jdv a,u.oneCell'=true:=λu i=>by obtain ⟨e,_,rfl⟩:=List.mem_map.1 i;rfl
theorem Qcx: Jxd Tryz.prog 192=some (.agg (Jdv λ_=>0).toArray):=by kernel_rfl
theorem Xzc: Jxd Tryz.prog 191=some (.agg (List.replicate 32 (Value.int .i64 0)).toArray):=by kernel_rfl
def AdjP(n:Nat)(es:List Nat)(a:Nat->Nat): Prop:=∀ v,v<32->a v<4294967296/\∀ x,(a v).testBit x=(decide (v<n) && (x != v) && es.any λe=>e.testBit v && e.testBit x)
theorem Jpn{v x:Nat}: (2^v).testBit x=decide (v=x):=Nat.testBit_two_pow
theorem Qhb{w:World}{A:Option Addr}{c n:Nat}{es:List Nat}(h:GrV w A c n es): Ret Tryz.prog 176 [.agg (grC A c n es).toArray] w λu w'=>Ext w w'/\∃ a,u=.agg (Jdv a).toArray/\AdjP n es a:=by
 have hn:=h.n32;have hf:=h.few;refine Jjc Tryz.func176 Tryz.ntmps176 rfl (by kernel_rfl) rfl ?_;refine ρ ?_;refine bx (cs:=grC A c n es) ?_;intro w1 b1 a4 ar af;refine ρ ?_;refine alc (cs:=Jdv λ_=>0) Qcx ?_;intro w2 b2 a2 aq an;refine ρ ?_;refine alc (cs:=Jdv λ_=>0) Qcx ?_;intro w3 b3 a8 ak am;have ao:=(a4.trans a2).trans a8;refine ρ ?_;refine ld (((af.ext a2).ext a8).at (i:=1) rfl) ?_;refine ρ ?_;refine Jqb (fun (i:Nat) (a:Nat->Nat)=>[(1,.pointer (some ⟨b1,0,none⟩)),(2,.pointer (some ⟨b2,0,none⟩)),(3,.pointer (some ⟨b3,0,none⟩)),(8,.slice A es.length c),(9,.int .i64 (es.length:Int)),(10,.int .i64 (i:Int))])
  (λi a w'=>i<=es.length/\Ext w2 w'/\Blk w' b3 192 (Jdv a)/\AdjP n (es.take i) a) (λi _=>es.length-i) 0 (λ_=>0) sB
  ⟨Nat.zero_le _,a8,am,λv _=>⟨by simp only;omega,λx=>by simp⟩⟩ ?_
 rintro i a w4 ⟨hi,a1,a7,ha⟩;have ae:=(af.ext a2).ext a1;have ad:=an.ext a1;have h4:=h.ext ((a4.trans a2).trans a1);refine ρ ?_;refine ci (λG=>?_) (λG=>?_)
 ·have li:i<es.length:=by have:=oT G;omega
  clear G;have hm:=getD_mem' 0 es li;have C:=h4.lt32 hm;obtain ⟨e,he⟩:∃ e,e=es.getD i 0:=⟨_,rfl⟩;refine ρ ?_;refine ix i h4.rd li ?_;refine ρ ?_;refine ld (h4.rd.cell (Qtb li)) ?_;rw [<-he]at hm C ⊢;refine ρ ?_;refine ld (ae.at (i:=0) rfl) ?_;refine ρ ?_;refine Jqb (fun (v:Nat) (U:Nat->Nat)=>[(1,.pointer (some ⟨b1,0,none⟩)),(2,.pointer (some ⟨b2,0,none⟩)),(3,.pointer (some ⟨b3,0,none⟩)),(8,.slice A es.length c),(9,.int .i64 (es.length:Int)),(10,.int .i64 (i:Int)),(5,.int .u32 (e:Int)),(15,.int .i64 (n:Int)),(16,.int .i64 (v:Int))])
   (λv U w'=>v<=n/\Ext w2 w'/\Blk w' b3 192 (Jdv U)/\∀ u,u<32->U u<4294967296/\∀ x,(U u).testBit x=((a u).testBit x || (decide (u<v) && e.testBit u && e.testBit x && (x != u)))) (λv _=>n-v) 0 a sB
   ⟨Nat.zero_le _,a1,a7,λu O=>⟨(ha u O).1,λx=>by simp⟩⟩ ?_
  rintro v U w5 ⟨hv,Z,a3,J⟩;refine ρ ?_;refine ci (λG=>?_) (λG=>?_)
  ·have lv:v<n:=by have:=oT G;omega
   have o:v<32:=by omega
   clear G;have a9:=J v o;have ag:=Jvl o;refine ρ ?_;refine Qrv (s:=e) (v:=v) (by omega) ?_;refine ρ ?_;refine ci (λG=>?_) (λG=>?_)
   ·rw [Jkh C]at G;have aa:Ext w5 w5.drew:=(Ext.refl w5).drew;have D:=a3.ext aa;refine ρ ?_;refine drN (λ_=>False) 10 [(0,0),(0,1),(0,2),(0,3),(0,4),(0,5),(0,6),(0,7),(0,8),(2,9)] (by kernel_rfl) ?_;refine ρn ?_;refine nixb v o ?_;refine ρn ?_;refine nld (Jjg (D.atc (Jkf o)) (λe=>e)) ?_;refine ρn ?_;refine Xjw o ?_;refine ρn ?_;refine nixb v o ?_;refine ρn ?_;refine Jzx ?_;refine sto (p:=⟨b3,v,none⟩) (D.cell v |>.trans (Jkf o)) (D.frozen _) ?_;have a5:=Qlt (t:=2^v) C;have ah:bits .or .u32 (U v:Int) (bits .andNot .u32 (e:Int) ((2^v:Nat):Int))=((U v ||| Qmk e (2^v):Nat):Int):=by
     rw [Jcn C ag,Jfn a9.1 a5]
    rw [ah];have a6:=D.set v (.int .u32 ((U v ||| Qmk e (2^v):Nat):Int));rw [Jpv U o]at a6;have ab:w2.heap.size<=b3:=ak;refine ω5 ?_;refine Jbv ?_;refine ρn ?_;refine ρ ?_;refine Jjm (v+1) (upd U v (U v ||| Qmk e (2^v))) sO ⟨by omega,(Z.trans aa).setCell ab _,a6,λu O=>?_⟩ (by omega);by_cases e1:u=v
    ·subst e1;rw [Jjl];refine ⟨Jrg a9.1 a5,λx=>?_⟩;rw [Nat.testBit_or,Jsn C ag,Jpn,a9.2,G,decide_eq_true (Nat.lt_succ_self u),decide_eq_false (Nat.lt_irrefl u)];by_cases e2:u=x
     ·subst e2;simp
     ·rw [decide_eq_false e2,bne_iff_ne.2 (λe'=>e2 e'.symm)];simp
    ·rw [Jjj _ _ e1];refine ⟨(J u O).1,λx=>?_⟩;rw [(J u O).2];have:decide (u<v+1)=decide (u<v):=decide_eq_decide.2 (by omega);rw [this]
   ·rw [Jkh C]at G;refine ρ ?_;refine Jjm (v+1) U sO ⟨by omega,Z,a3,λu O=>⟨(J u O).1,λx=>?_⟩⟩ (by omega);rw [(J u O).2];by_cases e1:u=v
    ·subst e1;rw [G];simp
    ·have:decide (u<v+1)=decide (u<v):=decide_eq_decide.2 (by omega);rw [this]
  ·have ai:v=n:=by have:=oF G;omega
   subst ai;clear G;refine ρ ?_;refine Jjm (i+1) U sO ⟨by omega,Z,a3,λu O=>⟨(J u O).1,λx=>?_⟩⟩ (by omega);rw [(J u O).2,(ha u O).2,Jjp 0 li,<-he,List.any_append];simp only [List.any_cons,List.any_nil,Bool.or_false];cases decide (u<v)<;>cases (x != u)<;>simp
 ·have aj:i=es.length:=by have:=oF G;omega
  subst aj;clear G;rw [List.take_length]at ha;refine ρ ?_;refine lda (cs:=Jdv a) (λj u O=>a7.at O) (Jxp a).symm ?_;refine ρ ?_;refine sta (cs':=Jdv a) ad ?_ (Jpw a) (by rw [Jxp,Jxp]) (Jxp a).symm;intro w5 ac ap Z;refine ρ ?_;exact Xww ac (Jxp a).symm ⟨Z w ((a4.trans a2).trans a1) (by have:=a4.size;omega),a,rfl,ha⟩
open Go.RowKit Pl Go.Wk
theorem Qgz{w:World}{A:Option Addr}{c n v:Nat}{es:List Nat}(h:GrV w A c n es)(hv:v<n): Ret Tryz.prog 153 [.agg (grC A c n es).toArray,.int .i64 (v:Int)] w λu w'=>Ext w w'/\∃ a,u=.int .u32 (a v:Int)/\AdjP n es a:=by
 have hn:=h.n32;refine Jjc Tryz.func153 Tryz.ntmps153 rfl (by kernel_rfl) rfl ?_;refine ρ ?_;refine bx (cs:=grC A c n es) ?_;intro w1 b C hb O;refine ρ ?_;refine lds (cs:=grC A c n es) (λj u J=>O.at J) ?_;refine ρ ?_;refine cl (Jls (h.ext C)) ?_;rintro u w2 ⟨rfl,o⟩;have D:=O.ext o;refine ρ ?_;refine ld (D.at (i:=0) rfl) ?_;refine ρ ?_;refine cf ?_ ?_
 ·exact dF (by omega)
 refine ρ ?_;refine lds (cs:=grC A c n es) (λj u J=>D.at J) ?_;refine ρ ?_;refine cl (Qhb (h.ext (C.trans o))) ?_;rintro u Z ⟨G,a,rfl,U⟩;refine ρ ?_;refine idx v (show v<32 by omega) (Jkf (show v<32 by omega)) ?_;refine ρ ?_;exact Jjr ⟨(C.trans o).trans G,a,rfl,U⟩
theorem Qhq{w:World}{A:Option Addr}{c n:Nat}{es:List Nat}(h:GrV w A c n es): Ret Tryz.prog 121 [.agg (grC A c n es).toArray] w λu w'=>Ext w w'/\∃ a,u=.agg (Jdv a).toArray/\AdjP n es a:=by
 have hn:=h.n32;refine Jjc Tryz.func121 Tryz.ntmps121 rfl (by kernel_rfl) rfl ?_;refine ρ ?_;refine bx (cs:=grC A c n es) ?_;intro w1 b1 a4 ag a9;refine ρ ?_;refine alc (cs:=Jdv λ_=>0) Qcx ?_;intro w2 b2 a1 af ad;refine ρ ?_;refine alc (cs:=Jdv λ_=>0) Qcx ?_;intro w3 b3 a3 ab ac;refine ρ ?_;refine ld (((a9.ext a1).ext a3).at (i:=0) rfl) ?_;refine ρ ?_;refine Jqb (fun (v:Nat) (a:Nat->Nat)=>[(1,.pointer (some ⟨b1,0,none⟩)),(2,.pointer (some ⟨b2,0,none⟩)),(3,.pointer (some ⟨b3,0,none⟩)),(6,.int .i64 (n:Int)),(7,.int .i64 (v:Int))])
  (λv a w'=>v<=n/\Ext w2 w'/\Blk w' b3 192 (Jdv a)/\∀ u,u<32->a u<4294967296/\∀ x,(a u).testBit x=(decide (u<v) && (x != u) && es.any λe=>e.testBit u && e.testBit x)) (λv _=>n-v) 0 (λ_=>0) sB
  ⟨Nat.zero_le _,a3,ac,λu J=>⟨by simp only;omega,λx=>by simp⟩⟩ ?_
 rintro v a w4 ⟨hv,G,Z,ha⟩;have a8:=(a9.ext a1).ext G;have a7:=ad.ext G;have O:=(a4.trans a1).trans G;refine ρ ?_;refine ci (λhc=>?_) (λhc=>?_)
 ·have lv:v<n:=by have:=oT hc;omega
  have o:v<32:=by omega
  clear hc;refine ρ ?_;refine lds (cs:=grC A c n es) (λj u J=>a8.at J) ?_;refine ρ ?_;refine cl (Qgz (h.ext O) lv) ?_;rintro u w5 ⟨D,a2,rfl,a5⟩;have C:=Z.ext D;refine ρ ?_;refine ixb v o ?_;refine ρ ?_;refine sto (p:=⟨b3,v,none⟩) (C.cell v |>.trans (Jkf o)) (C.frozen _) ?_;have U:=C.set v (.int .u32 ((a2 v:Nat):Int));rw [Jpv a o]at U;refine ρ ?_;refine Jjm (v+1) (upd a v (a2 v)) sO ⟨by omega,(G.trans D).setCell ab _,U,λu J=>?_⟩ (by omega);by_cases e:u=v
  ·subst e;rw [Jjl,decide_eq_true (Nat.lt_succ_self u)];refine ⟨(a5 u J).1,λx=>?_⟩;rw [(a5 u J).2,decide_eq_true lv]
  ·rw [Jjj _ _ e];refine ⟨(ha u J).1,λx=>?_⟩;have:decide (u<v+1)=decide (u<v):=decide_eq_decide.2 (by omega);rw [(ha u J).2,this]
 ·have aa:v=n:=by have:=oF hc;omega
  subst aa;clear hc;refine ρ ?_;refine lda (cs:=Jdv a) (λj u J=>Z.at J) (Jxp a).symm ?_;refine ρ ?_;refine sta (cs':=Jdv a) a7 ?_ (Jpw a) (by rw [Jxp,Jxp]) (Jxp a).symm;intro w5 a6 ae D;refine ρ ?_;exact Xww a6 (Jxp a).symm ⟨D w O (by have:=a4.size;omega),a,rfl,ha⟩
theorem Qbw{w:World}{A:Option Addr}{c n f:Nat}{es:List Nat}(h:GrV w A c n es)(hf:f<=n): Ret Tryz.prog 120 [.agg (grC A c n es).toArray,.int .i64 (f:Int)] w λu w'=>u=.int .i64 0/\Ext w w':=by
 have hn:=h.n32;refine Jjc Tryz.func120 Tryz.ntmps120 rfl (by kernel_rfl) rfl ?_;refine ρ ?_;refine bx (cs:=grC A c n es) ?_;intro U b C Z G;refine ρ ?_;refine lds (cs:=grC A c n es) (λj u J=>G.at J) ?_;refine ρ ?_;refine cl (Jls (h.ext C)) ?_;rintro u O ⟨rfl,o⟩;have D:=G.ext o;refine ρ ?_;refine ld (D.at (i:=0) rfl) ?_;refine ρ ?_;refine cf ?_ ?_
 ·exact dF (by omega)
 refine ρ ?_;exact Jjr ⟨rfl,C.trans o⟩
end Go.Proofs.YtefpailelagbkaaGreatDoor
namespace Go.Proofs.YtefpailelagbkaaGreatDoor
open Pl Go.Wk
def nb0(n:Nat)(es:List Nat)(u x:Nat): Bool:=decide (u<n) && (x != u) && es.any λe=>e.testBit u && e.testBit x
theorem Xyb{e n u:Nat}(he:e<2^n)(h:e.testBit u=true): u<n:=Jbj he h
theorem Jns{n:Nat}{es:List Nat}(he:∀ e∈es,e<2^n){u x:Nat}(h:nb0 n es u x=true): u<n/\x<n/\x≠u:=by
 simp only [nb0,Bool.and_eq_true,decide_eq_true_eq,bne_iff_ne,List.any_eq_true]at h;obtain ⟨⟨C,o⟩,e,i,_,j⟩:=h;exact ⟨C,Xyb (he e i) j,o⟩
theorem Qgj{n:Nat}{es:List Nat}(he:∀ e∈es,e<2^n): NbInv [] (nb0 n es):=by
 refine ⟨λu x _ _=>?_,λu x _ h=>⟨by simp,(Jns he h).2.2⟩⟩;rw [Bool.eq_iff_iff];have key:∀ u x,nb0 n es u x=true->nb0 n es x u=true:=λu x h=>by
  have i:=Jns he h;simp only [nb0,Bool.and_eq_true,decide_eq_true_eq,bne_iff_ne,List.any_eq_true]at h ⊢;obtain ⟨⟨_,_⟩,e,j,C,o⟩:=h;exact ⟨⟨i.2.1,λe=>i.2.2 e.symm⟩,e,j,o,C⟩
 exact ⟨key u x,key x u⟩
theorem Jtq: ∀ (k:Nat) {l:List Nat},l.Nodup->(∀ u∈l,u<k)->l.length<=k
 | 0,[],_,_=>Nat.le_refl _
 | 0,u::l,_,h=>absurd (h u (mC ..)) (by omega)
 | k+1,l,hn,h=>by
  have h1:=Jtq k (l:=l.filter λu=>u != k) (hn.sublist List.filter_sublist) (λu hu=>by
   obtain ⟨h2,h3⟩:=List.mem_filter.1 hu;have:=h u h2;have:u≠k:=bne_iff_ne.1 h3;omega)
  have h2:l.length<=(l.filter λu=>u != k).length+1:=by
   clear h h1;induction l with
   | nil=>simp
   | cons x l ih=>
    obtain ⟨h3,h4⟩:=List.nodup_cons.1 hn;by_cases e:x=k
    ·subst e;have e2:l.filter (λu=>u != x)=l:=List.filter_eq_self.2 λu hu=>bne_iff_ne.2 λe'=>h3 (by rw [<-e'];exact hu);rw [List.filter_cons_of_neg (by simp),e2,List.length_cons];omega
    ·rw [List.filter_cons_of_pos (p:=λu=>u != k) (bne_iff_ne.2 e),List.length_cons,List.length_cons];have:=ih h4;omega
  omega
theorem Qgg{l:List Nat}{k:Nat}(hn:l.Nodup)(hlt:∀ u∈l,u<k)(hlen:l.length=k){u:Nat}(hu:u<k): u∈l:=by
 refine Classical.byContradiction λh=>?_;have:=Jtq k (l:=u::l) (List.nodup_cons.2 ⟨h,hn⟩) (λx i=>by
  rcases List.mem_cons.1 i with rfl|i
  ·exact hu
  ·exact hlt x i)
 rw [List.length_cons]at this;omega
def Jzl(perm:List Nat)(f:Nat): List Nat:=perm++(List.range f).reverse
structure PermOk(n f:Nat)(perm:List Nat): Prop where
 fn:f<=n
 len:perm.length=n-f
 rng:∀ v∈perm,f<=v/\v<n
 nd:perm.Nodup
theorem PermOk.olen{n f:Nat}{perm:List Nat}(h:PermOk n f perm): (Jzl perm f).length=n:=by
 have:=h.len;have:=h.fn;simp [Jzl];omega
theorem PermOk.ond{n f:Nat}{perm:List Nat}(h:PermOk n f perm): (Jzl perm f).Nodup:=by
 refine List.nodup_append.2 ⟨h.nd,List.pairwise_reverse.2 (List.nodup_range.imp λh=>h.symm),λu j v i e=>?_⟩;have C:=(h.rng u j).1;have o:=List.mem_range.1 (List.mem_reverse.1 i);omega
theorem PermOk.olt{n f:Nat}{perm:List Nat}(h:PermOk n f perm){u:Nat}(hu:u∈Jzl perm f): u<n:=by
 rcases List.mem_append.1 hu with h1|h1
 ·exact (h.rng u h1).2
 ·have:=List.mem_range.1 (List.mem_reverse.1 h1);have:=h.fn;omega
theorem PermOk.omem{n f:Nat}{perm:List Nat}(h:PermOk n f perm){u:Nat}: u∈Jzl perm f↔u<n :=
 ⟨h.olt,λi=>Qgg h.ond (λ_=>h.olt) h.olen i⟩
theorem Qfv{ord:List Nat}(hn:ord.Nodup){i:Nat}(hi:i<ord.length): pre ord (ord.getD i 0)=ord.take i:=by
 have e:ord=ord.take i++ord.getD i 0::ord.drop (i+1):=by
  rw [Jjh 0 ord hi,<-List.drop_eq_getElem_cons hi,List.take_append_drop]
 have j:ord.getD i 0 ∉ ord.take i:=λo=>by
  rw [e,List.nodup_append]at hn;exact hn.2.2 _ o _ (mC ..) rfl
 have:=Jhz (r:=ord.drop (i+1)) j;rw [<-e]at this;exact this
def plc(ord:List Nat)(u:Nat): Nat:=(pre ord u).length
theorem Jlb{ord:List Nat}(hn:ord.Nodup){i:Nat}(hi:i<ord.length): plc ord (ord.getD i 0)=i:=by
 rw [plc,Qfv hn hi,List.length_take];omega
theorem Jyq{ord:List Nat}(hn:ord.Nodup){u:Nat}(hu:u∈ord): plc ord u<ord.length/\ord.getD (plc ord u) 0=u:=by
 obtain ⟨i,hi,e⟩:=List.getElem_of_mem hu;have j:=Jlb hn hi;rw [Jjh 0 ord hi,e]at j;rw [j];exact ⟨hi,by rw [Jjh 0 ord hi,e]⟩
theorem Jrn{ord:List Nat}(hn:ord.Nodup){v u:Nat}(hv:v∈ord)(hu:u∈ord): Xyr ord v u↔plc ord v<=plc ord u:=by
 obtain ⟨J,G⟩:=Jyq hn hv;obtain ⟨D,C⟩:=Jyq hn hu;have e:pre ord v=ord.take (plc ord v):=by have:=Qfv hn J;rw [G]at this;exact this
 unfold Xyr;rw [e];constructor
 ·intro h;rcases Nat.lt_or_ge (plc ord u) (plc ord v) with h5|h5
  ·exfalso
   apply h
   refine List.mem_iff_getElem.2 ⟨plc ord u,by rw [List.length_take];omega,?_⟩;rw [List.getElem_take,<-Jjh 0 ord D];exact C
  ·exact h5
 ·intro h i;obtain ⟨j,o,e⟩:=List.getElem_of_mem i;rw [List.length_take]at o;rw [List.getElem_take]at e;have:=Jlb hn (show j<ord.length by omega);rw [Jjh 0 ord (by omega),e]at this;omega
def Jxn(n:Nat)(f:Nat->List Value): List Value:=(List.range n).flatMap f
theorem Jkb(n:Nat)(f:Nat->List Value): Jxn (n+1) f=Jxn n f++f n:=by simp [Jxn,List.range_succ,List.flatMap_append]
theorem Jym{n sz:Nat}{f:Nat->List Value}(h:∀ i,i<n->(f i).length=sz): (Jxn n f).length=n*sz:=by
 induction n with
 | zero=>simp [Jxn]
 | succ n ih=>rw [Jkb,List.length_append,ih (λi hi=>h i (by omega)),h n (by omega),Nat.succ_mul]
theorem Jvq{n:Nat}{f g:Nat->List Value}(h:∀ i,i<n->f i=g i): Jxn n f=Jxn n g:=by
 induction n with
 | zero=>rfl
 | succ n ih=>rw [Jkb,Jkb,ih (λi hi=>h i (by omega)),h n (by omega)]
theorem Jwd{n sz:Nat}{f:Nat->List Value}(h:∀ i,i<n->(f i).length=sz){i j:Nat}(hi:i<n)(hj:j<sz): (Jxn n f)[i*sz+j]?=(f i)[j]?:=by
 induction n with
 | zero=>omega
 | succ n ih=>
  have o:=Jym (n:=n) (λi hi=>h i (by omega));rw [Jkb];by_cases e:i=n
  ·subst e;rw [List.getElem?_append_right (by omega),o,Nat.add_sub_cancel_left]
  ·have:i*sz+j<n*sz:=by
    have:(i+1)*sz<=n*sz:=nO _ (by omega);rw [Nat.succ_mul]at this;omega
   rw [List.getElem?_append_left (by omega)];exact ih (λi hi=>h i (by omega)) (by omega)
theorem Qhd{n sz:Nat}{f:Nat->List Value}(h:∀ i,i<n->(f i).length=sz){i:Nat}(hi:i<n){cs:List Value}(hc:cs.length=sz): (Jxn n f).take (i*sz)++cs++(Jxn n f).drop (i*sz+sz)=Jxn n (upd f i cs):=by
 induction n with
 | zero=>omega
 | succ n ih=>
  have u:=Jym (n:=n) (λi hi=>h i (by omega));have j:=h n (by omega);rw [Jkb,Jkb];by_cases e:i=n
  ·subst e;rw [List.take_append_of_le_length (by omega),List.take_of_length_le (by omega),List.drop_of_length_le (by rw [List.length_append];omega),List.append_nil,Jjl];congr 1
   exact Jvq λk C=>(Jjj _ _ (by omega)).symm
  ·have D:i*sz+sz<=n*sz:=by
    have:(i+1)*sz<=n*sz:=nO _ (by omega);rw [Nat.succ_mul]at this;exact this
   rw [List.take_append_of_le_length (by omega),List.drop_append_of_le_length (by omega),<-List.append_assoc,ih (λi hi=>h i (by omega)) (by omega),Jjj _ _ (λo=>e o.symm)]
end Go.Proofs.YtefpailelagbkaaGreatDoor
