/- Part 27 of the proof: RegT, Hg, El, ElP. -/
import Derived.Test.YtefpailelagbkaaGreatDoorC26
set_option linter.unusedVariables false
set_option maxRecDepth 100000
set_option maxHeartbeats 40000000
namespace Go.Wk
open Go.RowKit
section
variable {P:Program} {n:Nat} {al al':AL} {w:World} {Q:Exit->Act->World->Prop} {ops:Array Oper} {T:Nat->Bool}
def Qtc(P:Program)(ops:Array Oper)(Q:Exit->Act->World->Prop)(T:Nat->Bool)(i:Nat)(w0:World)(fuel:Nat)(listed:Array Bool): Exit->Act->World->Prop
 | .normal,a,w=>(T i=false->Ext w0 w)/\(Closed ops listed->Jwj P ops Q T fuel listed a w)
 | _,_,_=>False
theorem Jdl{i:Nat}{w0:World}{fuel:Nat}{listed:Array Bool}(hx:T i=false->Ext w0 w)(h:WH P n ops Q T fuel listed al w): QX n (Qtc P ops Q T i w0 fuel listed) .normal al w:=λa o=>⟨hx,λj=>h j a o⟩
theorem Jdv{i:Nat}{o:Oper}{fuel:Nat}{listed:Array Bool}(ho:ops[i]?=some o)(hc:Closed ops listed)(h:WL P n ops (Qtc P ops Q T i w fuel listed) [o] al w): ∀ a,Fr n al a->wpOp P ops (QF Q) i (λa' w'=>(T i=false->Ext w w')/\Jwj P ops Q T fuel listed a' w') a w:=λa J=>by
 have j:=h a J;unfold wpList at j;unfold wpOp;simp only [ho];have u:¬ LetsOut (Qtc P ops Q T i w fuel listed):=by rintro ⟨a,w,h⟩;exact h
 split
 .rename_i hw;simp only [hw,if_true]at j;rcases j with j|⟨_,j⟩
  .left
   refine Oper.wp_mono (K:=wpList P ops (Qtc P ops Q T i w fuel listed) []) (λa' w' G=>⟨G.1,G.2 hc⟩) ?_;unfold Oper.wp at j ⊢;exact Jxf (Q:=Qtc P ops Q T i w fuel listed) (λc a w C=>C.elim) (λC=>absurd C u) j
  .exact absurd j u
 .rename_i hw;simp only [hw]at j;exact ⟨j.1,j.2 hc⟩
theorem itwo{l:List Oper}{fuel fuel':Nat}{listed:Array Bool}(i j:Nat){oi oj:Oper}(hr:Region.ready .any l.toArray listed=[i,j])(hf:fuel=fuel'+1)(hi:nth l i=some oi)(hj:nth l j=some oj)(h1:WL P n l.toArray (Qtc P l.toArray Q T i w fuel' (listed.setIfInBounds i true)) [oi] al w)(h2:WL P n l.toArray (Qtc P l.toArray Q T j w fuel' (listed.setIfInBounds j true)) [oj] al w): WH P n l.toArray Q T fuel listed al w:=λC a G=>by
 subst hf;have O:l.toArray[i]?=some oi:=by rw [<-hi,Jxl];simp
 have J:l.toArray[j]?=some oj:=by rw [<-hj,Jxl];simp
 refine ⟨λh0=>(by rw [hr]at h0;cases h0),λk u=>?_⟩;have o:=u;rw [hr]at u;simp only [List.mem_cons,List.not_mem_nil,or_false]at u;rcases u with rfl|rfl
 .exact Jdv O (C.step o) h1 a G
 .exact Jdv J (C.step o) h2 a G
theorem Xvw{l:List Oper}{fuel fuel':Nat}{listed:Array Bool}(i:Nat){oi:Oper}(hr:Region.ready .any l.toArray listed=[i])(hf:fuel=fuel'+1)(hi:nth l i=some oi)(h1:WL P n l.toArray (Qtc P l.toArray Q T i w fuel' (listed.setIfInBounds i true)) [oi] al w): WH P n l.toArray Q T fuel listed al w:=λu a C=>by
 subst hf;have G:l.toArray[i]?=some oi:=by rw [<-hi,Jxl];simp
 refine ⟨λh0=>(by rw [hr]at h0;cases h0),λk j=>?_⟩;have o:=j;rw [hr]at j;simp only [List.mem_cons,List.not_mem_nil,or_false]at j;subst j;exact Jdv G (u.step o) h1 a C
theorem Qdz{l:List Oper}{fuel fuel':Nat}{listed:Array Bool}(i:Nat){oi:Oper}(hsel:Region.noSelect l.toArray=true)(hr:((Region.ready .any l.toArray listed).contains i && Region.free .any l.toArray listed i)=true)(hf:fuel=fuel'+1)(hi:nth l i=some oi)(h:WP P n l.toArray (Xqc P l.toArray Q T fuel' (listed.setIfInBounds i true)) [] [oi] al w): WH P n l.toArray Q T fuel listed al w:=λo a G=>by
 subst hf;simp only [Bool.and_eq_true]at hr;have j:i∈Region.ready .any l.toArray listed:=by simpa using hr.1
 have u:l.toArray[i]?=some oi:=by rw [<-hi,Jxl];simp
 unfold WP at h;obtain ⟨v,C,J⟩:=h a G;exact Jws (λ_ _=>True) (λ_=>trivial) (λ_ _=>trivial) u (Region.noSelect_spec hsel) (λ_ _ _ _ _ _ _ _=>trivial) _ listed a w o (Region.free_spec u hr.2) j C (J (o.step j))
end
section
variable {N:Nat->Prop} {P:Program} {n:Nat} {al al':AL} {w:World} {Q:Exit->Act->World->Prop} {ops:Array Oper}
def Jgm(ops:Array Oper): List (Nat×Nat)->Array Bool->Option (Array Bool)
 | [],listed=>some listed
 | (0,i)::r,listed=>if (Region.ready .any ops listed).contains i && Region.free .any ops listed i then Jgm ops r (listed.setIfInBounds i true) else none
 | (1,i)::r,listed=>if Region.ready .any ops listed == [i] then Jgm ops r (listed.setIfInBounds i true) else none
 | _::_,_=>none
def Xkc(N:Nat->Prop)(P:Program)(ops:Array Oper)(Q:Exit->Act->World->Prop)(fuel:Nat)(listed:Array Bool): Exit->Act->World->Prop
 | .normal,a,w=>Closed ops listed->Jyf N P ops Q noT fuel listed a w
 | _,_,_=>False
theorem Xzz{fuel:Nat}{listed:Array Bool}{o:Oper}{a:Act}{w:World}{K:Act->World->Prop}(h:o.wp P a w K (QF (Xkc N P ops Q fuel listed))): o.wp P a w K (QF Q):=by
 unfold Oper.wp at h ⊢;have i:¬ LetsOut (QF (Xkc N P ops Q fuel listed)):=by rintro ⟨a,w,h⟩;exact h
 exact Jxf (Q:=QF (Xkc N P ops Q fuel listed)) (λc a w j=>j.elim) (λj=>absurd j i) h
theorem Jks(hsel:Region.noSelect ops=true)(fuel:Nat)(listed':Array Bool): ∀ (s:List (Nat×Nat)) (listed:Array Bool) (a:Act) (w:World),Closed ops listed->Jgm ops s listed=some listed'->Jqr N P ops (Xkc N P ops Q fuel listed') (Jqt ops.toList s) a w->Jyf N P ops Q noT (s.length+fuel) listed a w
 | [],listed,a,w,hcl,hB,h=>by
  simp only [Jgm,Option.some.injEq]at hB;subst hB;simp only [List.length_nil,Nat.zero_add];exact h hcl
 | (0,i)::r,listed,a,w,hcl,hB,h=>by
  simp only [Jgm]at hB;split at hB
  .rename_i hc;simp only [Bool.and_eq_true]at hc;have hr':i∈Region.ready .any ops listed:=by simpa using hc.1
   obtain ⟨_,oi,ho,_⟩:=mem_ready.1 hr';have hn:nth ops.toList i=some oi:=by rw [Jxl];simpa using ho
   simp only [Jqt,hn,Jqr,Qfm]at h;obtain ⟨v,hy,h⟩:=h;have e:((0,i)::r).length+fuel=(r.length+fuel)+1:=by simp;omega
   rw [e];exact Jfx (GrN N) (GrN.refl N) (λh k=>GrN.trans h k) ho (Region.noSelect_spec hsel) (λ_ _ _ _ _ _ _ hg=>hg rfl) _ listed a w hcl (Region.free_spec ho hc.2) hr' hy (Jks hsel fuel listed' r _ _ _ (hcl.step hr') hB h)
  .cases hB
 | (1,i)::r,listed,a,w,hcl,hB,h=>by
  simp only [Jgm]at hB;split at hB
  .rename_i hc;have hc':Region.ready .any ops listed=[i]:=by simpa using hc
   have hr':i∈Region.ready .any ops listed:=by rw [hc'];exact List.mem_singleton.2 rfl
   obtain ⟨_,oi,ho,_⟩:=mem_ready.1 hr';have hn:nth ops.toList i=some oi:=by rw [Jxl];simpa using ho
   simp only [Jqt,hn,Jqr,Qfm]at h;have e:((1,i)::r).length+fuel=(r.length+fuel)+1:=by simp;omega
   rw [e];refine ⟨λh0=>(by rw [h0]at hr';cases hr'),λj hj=>?_⟩;rw [hc']at hj;obtain rfl:j=i:=by simpa using hj
   have hcl':=hcl.step hr';unfold wpOp;simp only [ho];split
   .rename_i hw;simp only [hw,if_true]at h;exact .inl (Oper.wp_mono (λa' w' h'=>⟨λ_=>h'.1,Jks hsel fuel listed' r _ _ _ hcl' hB h'.2⟩) (Xzz h))
   .rename_i hw;simp only [hw]at h;exact ⟨λ_=>GrN.refl N w,Jks hsel fuel listed' r _ _ _ hcl' hB h⟩
  .cases hB
 | (k+2,i)::r,listed,a,w,_,hB,_=>by simp [Jgm]at hB
def WM(N:Nat->Prop)(P:Program)(n:Nat)(ops:Array Oper)(Q:Exit->Act->World->Prop)(fuel:Nat)(listed:Array Bool)(al:AL)(w:World): Prop:=Closed ops listed->∀ a,Fr n al a->Jyf N P ops Q noT fuel listed a w
theorem WM.sub{fuel:Nat}{listed:Array Bool}(hs:Sub al' al)(h:WM N P n ops Q fuel listed al' w): WM N P n ops Q fuel listed al w:=λi a j=>h i a (j.sub hs)
theorem drM{tt:TT}[ht:Tab P tt]{id:Nat}{l:List Oper}(N:Nat->Prop)(h:WM N P n l.toArray Q l.toArray.size (Array.replicate l.toArray.size false) al w.drew): WC P n (.region id l.toArray true) Q al w:=λa i=>
 wp_region_any ht.mixed (Jdw (N:=N) (T:=noT) _ _ _ _ (h (Jnd _ _) a i))
theorem Qhv{l:List Oper}{fuel fuel':Nat}{listed:Array Bool}(s:List (Nat×Nat))(listed':Array Bool)(hsel:Region.noSelect l.toArray=true)(hB:Jgm l.toArray s listed=some listed')(hf:fuel=s.length+fuel')(h:WN N P n l.toArray (Xkc N P l.toArray Q fuel' listed') (Jqt l s) al w): WM N P n l.toArray Q fuel listed al w:=λi a j=>by
 subst hf;have o:=h a j;refine Jks hsel fuel' listed' s listed a w i hB ?_;simpa using o
theorem Jlv{fuel:Nat}{listed:Array Bool}(h:WM N P n ops Q fuel listed al w): QX n (Xkc N P ops Q fuel listed) .normal al w:=λa j i=>h i a j
theorem mend{listed:Array Bool}(hr:Region.ready .any ops listed=[])(h:QX n Q .normal al w): WM N P n ops Q 0 listed al w:=λ_ a i=>⟨hr,h a i⟩
def Qtb(N:Nat->Prop)(P:Program)(ops:Array Oper)(Q:Exit->Act->World->Prop)(w0:World)(fuel:Nat)(listed:Array Bool): Exit->Act->World->Prop
 | .normal,a,w=>GrN N w0 w/\(Closed ops listed->Jyf N P ops Q noT fuel listed a w)
 | _,_,_=>False
theorem Jxn{w0:World}{fuel:Nat}{listed:Array Bool}(hx:GrN N w0 w)(h:WM N P n ops Q fuel listed al w): QX n (Qtb N P ops Q w0 fuel listed) .normal al w:=λa j=>⟨hx,λi=>h i a j⟩
theorem Jdt{i:Nat}{o:Oper}{fuel:Nat}{listed:Array Bool}(ho:ops[i]?=some o)(hc:Closed ops listed)(h:WL P n ops (Qtb N P ops Q w fuel listed) [o] al w): ∀ a,Fr n al a->wpOp P ops (QF Q) i (λa' w'=>(noT i=false->GrN N w w')/\Jyf N P ops Q noT fuel listed a' w') a w:=λa J=>by
 have j:=h a J;unfold wpList at j;unfold wpOp;simp only [ho];have u:¬ LetsOut (Qtb N P ops Q w fuel listed):=by rintro ⟨a,w,h⟩;exact h
 split
 .rename_i hw;simp only [hw,if_true]at j;rcases j with j|⟨_,j⟩
  .left
   refine Oper.wp_mono (K:=wpList P ops (Qtb N P ops Q w fuel listed) []) (λa' w' G=>⟨λ_=>G.1,G.2 hc⟩) ?_;unfold Oper.wp at j ⊢;exact Jxf (Q:=Qtb N P ops Q w fuel listed) (λc a w C=>C.elim) (λC=>absurd C u) j
  .exact absurd j u
 .rename_i hw;simp only [hw]at j;exact ⟨λ_=>j.1,j.2 hc⟩
theorem Xkf{l:List Oper}{fuel fuel':Nat}{listed:Array Bool}(i j:Nat){oi oj:Oper}(hr:Region.ready .any l.toArray listed=[i,j])(hf:fuel=fuel'+1)(hi:nth l i=some oi)(hj:nth l j=some oj)(h1:WL P n l.toArray (Qtb N P l.toArray Q w fuel' (listed.setIfInBounds i true)) [oi] al w)(h2:WL P n l.toArray (Qtb N P l.toArray Q w fuel' (listed.setIfInBounds j true)) [oj] al w): WM N P n l.toArray Q fuel listed al w:=λC a G=>by
 subst hf;have O:l.toArray[i]?=some oi:=by rw [<-hi,Jxl];simp
 have J:l.toArray[j]?=some oj:=by rw [<-hj,Jxl];simp
 refine ⟨λh0=>(by rw [hr]at h0;cases h0),λk u=>?_⟩;have o:=u;rw [hr]at u;simp only [List.mem_cons,List.not_mem_nil,or_false]at u;rcases u with rfl|rfl
 .exact Jdt O (C.step o) h1 a G
 .exact Jdt J (C.step o) h2 a G
theorem Qzv{l:List Oper}{fuel fuel':Nat}{listed:Array Bool}(i:Nat){oi:Oper}(hr:Region.ready .any l.toArray listed=[i])(hf:fuel=fuel'+1)(hi:nth l i=some oi)(h1:WL P n l.toArray (Qtb N P l.toArray Q w fuel' (listed.setIfInBounds i true)) [oi] al w): WM N P n l.toArray Q fuel listed al w:=λu a C=>by
 subst hf;have G:l.toArray[i]?=some oi:=by rw [<-hi,Jxl];simp
 refine ⟨λh0=>(by rw [hr]at h0;cases h0),λk j=>?_⟩;have o:=j;rw [hr]at j;simp only [List.mem_cons,List.not_mem_nil,or_false]at j;subst j;exact Jdt G (u.step o) h1 a C
theorem Jsj{fuel:Nat}{listed listed':Array Bool}(e:listed=listed')(h:WM N P n ops Q fuel listed' al w): WM N P n ops Q fuel listed al w:=by subst e;exact h
theorem mcut{α:Type}{fuel:Nat}{L:Array Bool}(fuel':Nat)(L':Array Bool)(fr:α->AL)(I:α->World->Prop)(h2:∀ x w,I x w->WM N P n ops Q fuel' L' (fr x) w)(h1:(∀ x al w,I x w->Sub (fr x) al->WM N P n ops Q fuel' L' al w)->WM N P n ops Q fuel L al w): WM N P n ops Q fuel L al w:=h1 λx al w hi i=>(h2 x w hi).sub i
end
end Go.Wk
namespace Go.Wk
open Go.RowKit
theorem sl64{P:Program}{n:Nat}{al:AL}{w:World}{Q:Exit->Act->World->Prop}{ops:Array Oper}{rest:List Oper}{d ty:Nat}{pos:String}{aft:Array Edge}{y:Operand}{t yt:TypeId}{v:Nat}(hv:v<64)(kk:WL P n ops Q rest ((d,.int .u64 ((2^v:Nat):Int))::al) w)(hy:ev al y=some (.int .i64 (v:Int)):=by rfl)(hd:Nat.blt d n=true:=by rfl):
  WL P n ops Q (⟨some d,.binOp .shl t (.const (.int .u64 1)) y yt,ty,pos,aft,none⟩::rest) al w:=by
 have e:IntKind.u64.wrap (1*2^(min ((v:Nat):Int).toNat IntKind.u64.bits))=((2^v:Nat):Int):=by
  have h:2^v<18446744073709551616:=nM (Nat.pow_lt_pow_right (by decide:1<2) hv) (by decide);rw [Int.toNat_natCast,Nat.min_eq_left (by show v<=64;omega),Int.one_mul];have:((2:Int)^v)=((2^v:Nat):Int):=by simp
  rw [this,IntKind.wrap_u64];generalize 2^v=p at *
  omega
 rw [<-e]at kk;exact wop hd (λa i=>Jld (x:=.const (.int .u64 1)) rfl hy om i (some d) w) kk
end Go.Wk
namespace Go.Proofs.YtefpailelagbkaaGreatDoor
open Go.RowKit Pl Go.Wk
attribute [local irreducible] WC WL QX WD WDB WP WN WG
def Uc(es:List Nat): List Value:=es.map fun (e:Nat)=>Value.int .u32 (e:Int)
theorem Xjk{es:List Nat}{i:Nat}(h:i<es.length): (Uc es)[i]?=some (.int .u32 (es.getD i 0:Int)):=by
 simp [Uc,List.getD,List.getElem?_eq_getElem h]
structure GrV(w:World)(A:Option Addr)(c n:Nat)(es:List Nat): Prop where
 rd:Rd w 1 A es.length (Uc es)
 cap:es.length<=c
 n32:n<=32
 few:es.length<=64
 lt:∀ e∈es,e<2^n
abbrev grC(A:Option Addr)(c n:Nat)(es:List Nat): List Value:=[.int .i64 (n:Int),.slice A es.length c]
theorem GrV.ext{w w':World}{A:Option Addr}{c n:Nat}{es:List Nat}(h:GrV w A c n es)(hx:Ext w w'): GrV w' A c n es:=⟨h.rd.ext hx,h.cap,h.n32,h.few,h.lt⟩
theorem Jbc{n:Nat}(h:n<=32): 2^n<=4294967296:=Nat.pow_le_pow_right (n:=2) (by decide) h
theorem GrV.lt32{w:World}{A:Option Addr}{c n:Nat}{es:List Nat}(h:GrV w A c n es){e:Nat}(he:e∈es): e<4294967296:=nM (h.lt e he) (Jbc h.n32)
theorem Qkg{n:Nat}(hn:n<=32)(w:World): Ret Tryz.prog 175 [.int .i64 (n:Int)] w λu w'=>u=.int .u32 ((2^n-1:Nat):Int)/\w'=w:=by
 have j:=Jbc hn;have i:0<2^n:=Nat.two_pow_pos n;refine Jjc Tryz.func175 Tryz.ntmps175 rfl kr rfl ?_;refine ρ ?_;refine sl64 (v:=n) om ?_;refine ρ ?_;refine Jjq ⟨?_,rfl⟩;generalize 2^n=p at *
 congr 1
 rw [IntKind.wrap_u64,IntKind.wrap_u32];omega
theorem Qnd{e n:Nat}(h:e<2^n)(hn:n<=32): Qnr e (2^n-1)=0:=by
 have o:=Jbc hn;have j:0<2^n:=Nat.two_pow_pos n;apply Nat.eq_of_testBit_eq
 intro i;rw [Jtm om om,Nat.testBit_two_pow_sub_one,Nat.zero_testBit];by_cases hi:i<n
 .rw [decide_eq_true hi];simp
 .rw [Nat.testBit_lt_two_pow (nM h (Nat.pow_le_pow_right (n:=2) (by decide) om))];rfl
theorem Jmj{w:World}{A:Option Addr}{c n:Nat}{es:List Nat}(h:GrV w A c n es): Ret Tryz.prog 152 [.agg (grC A c n es).toArray] w λu w'=>u=.int .i64 0/\Ext w w':=by
 have hn:=h.n32;have hf:=h.few;refine Jjc Tryz.func152 Tryz.ntmps152 rfl kr rfl ?_;refine ρ ?_;refine bx (cs:=grC A c n es) ?_;intro w1 b o hb C;refine ρ ?_;refine ld (C.at (i:=0) rfl) ?_;refine ρ ?_;refine ld (C.at (i:=0) rfl) ?_;refine ρ ?_;refine cf ?_ ?_
 .exact dF om
 refine ρ ?_;refine ld (C.at (i:=1) rfl) ?_;refine ρ ?_;refine cf ?_ ?_
 .exact dF om
 refine ρ ?_;refine ld (C.at (i:=1) rfl) ?_;refine ρ ?_;refine Jqq (fun (i:Nat)=>[(1,.pointer (some ⟨b,0,none⟩)),(18,.slice A es.length c),(19,.int .i64 (es.length:Int)),(20,.int .i64 (i:Int))])
  (λi w'=>i<=es.length/\Ext w1 w') (λi=>es.length-i) 0 sB ⟨Nat.zero_le _,Ext.refl _⟩ ?_
 rintro i Z ⟨hi,j⟩;have J:=C.ext j;have O:=h.ext (o.trans j);refine ρ ?_;refine ci (λh=>?_) (λh=>?_)
 .have G:i<es.length:=by have:=oT h;omega
  clear h;have U:=getD_mem' 0 es G;refine ρ ?_;refine ix i O.rd G ?_;refine ρ ?_;refine ld (O.rd.cell (Xjk G)) ?_;refine ρ ?_;refine ld (J.at (i:=0) rfl) ?_;refine ρ ?_;refine cl (Qkg hn Z) ?_;rintro u w3 ⟨rfl,rfl⟩;have hp:=Jbc hn;have a1:0<2^n:=Nat.two_pow_pos n;refine ρ ?_;refine cf ?_ ?_
  .rw [Jct (O.lt32 U) om,Qnd (h.lt _ U) hn];rfl
  refine ρ ?_;exact Jjv (i+1) sO ⟨om,j⟩ om
 refine ρ ?_;exact Jjq ⟨rfl,o.trans j⟩
def Jff(a:Nat->Nat): List Value:=(List.range 32).map λv=>.int .u32 (a v:Int)
theorem Jxr(a:Nat->Nat): (Jff a).length=32:=by simp [Jff]
theorem Jkk{a:Nat->Nat}{v:Nat}(h:v<32): (Jff a)[v]?=some (.int .u32 (a v:Int)):=by simp [Jff,h]
theorem Jrv(a:Nat->Nat){v x:Nat}(h:v<32): (Jff a).set v (.int .u32 (x:Int))=Jff (upd a v x):=by
 apply List.ext_getElem?
 intro i;rw [List.getElem?_set];by_cases e:v=i
 .subst e;rw [if_pos rfl,if_pos (by rw [Jxr];exact h),Jkk h,Jjp]
 .rw [if_neg e];by_cases hi:i<32
  .rw [Jkk hi,Jkk hi,Jjl _ _ (λj=>e j.symm)]
  .simp [Jff,hi]
theorem Jrw(a:Nat->Nat): ∀ u∈Jff a,u.oneCell'=true:=λu i=>by obtain ⟨e,_,rfl⟩:=List.mem_map.1 i;rfl
theorem Qff: Jxd Tryz.prog 192=some (.agg (Jff λ_=>0).toArray):=kr
theorem Xkk: Jxd Tryz.prog 191=some (.agg (List.replicate 32 (Value.int .i64 0)).toArray):=kr
def AdjP(n:Nat)(es:List Nat)(a:Nat->Nat): Prop:=∀ v,v<32->a v<4294967296/\∀ x,(a v).testBit x=(decide (v<n) && (x != v) && es.any λe=>e.testBit v && e.testBit x)
theorem Jrn{v x:Nat}: (2^v).testBit x=decide (v=x):=Nat.testBit_two_pow
theorem Qlm{w:World}{A:Option Addr}{c n:Nat}{es:List Nat}(h:GrV w A c n es): Ret Tryz.prog 176 [.agg (grC A c n es).toArray] w λu w'=>Ext w w'/\∃ a,u=.agg (Jff a).toArray/\AdjP n es a:=by
 have hn:=h.n32;have hf:=h.few;refine Jjc Tryz.func176 Tryz.ntmps176 rfl kr rfl ?_;refine ρ ?_;refine bx (cs:=grC A c n es) ?_;intro w1 b1 a5 au ag;refine ρ ?_;refine alc (cs:=Jff λ_=>0) Qff ?_;intro w2 b2 a3 ar ao;refine ρ ?_;refine alc (cs:=Jff λ_=>0) Qff ?_;intro w3 b3 a9 am an;have ap:=(a5.trans a3).trans a9;refine ρ ?_;refine ld (((ag.ext a3).ext a9).at (i:=1) rfl) ?_;refine ρ ?_;refine Jjt (fun (i:Nat) (a:Nat->Nat)=>[(1,.pointer (some ⟨b1,0,none⟩)),(2,.pointer (some ⟨b2,0,none⟩)),(3,.pointer (some ⟨b3,0,none⟩)),(8,.slice A es.length c),(9,.int .i64 (es.length:Int)),(10,.int .i64 (i:Int))])
  (λi a w'=>i<=es.length/\Ext w2 w'/\Blk w' b3 192 (Jff a)/\AdjP n (es.take i) a) (λi _=>es.length-i) 0 (λ_=>0) sB
  ⟨Nat.zero_le _,a9,an,λv _=>⟨by simp only;omega,λx=>by simp⟩⟩ ?_
 rintro i a w4 ⟨hi,a2,a8,ha⟩;have af:=(ag.ext a3).ext a2;have ae:=ao.ext a2;have h4:=h.ext ((a5.trans a3).trans a2);refine ρ ?_;refine ci (λJ=>?_) (λJ=>?_)
 .have li:i<es.length:=by have:=oT J;omega
  clear J;have hm:=getD_mem' 0 es li;have C:=h4.lt32 hm;obtain ⟨e,he⟩:∃ e,e=es.getD i 0:=⟨_,rfl⟩;refine ρ ?_;refine ix i h4.rd li ?_;refine ρ ?_;refine ld (h4.rd.cell (Xjk li)) ?_;rw [<-he]at hm C ⊢;refine ρ ?_;refine ld (af.at (i:=0) rfl) ?_;refine ρ ?_;refine Jjt (fun (v:Nat) (Z:Nat->Nat)=>[(1,.pointer (some ⟨b1,0,none⟩)),(2,.pointer (some ⟨b2,0,none⟩)),(3,.pointer (some ⟨b3,0,none⟩)),(8,.slice A es.length c),(9,.int .i64 (es.length:Int)),(10,.int .i64 (i:Int)),(5,.int .u32 (e:Int)),(15,.int .i64 (n:Int)),(16,.int .i64 (v:Int))])
   (λv Z w'=>v<=n/\Ext w2 w'/\Blk w' b3 192 (Jff Z)/\∀ u,u<32->Z u<4294967296/\∀ x,(Z u).testBit x=((a u).testBit x || (decide (u<v) && e.testBit u && e.testBit x && (x != u)))) (λv _=>n-v) 0 a sB
   ⟨Nat.zero_le _,a2,a8,λu U=>⟨(ha u U).1,λx=>by simp⟩⟩ ?_
  rintro v Z w5 ⟨hv,a1,a4,O⟩;refine ρ ?_;refine ci (λJ=>?_) (λJ=>?_)
  .have lv:v<n:=by have:=oT J;omega
   have o:v<32:=om
   clear J;have aa:=O v o;have ah:=Jkv o;refine ρ ?_;refine Qth (s:=e) (v:=v) om ?_;refine ρ ?_;refine ci (λJ=>?_) (λJ=>?_)
   .rw [Jzx C]at J;have ab:Ext w5 w5.drew:=(Ext.refl w5).drew;have G:=a4.ext ab;refine ρ ?_;refine drN (λ_=>False) 10 [(0,0),(0,1),(0,2),(0,3),(0,4),(0,5),(0,6),(0,7),(0,8),(2,9)] kr ?_;refine ρn ?_;refine nixb v o ?_;refine ρn ?_;refine nld (Jjg (G.atc (Jkk o)) (λe=>e)) ?_;refine ρn ?_;refine Xxh o ?_;refine ρn ?_;refine nixb v o ?_;refine ρn ?_;refine Jkf ?_;refine sto (p:=⟨b3,v,none⟩) (G.cell v |>.trans (Jkk o)) (G.frozen _) ?_;have a6:=Qnf (t:=2^v) C;have ai:bits .or .u32 (Z v:Int) (bits .andNot .u32 (e:Int) ((2^v:Nat):Int))=((Z v ||| Qnr e (2^v):Nat):Int):=by
     rw [Jct C ah,Jcs aa.1 a6]
    rw [ai];have a7:=G.set v (.int .u32 ((Z v ||| Qnr e (2^v):Nat):Int));rw [Jrv Z o]at a7;have ac:w2.heap.size<=b3:=am;refine ω5 ?_;refine Jcb ?_;refine ρn ?_;refine ρ ?_;refine Jjj (v+1) (upd Z v (Z v ||| Qnr e (2^v))) sO ⟨om,(a1.trans ab).setCell ac _,a7,λu U=>?_⟩ om;by_cases e1:u=v
    .subst e1;rw [Jjp];refine ⟨Jsf aa.1 a6,λx=>?_⟩;rw [Nat.testBit_or,Jtm C ah,Jrn,aa.2,J,decide_eq_true (Nat.lt_succ_self u),decide_eq_false (Nat.lt_irrefl u)];by_cases e2:u=x
     .subst e2;simp
     .rw [decide_eq_false e2,bne_iff_ne.2 (λe'=>e2 e'.symm)];simp
    .rw [Jjl _ _ e1];refine ⟨(O u U).1,λx=>?_⟩;rw [(O u U).2];have:decide (u<v+1)=decide (u<v):=decide_eq_decide.2 om;rw [this]
   .rw [Jzx C]at J;refine ρ ?_;refine Jjj (v+1) Z sO ⟨om,a1,a4,λu U=>⟨(O u U).1,λx=>?_⟩⟩ om;rw [(O u U).2];by_cases e1:u=v
    .subst e1;rw [J];simp
    .have:decide (u<v+1)=decide (u<v):=decide_eq_decide.2 om;rw [this]
  .have aj:v=n:=by have:=oF J;omega
   subst aj;clear J;refine ρ ?_;refine Jjj (i+1) Z sO ⟨om,a1,a4,λu U=>⟨(O u U).1,λx=>?_⟩⟩ om;rw [(O u U).2,(ha u U).2,Jjm 0 li,<-he,List.any_append];simp only [List.any_cons,List.any_nil,Bool.or_false];cases decide (u<v)<;>cases (x != u)<;>simp
 .have ak:i=es.length:=by have:=oF J;omega
  subst ak;clear J;rw [List.take_length]at ha;refine ρ ?_;refine lda (cs:=Jff a) (λj u U=>a8.at U) (Jxr a).symm ?_;refine ρ ?_;refine sta (cs':=Jff a) ae ?_ (Jrw a) (by rw [Jxr,Jxr]) (Jxr a).symm;intro w5 ad aq a1;refine ρ ?_;exact Xyf ad (Jxr a).symm ⟨a1 w ((a5.trans a3).trans a2) (by have:=a5.size;omega),a,rfl,ha⟩
open Go.RowKit Pl Go.Wk
theorem Qll{w:World}{A:Option Addr}{c n v:Nat}{es:List Nat}(h:GrV w A c n es)(hv:v<n): Ret Tryz.prog 153 [.agg (grC A c n es).toArray,.int .i64 (v:Int)] w λu w'=>Ext w w'/\∃ a,u=.int .u32 (a v:Int)/\AdjP n es a:=by
 have hn:=h.n32;refine Jjc Tryz.func153 Tryz.ntmps153 rfl kr rfl ?_;refine ρ ?_;refine bx (cs:=grC A c n es) ?_;intro w1 b C hb U;refine ρ ?_;refine lds (cs:=grC A c n es) (λj u O=>U.at O) ?_;refine ρ ?_;refine cl (Jmj (h.ext C)) ?_;rintro u w2 ⟨rfl,o⟩;have G:=U.ext o;refine ρ ?_;refine ld (G.at (i:=0) rfl) ?_;refine ρ ?_;refine cf ?_ ?_
 .exact dF om
 refine ρ ?_;refine lds (cs:=grC A c n es) (λj u O=>G.at O) ?_;refine ρ ?_;refine cl (Qlm (h.ext (C.trans o))) ?_;rintro u w3 ⟨J,a,rfl,Z⟩;refine ρ ?_;refine idx v (show v<32 by omega) (Jkk (show v<32 by omega)) ?_;refine ρ ?_;exact Jjq ⟨(C.trans o).trans J,a,rfl,Z⟩
theorem Qmb{w:World}{A:Option Addr}{c n:Nat}{es:List Nat}(h:GrV w A c n es): Ret Tryz.prog 121 [.agg (grC A c n es).toArray] w λu w'=>Ext w w'/\∃ a,u=.agg (Jff a).toArray/\AdjP n es a:=by
 have hn:=h.n32;refine Jjc Tryz.func121 Tryz.ntmps121 rfl kr rfl ?_;refine ρ ?_;refine bx (cs:=grC A c n es) ?_;intro w1 b1 a5 ah aa;refine ρ ?_;refine alc (cs:=Jff λ_=>0) Qff ?_;intro w2 b2 a3 ag ae;refine ρ ?_;refine alc (cs:=Jff λ_=>0) Qff ?_;intro w3 b3 a4 ac ad;refine ρ ?_;refine ld (((aa.ext a3).ext a4).at (i:=0) rfl) ?_;refine ρ ?_;refine Jjt (fun (v:Nat) (a:Nat->Nat)=>[(1,.pointer (some ⟨b1,0,none⟩)),(2,.pointer (some ⟨b2,0,none⟩)),(3,.pointer (some ⟨b3,0,none⟩)),(6,.int .i64 (n:Int)),(7,.int .i64 (v:Int))])
  (λv a w'=>v<=n/\Ext w2 w'/\Blk w' b3 192 (Jff a)/\∀ u,u<32->a u<4294967296/\∀ x,(a u).testBit x=(decide (u<v) && (x != u) && es.any λe=>e.testBit u && e.testBit x)) (λv _=>n-v) 0 (λ_=>0) sB
  ⟨Nat.zero_le _,a4,ad,λu O=>⟨by simp only;omega,λx=>by simp⟩⟩ ?_
 rintro v a w4 ⟨hv,J,a1,ha⟩;have a9:=(aa.ext a3).ext J;have a8:=ae.ext J;have U:=(a5.trans a3).trans J;refine ρ ?_;refine ci (λhc=>?_) (λhc=>?_)
 .have lv:v<n:=by have:=oT hc;omega
  have o:v<32:=om
  clear hc;refine ρ ?_;refine lds (cs:=grC A c n es) (λj u O=>a9.at O) ?_;refine ρ ?_;refine cl (Qll (h.ext U) lv) ?_;rintro u w5 ⟨G,a2,rfl,a6⟩;have C:=a1.ext G;refine ρ ?_;refine ixb v o ?_;refine ρ ?_;refine sto (p:=⟨b3,v,none⟩) (C.cell v |>.trans (Jkk o)) (C.frozen _) ?_;have Z:=C.set v (.int .u32 ((a2 v:Nat):Int));rw [Jrv a o]at Z;refine ρ ?_;refine Jjj (v+1) (upd a v (a2 v)) sO ⟨om,(J.trans G).setCell ac _,Z,λu O=>?_⟩ om;by_cases e:u=v
  .subst e;rw [Jjp,decide_eq_true (Nat.lt_succ_self u)];refine ⟨(a6 u O).1,λx=>?_⟩;rw [(a6 u O).2,decide_eq_true lv]
  .rw [Jjl _ _ e];refine ⟨(ha u O).1,λx=>?_⟩;have:decide (u<v+1)=decide (u<v):=decide_eq_decide.2 om;rw [(ha u O).2,this]
 .have ab:v=n:=by have:=oF hc;omega
  subst ab;clear hc;refine ρ ?_;refine lda (cs:=Jff a) (λj u O=>a1.at O) (Jxr a).symm ?_;refine ρ ?_;refine sta (cs':=Jff a) a8 ?_ (Jrw a) (by rw [Jxr,Jxr]) (Jxr a).symm;intro w5 a7 af G;refine ρ ?_;exact Xyf a7 (Jxr a).symm ⟨G w U (by have:=a5.size;omega),a,rfl,ha⟩
theorem Qdf{w:World}{A:Option Addr}{c n f:Nat}{es:List Nat}(h:GrV w A c n es)(hf:f<=n): Ret Tryz.prog 120 [.agg (grC A c n es).toArray,.int .i64 (f:Int)] w λu w'=>u=.int .i64 0/\Ext w w':=by
 have hn:=h.n32;refine Jjc Tryz.func120 Tryz.ntmps120 rfl kr rfl ?_;refine ρ ?_;refine bx (cs:=grC A c n es) ?_;intro Z b C hb J;refine ρ ?_;refine lds (cs:=grC A c n es) (λj u O=>J.at O) ?_;refine ρ ?_;refine cl (Jmj (h.ext C)) ?_;rintro u U ⟨rfl,o⟩;have G:=J.ext o;refine ρ ?_;refine ld (G.at (i:=0) rfl) ?_;refine ρ ?_;refine cf ?_ ?_
 .exact dF om
 refine ρ ?_;exact Jjq ⟨rfl,C.trans o⟩
end Go.Proofs.YtefpailelagbkaaGreatDoor
namespace Go.Proofs.YtefpailelagbkaaGreatDoor
open Pl Go.Wk
def nb0(n:Nat)(es:List Nat)(u x:Nat): Bool:=decide (u<n) && (x != u) && es.any λe=>e.testBit u && e.testBit x
theorem Xbk{e n u:Nat}(he:e<2^n)(h:e.testBit u=true): u<n:=Jbm he h
theorem Jpn{n:Nat}{es:List Nat}(he:∀ e∈es,e<2^n){u x:Nat}(h:nb0 n es u x=true): u<n/\x<n/\x≠u:=by
 simp only [nb0,Bool.and_eq_true,decide_eq_true_eq,bne_iff_ne,List.any_eq_true]at h;obtain ⟨⟨C,o⟩,e,i,_,j⟩:=h;exact ⟨C,Xbk (he e i) j,o⟩
theorem Qhs{n:Nat}{es:List Nat}(he:∀ e∈es,e<2^n): NbInv [] (nb0 n es):=by
 refine ⟨λu x _ _=>?_,λu x _ h=>⟨by simp,(Jpn he h).2.2⟩⟩;rw [Bool.eq_iff_iff];have key:∀ u x,nb0 n es u x=true->nb0 n es x u=true:=λu x h=>by
  have i:=Jpn he h;simp only [nb0,Bool.and_eq_true,decide_eq_true_eq,bne_iff_ne,List.any_eq_true]at h ⊢;obtain ⟨⟨_,_⟩,e,j,C,o⟩:=h;exact ⟨⟨i.2.1,λe=>i.2.2 e.symm⟩,e,j,o,C⟩
 exact ⟨key u x,key x u⟩
theorem Qjv: ∀ (k:Nat) {l:List Nat},l.Nodup->(∀ u∈l,u<k)->l.length<=k
 | 0,[],_,_=>Nat.le_refl _
 | 0,u::l,_,h=>absurd (h u (mC ..)) om
 | k+1,l,hn,h=>by
  have h1:=Qjv k (l:=l.filter λu=>u != k) (hn.sublist List.filter_sublist) (λu hu=>by
   obtain ⟨h2,h3⟩:=List.mem_filter.1 hu;have:=h u h2;have:u≠k:=bne_iff_ne.1 h3;omega)
  have h2:l.length<=(l.filter λu=>u != k).length+1:=by
   clear h h1;induction l with
   | nil=>simp
   | cons x l ih=>
    obtain ⟨h3,h4⟩:=List.nodup_cons.1 hn;by_cases e:x=k
    .subst e;have e2:l.filter (λu=>u != x)=l:=List.filter_eq_self.2 λu hu=>bne_iff_ne.2 λe'=>h3 (by rw [<-e'];exact hu);rw [List.filter_cons_of_neg (by simp),e2,List.length_cons];omega
    .rw [List.filter_cons_of_pos (p:=λu=>u != k) (bne_iff_ne.2 e),List.length_cons,List.length_cons];have:=ih h4;omega
  omega
theorem Qhq{l:List Nat}{k:Nat}(hn:l.Nodup)(hlt:∀ u∈l,u<k)(hlen:l.length=k){u:Nat}(hu:u<k): u∈l:=by
 refine Classical.byContradiction λh=>?_;have:=Qjv k (l:=u::l) (List.nodup_cons.2 ⟨h,hn⟩) (λx i=>by
  rcases List.mem_cons.1 i with rfl|i
  .exact hu
  .exact hlt x i)
 rw [List.length_cons]at this;omega
def Jzq(perm:List Nat)(f:Nat): List Nat:=perm++(List.range f).reverse
structure PermOk(n f:Nat)(perm:List Nat): Prop where
 fn:f<=n
 len:perm.length=n-f
 rng:∀ v∈perm,f<=v/\v<n
 nd:perm.Nodup
theorem PermOk.olen{n f:Nat}{perm:List Nat}(h:PermOk n f perm): (Jzq perm f).length=n:=by
 have:=h.len;have:=h.fn;simp [Jzq];omega
theorem PermOk.ond{n f:Nat}{perm:List Nat}(h:PermOk n f perm): (Jzq perm f).Nodup:=by
 refine List.nodup_append.2 ⟨h.nd,List.pairwise_reverse.2 (List.nodup_range.imp λh=>h.symm),λu j v i e=>?_⟩;have C:=(h.rng u j).1;have o:=List.mem_range.1 (List.mem_reverse.1 i);omega
theorem PermOk.olt{n f:Nat}{perm:List Nat}(h:PermOk n f perm){u:Nat}(hu:u∈Jzq perm f): u<n:=by
 rcases List.mem_append.1 hu with h1|h1
 .exact (h.rng u h1).2
 .have:=List.mem_range.1 (List.mem_reverse.1 h1);have:=h.fn;omega
theorem PermOk.omem{n f:Nat}{perm:List Nat}(h:PermOk n f perm){u:Nat}: u∈Jzq perm f↔u<n :=
 ⟨h.olt,λi=>Qhq h.ond (λ_=>h.olt) h.olen i⟩
theorem Qhf{ord:List Nat}(hn:ord.Nodup){i:Nat}(hi:i<ord.length): pre ord (ord.getD i 0)=ord.take i:=by
 have e:ord=ord.take i++ord.getD i 0::ord.drop (i+1):=by
  rw [Jjh 0 ord hi,<-List.drop_eq_getElem_cons hi,List.take_append_drop]
 have j:ord.getD i 0 ∉ ord.take i:=λo=>by
  rw [e,List.nodup_append]at hn;exact hn.2.2 _ o _ (mC ..) rfl
 have:=Jln (r:=ord.drop (i+1)) j;rw [<-e]at this;exact this
def plc(ord:List Nat)(u:Nat): Nat:=(pre ord u).length
theorem Jlp{ord:List Nat}(hn:ord.Nodup){i:Nat}(hi:i<ord.length): plc ord (ord.getD i 0)=i:=by
 rw [plc,Qhf hn hi,List.length_take];omega
theorem Jyv{ord:List Nat}(hn:ord.Nodup){u:Nat}(hu:u∈ord): plc ord u<ord.length/\ord.getD (plc ord u) 0=u:=by
 obtain ⟨i,hi,e⟩:=List.getElem_of_mem hu;have j:=Jlp hn hi;rw [Jjh 0 ord hi,e]at j;rw [j];exact ⟨hi,by rw [Jjh 0 ord hi,e]⟩
theorem Jsm{ord:List Nat}(hn:ord.Nodup){v u:Nat}(hv:v∈ord)(hu:u∈ord): Xbx ord v u↔plc ord v<=plc ord u:=by
 obtain ⟨O,J⟩:=Jyv hn hv;obtain ⟨G,C⟩:=Jyv hn hu;have e:pre ord v=ord.take (plc ord v):=by have:=Qhf hn O;rw [J]at this;exact this
 unfold Xbx;rw [e];constructor
 .intro h;rcases Nat.lt_or_ge (plc ord u) (plc ord v) with h5|h5
  .exfalso
   apply h
   refine List.mem_iff_getElem.2 ⟨plc ord u,by rw [List.length_take];omega,?_⟩;rw [List.getElem_take,<-Jjh 0 ord G];exact C
  .exact h5
 .intro h i;obtain ⟨j,o,e⟩:=List.getElem_of_mem i;rw [List.length_take]at o;rw [List.getElem_take]at e;have:=Jlp hn (show j<ord.length by omega);rw [Jjh 0 ord om,e]at this;omega
def Jxq(n:Nat)(f:Nat->List Value): List Value:=(List.range n).flatMap f
theorem Jkh(n:Nat)(f:Nat->List Value): Jxq (n+1) f=Jxq n f++f n:=by simp [Jxq,List.range_succ,List.flatMap_append]
theorem Jyt{n sz:Nat}{f:Nat->List Value}(h:∀ i,i<n->(f i).length=sz): (Jxq n f).length=n*sz:=by
 induction n with
 | zero=>simp [Jxq]
 | succ n ih=>rw [Jkh,List.length_append,ih (λi hi=>h i om),h n om,Nat.succ_mul]
theorem Jvz{n:Nat}{f g:Nat->List Value}(h:∀ i,i<n->f i=g i): Jxq n f=Jxq n g:=by
 induction n with
 | zero=>rfl
 | succ n ih=>rw [Jkh,Jkh,ih (λi hi=>h i om),h n om]
theorem Jwn{n sz:Nat}{f:Nat->List Value}(h:∀ i,i<n->(f i).length=sz){i j:Nat}(hi:i<n)(hj:j<sz): (Jxq n f)[i*sz+j]?=(f i)[j]?:=by
 induction n with
 | zero=>omega
 | succ n ih=>
  have o:=Jyt (n:=n) (λi hi=>h i om);rw [Jkh];by_cases e:i=n
  .subst e;rw [List.getElem?_append_right om,o,Nat.add_sub_cancel_left]
  .have:i*sz+j<n*sz:=by
    have:(i+1)*sz<=n*sz:=nO _ om;rw [Nat.succ_mul]at this;omega
   rw [List.getElem?_append_left om];exact ih (λi hi=>h i om) om
theorem Qlp{n sz:Nat}{f:Nat->List Value}(h:∀ i,i<n->(f i).length=sz){i:Nat}(hi:i<n){cs:List Value}(hc:cs.length=sz): (Jxq n f).take (i*sz)++cs++(Jxq n f).drop (i*sz+sz)=Jxq n (upd f i cs):=by
 induction n with
 | zero=>omega
 | succ n ih=>
  have u:=Jyt (n:=n) (λi hi=>h i om);have j:=h n om;rw [Jkh,Jkh];by_cases e:i=n
  .subst e;rw [List.take_append_of_le_length om,List.take_of_length_le om,List.drop_of_length_le (by rw [List.length_append];omega),List.append_nil,Jjp];congr 1
   exact Jvz λk C=>(Jjl _ _ om).symm
  .have G:i*sz+sz<=n*sz:=by
    have:(i+1)*sz<=n*sz:=nO _ om;rw [Nat.succ_mul]at this;exact this
   rw [List.take_append_of_le_length om,List.drop_append_of_le_length om,<-List.append_assoc,ih (λi hi=>h i om) om,Jjl _ _ (λo=>e o.symm)]
end Go.Proofs.YtefpailelagbkaaGreatDoor
