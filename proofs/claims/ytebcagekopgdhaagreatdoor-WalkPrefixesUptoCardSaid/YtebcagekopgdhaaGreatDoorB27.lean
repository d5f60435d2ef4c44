/- Part 27. -/
import Derived.Test.YtebcagekopgdhaaGreatDoorB26
set_option linter.unusedVariables false
set_option maxRecDepth 100000
set_option maxHeartbeats 40000000
namespace Go.Wk
open Go.RowKit
section
variable {P:Program} {n:Nat} {al al':AL} {w:World} {Q:Exit->Act->World->Prop} {ops:Array Oper} {T:Nat->Bool}
def Kq(P:Program)(ops:Array Oper)(Q:Exit->Act->World->Prop)(T:Nat->Bool)(i:Nat)(w0:World)(fuel:Nat)(listed:Array Bool): Exit->Act->World->Prop
 | .normal,a,w=>(T i=false->Ext w0 w)/\(Closed ops listed->Vk P ops Q T fuel listed a w)
 | _,_,_=>False
theorem Gl{i:Nat}{w0:World}{fuel:Nat}{listed:Array Bool}(hx:T i=false->Ext w0 w)(h:WH P n ops Q T fuel listed al w): QX n (Kq P ops Q T i w0 fuel listed) .normal al w:=λa u=>⟨hx,λo=>h o a u⟩
theorem Jyp{i:Nat}{o:Oper}{fuel:Nat}{listed:Array Bool}(ho:ops[i]?=some o)(hc:Closed ops listed)(h:WL P n ops (Kq P ops Q T i w fuel listed) [o] al w): ∀ a,Fr n al a->wpOp P ops (QF Q) i (λa' w'=>(T i=false->Ext w w')/\Vk P ops Q T fuel listed a' w') a w:=λa O=>by
 have u:=h a O;unfold wpList at u;unfold wpOp;simp only [ho];have C:¬ LetsOut (Kq P ops Q T i w fuel listed):=by rintro ⟨a,w,h⟩;exact h
 split
 .rename_i hw;simp only [hw,if_true]at u;rcases u with u|⟨_,u⟩
  .left
   refine Oper.wp_mono (K:=wpList P ops (Kq P ops Q T i w fuel listed) []) (λa' w' J=>⟨J.1,J.2 hc⟩) ?_;unfold Oper.wp at u ⊢;exact Yq (Q:=Kq P ops Q T i w fuel listed) (λc a w G=>G.elim) (λG=>absurd G C) u
  .exact absurd u C
 .rename_i hw;simp only [hw]at u;exact ⟨u.1,u.2 hc⟩
theorem itwo{l:List Oper}{fuel fuel':Nat}{listed:Array Bool}(i j:Nat){oi oj:Oper}(hr:Region.ready .any l.toArray listed=[i,j])(hf:fuel=fuel'+1)(hi:nth l i=some oi)(hj:nth l j=some oj)(h1:WL P n l.toArray (Kq P l.toArray Q T i w fuel' (listed.setIfInBounds i true)) [oi] al w)(h2:WL P n l.toArray (Kq P l.toArray Q T j w fuel' (listed.setIfInBounds j true)) [oj] al w): WH P n l.toArray Q T fuel listed al w:=λC a G=>by
 subst hf;have O:l.toArray[i]?=some oi:=by rw [<-hi,Xq];simp
 have J:l.toArray[j]?=some oj:=by rw [<-hj,Xq];simp
 refine ⟨λh0=>(by rw [hr]at h0;cases h0),λk u=>?_⟩;have o:=u;rw [hr]at u;simp only [List.mem_cons,List.not_mem_nil,or_false]at u;rcases u with rfl|rfl
 .exact Jyp O (C.step o) h1 a G
 .exact Jyp J (C.step o) h2 a G
theorem Jzj{l:List Oper}{fuel fuel':Nat}{listed:Array Bool}(i:Nat){oi:Oper}(hr:Region.ready .any l.toArray listed=[i])(hf:fuel=fuel'+1)(hi:nth l i=some oi)(h1:WL P n l.toArray (Kq P l.toArray Q T i w fuel' (listed.setIfInBounds i true)) [oi] al w): WH P n l.toArray Q T fuel listed al w:=λC a G=>by
 subst hf;have J:l.toArray[i]?=some oi:=by rw [<-hi,Xq];simp
 refine ⟨λh0=>(by rw [hr]at h0;cases h0),λk o=>?_⟩;have u:=o;rw [hr]at o;simp only [List.mem_cons,List.not_mem_nil,or_false]at o;subst o;exact Jyp J (C.step u) h1 a G
theorem Yf{l:List Oper}{fuel fuel':Nat}{listed:Array Bool}(i:Nat){oi:Oper}(hsel:Region.noSelect l.toArray=true)(hr:((Region.ready .any l.toArray listed).contains i && Region.free .any l.toArray listed i)=true)(hf:fuel=fuel'+1)(hi:nth l i=some oi)(h:WP P n l.toArray (Ka P l.toArray Q T fuel' (listed.setIfInBounds i true)) [] [oi] al w): WH P n l.toArray Q T fuel listed al w:=λu a J=>by
 subst hf;simp only [Bool.and_eq_true]at hr;have o:i∈Region.ready .any l.toArray listed:=by simpa using hr.1
 have C:l.toArray[i]?=some oi:=by rw [<-hi,Xq];simp
 unfold WP at h;obtain ⟨v,G,O⟩:=h a J;exact Jkt (λ_ _=>True) (λ_=>trivial) (λ_ _=>trivial) C (Region.noSelect_spec hsel) (λ_ _ _ _ _ _ _ _=>trivial) _ listed a w u (Region.free_spec C hr.2) o G (O (u.step o))
end
section
variable {N:Nat->Prop} {P:Program} {n:Nat} {al al':AL} {w:World} {Q:Exit->Act->World->Prop} {ops:Array Oper}
def Km(ops:Array Oper): List (Nat×Nat)->Array Bool->Option (Array Bool)
 | [],listed=>some listed
 | (0,i)::r,listed=>if (Region.ready .any ops listed).contains i && Region.free .any ops listed i then Km ops r (listed.setIfInBounds i true) else none
 | (1,i)::r,listed=>if Region.ready .any ops listed == [i] then Km ops r (listed.setIfInBounds i true) else none
 | _::_,_=>none
def Jjn(N:Nat->Prop)(P:Program)(ops:Array Oper)(Q:Exit->Act->World->Prop)(fuel:Nat)(listed:Array Bool): Exit->Act->World->Prop
 | .normal,a,w=>Closed ops listed->Yv N P ops Q noT fuel listed a w
 | _,_,_=>False
theorem Qrk{fuel:Nat}{listed:Array Bool}{o:Oper}{a:Act}{w:World}{K:Act->World->Prop}(h:o.wp P a w K (QF (Jjn N P ops Q fuel listed))): o.wp P a w K (QF Q):=by
 unfold Oper.wp at h ⊢;have u:¬ LetsOut (QF (Jjn N P ops Q fuel listed)):=by rintro ⟨a,w,h⟩;exact h
 exact Yq (Q:=QF (Jjn N P ops Q fuel listed)) (λc a w C=>C.elim) (λC=>absurd C u) h
theorem Jkr(hsel:Region.noSelect ops=true)(fuel:Nat)(listed':Array Bool): ∀ (s:List (Nat×Nat)) (listed:Array Bool) (a:Act) (w:World),Closed ops listed->Km ops s listed=some listed'->Xp N P ops (Jjn N P ops Q fuel listed') (Ja ops.toList s) a w->Yv N P ops Q noT (s.length+fuel) listed a w
 | [],listed,a,w,hcl,hB,h=>by
  simp only [Km,Option.some.injEq]at hB;subst hB;simp only [List.length_nil,Nat.zero_add];exact h hcl
 | (0,i)::r,listed,a,w,hcl,hB,h=>by
  simp only [Km]at hB;split at hB
  .rename_i hc;simp only [Bool.and_eq_true]at hc;have hr':i∈Region.ready .any ops listed:=by simpa using hc.1
   obtain ⟨_,oi,ho,_⟩:=mem_ready.1 hr';have hn:nth ops.toList i=some oi:=by rw [Xq];simpa using ho
   simp only [Ja,hn,Xp,Yr]at h;obtain ⟨v,hy,h⟩:=h;have e:((0,i)::r).length+fuel=(r.length+fuel)+1:=by simp;omega
   rw [e];exact Jhc (GrN N) (GrN.refl N) (λh k=>GrN.trans h k) ho (Region.noSelect_spec hsel) (λ_ _ _ _ _ _ _ hg=>hg rfl) _ listed a w hcl (Region.free_spec ho hc.2) hr' hy (Jkr hsel fuel listed' r _ _ _ (hcl.step hr') hB h)
  .cases hB
 | (1,i)::r,listed,a,w,hcl,hB,h=>by
  simp only [Km]at hB;split at hB
  .rename_i hc;have hc':Region.ready .any ops listed=[i]:=by simpa using hc
   have hr':i∈Region.ready .any ops listed:=by rw [hc'];exact List.mem_singleton.2 rfl
   obtain ⟨_,oi,ho,_⟩:=mem_ready.1 hr';have hn:nth ops.toList i=some oi:=by rw [Xq];simpa using ho
   simp only [Ja,hn,Xp,Yr]at h;have e:((1,i)::r).length+fuel=(r.length+fuel)+1:=by simp;omega
   rw [e];refine ⟨λh0=>(by rw [h0]at hr';cases hr'),λj hj=>?_⟩;rw [hc']at hj;obtain rfl:j=i:=by simpa using hj
   have hcl':=hcl.step hr';unfold wpOp;simp only [ho];split
   .rename_i hw;simp only [hw,if_true]at h;exact .inl (Oper.wp_mono (λa' w' h'=>⟨λ_=>h'.1,Jkr hsel fuel listed' r _ _ _ hcl' hB h'.2⟩) (Qrk h))
   .rename_i hw;simp only [hw]at h;exact ⟨λ_=>GrN.refl N w,Jkr hsel fuel listed' r _ _ _ hcl' hB h⟩
  .cases hB
 | (k+2,i)::r,listed,a,w,_,hB,_=>by simp [Km]at hB
def WM(N:Nat->Prop)(P:Program)(n:Nat)(ops:Array Oper)(Q:Exit->Act->World->Prop)(fuel:Nat)(listed:Array Bool)(al:AL)(w:World): Prop:=Closed ops listed->∀ a,Fr n al a->Yv N P ops Q noT fuel listed a w
theorem WM.sub{fuel:Nat}{listed:Array Bool}(hs:Sub al' al)(h:WM N P n ops Q fuel listed al' w): WM N P n ops Q fuel listed al w:=λo a u=>h o a (u.sub hs)
theorem drM{tt:TT}[ht:Tab P tt]{id:Nat}{l:List Oper}(N:Nat->Prop)(h:WM N P n l.toArray Q l.toArray.size (Array.replicate l.toArray.size false) al w.drew): WC P n (.region id l.toArray true) Q al w:=λa o=>
 wp_region_any ht.mixed (Jyq (N:=N) (T:=noT) _ _ _ _ (h (Qjm _ _) a o))
theorem Yo{l:List Oper}{fuel fuel':Nat}{listed:Array Bool}(s:List (Nat×Nat))(listed':Array Bool)(hsel:Region.noSelect l.toArray=true)(hB:Km l.toArray s listed=some listed')(hf:fuel=s.length+fuel')(h:WN N P n l.toArray (Jjn N P l.toArray Q fuel' listed') (Ja l s) al w): WM N P n l.toArray Q fuel listed al w:=λo a u=>by
 subst hf;have C:=h a u;refine Jkr hsel fuel' listed' s listed a w o hB ?_;simpa using C
theorem Yu{fuel:Nat}{listed:Array Bool}(h:WM N P n ops Q fuel listed al w): QX n (Jjn N P ops Q fuel listed) .normal al w:=λa u o=>h o a u
theorem mend{listed:Array Bool}(hr:Region.ready .any ops listed=[])(h:QX n Q .normal al w): WM N P n ops Q 0 listed al w:=λ_ a o=>⟨hr,h a o⟩
def Kj(N:Nat->Prop)(P:Program)(ops:Array Oper)(Q:Exit->Act->World->Prop)(w0:World)(fuel:Nat)(listed:Array Bool): Exit->Act->World->Prop
 | .normal,a,w=>GrN N w0 w/\(Closed ops listed->Yv N P ops Q noT fuel listed a w)
 | _,_,_=>False
theorem Xy{w0:World}{fuel:Nat}{listed:Array Bool}(hx:GrN N w0 w)(h:WM N P n ops Q fuel listed al w): QX n (Kj N P ops Q w0 fuel listed) .normal al w:=λa u=>⟨hx,λo=>h o a u⟩
theorem Jyn{i:Nat}{o:Oper}{fuel:Nat}{listed:Array Bool}(ho:ops[i]?=some o)(hc:Closed ops listed)(h:WL P n ops (Kj N P ops Q w fuel listed) [o] al w): ∀ a,Fr n al a->wpOp P ops (QF Q) i (λa' w'=>(noT i=false->GrN N w w')/\Yv N P ops Q noT fuel listed a' w') a w:=λa O=>by
 have u:=h a O;unfold wpList at u;unfold wpOp;simp only [ho];have C:¬ LetsOut (Kj N P ops Q w fuel listed):=by rintro ⟨a,w,h⟩;exact h
 split
 .rename_i hw;simp only [hw,if_true]at u;rcases u with u|⟨_,u⟩
  .left
   refine Oper.wp_mono (K:=wpList P ops (Kj N P ops Q w fuel listed) []) (λa' w' J=>⟨λ_=>J.1,J.2 hc⟩) ?_;unfold Oper.wp at u ⊢;exact Yq (Q:=Kj N P ops Q w fuel listed) (λc a w G=>G.elim) (λG=>absurd G C) u
  .exact absurd u C
 .rename_i hw;simp only [hw]at u;exact ⟨λ_=>u.1,u.2 hc⟩
theorem Jqk{l:List Oper}{fuel fuel':Nat}{listed:Array Bool}(i j:Nat){oi oj:Oper}(hr:Region.ready .any l.toArray listed=[i,j])(hf:fuel=fuel'+1)(hi:nth l i=some oi)(hj:nth l j=some oj)(h1:WL P n l.toArray (Kj N P l.toArray Q w fuel' (listed.setIfInBounds i true)) [oi] al w)(h2:WL P n l.toArray (Kj N P l.toArray Q w fuel' (listed.setIfInBounds j true)) [oj] al w): WM N P n l.toArray Q fuel listed al w:=λC a G=>by
 subst hf;have O:l.toArray[i]?=some oi:=by rw [<-hi,Xq];simp
 have J:l.toArray[j]?=some oj:=by rw [<-hj,Xq];simp
 refine ⟨λh0=>(by rw [hr]at h0;cases h0),λk u=>?_⟩;have o:=u;rw [hr]at u;simp only [List.mem_cons,List.not_mem_nil,or_false]at u;rcases u with rfl|rfl
 .exact Jyn O (C.step o) h1 a G
 .exact Jyn J (C.step o) h2 a G
theorem Vc{l:List Oper}{fuel fuel':Nat}{listed:Array Bool}(i:Nat){oi:Oper}(hr:Region.ready .any l.toArray listed=[i])(hf:fuel=fuel'+1)(hi:nth l i=some oi)(h1:WL P n l.toArray (Kj N P l.toArray Q w fuel' (listed.setIfInBounds i true)) [oi] al w): WM N P n l.toArray Q fuel listed al w:=λC a G=>by
 subst hf;have J:l.toArray[i]?=some oi:=by rw [<-hi,Xq];simp
 refine ⟨λh0=>(by rw [hr]at h0;cases h0),λk o=>?_⟩;have u:=o;rw [hr]at o;simp only [List.mem_cons,List.not_mem_nil,or_false]at o;subst o;exact Jyn J (C.step u) h1 a G
theorem Gh{fuel:Nat}{listed listed':Array Bool}(e:listed=listed')(h:WM N P n ops Q fuel listed' al w): WM N P n ops Q fuel listed al w:=by subst e;exact h
theorem mcut{α:Type}{fuel:Nat}{L:Array Bool}(fuel':Nat)(L':Array Bool)(fr:α->AL)(I:α->World->Prop)(h2:∀ x w,I x w->WM N P n ops Q fuel' L' (fr x) w)(h1:(∀ x al w,I x w->Sub (fr x) al->WM N P n ops Q fuel' L' al w)->WM N P n ops Q fuel L al w): WM N P n ops Q fuel L al w:=h1 λx al w hi o=>(h2 x w hi).sub o
end
end Go.Wk
namespace Go.Wk
open Go.RowKit
theorem sl64{P:Program}{n:Nat}{al:AL}{w:World}{Q:Exit->Act->World->Prop}{ops:Array Oper}{rest:List Oper}{d ty:Nat}{pos:String}{aft:Array Edge}{y:Operand}{t yt:TypeId}{v:Nat}(hv:v<64)(kk:WL P n ops Q rest ((d,.int .u64 ((2^v:Nat):Int))::al) w)(hy:ev al y=some (.int .i64 (v:Int)):=by rfl)(hd:Nat.blt d n=true:=by rfl):
  WL P n ops Q (⟨some d,.binOp .shl t (.const (.int .u64 1)) y yt,ty,pos,aft,none⟩::rest) al w:=by
 have e:IntKind.u64.wrap (1*2^(min ((v:Nat):Int).toNat IntKind.u64.bits))=((2^v:Nat):Int):=by
  have h:2^v<18446744073709551616:=nM (Nat.pow_lt_pow_right (by decide:1<2) hv) (by decide);rw [Int.toNat_natCast,Nat.min_eq_left (by show v<=64;omega),Int.one_mul];have:((2:Int)^v)=((2^v:Nat):Int):=by simp
  rw [this,IntKind.wrap_u64];generalize 2^v=p at *
  omega
 rw [<-e]at kk;exact wop hd (λa o=>Jxw (x:=.const (.int .u64 1)) rfl hy om o (some d) w) kk
end Go.Wk
namespace Go.Proofs.YtebcagekopgdhaaGreatDoor
open Go.RowKit Pl Go.Wk
attribute [local irreducible] WC WL QX WD WDB WP WN WG
def Uc(es:List Nat): List Value:=es.map fun (e:Nat)=>Value.int .u32 (e:Int)
theorem Qxq{es:List Nat}{i:Nat}(h:i<es.length): (Uc es)[i]?=some (.int .u32 (es.getD i 0:Int)):=by
 simp [Uc,List.getD,List.getElem?_eq_getElem h]
structure GrV(w:World)(A:Option Addr)(c n:Nat)(es:List Nat): Prop where
 rd:Rd w 1 A es.length (Uc es)
 cap:es.length<=c
 n32:n<=32
 few:es.length<=64
 lt:∀ e∈es,e<2^n
abbrev grC(A:Option Addr)(c n:Nat)(es:List Nat): List Value:=[.int .i64 (n:Int),.slice A es.length c]
theorem GrV.ext{w w':World}{A:Option Addr}{c n:Nat}{es:List Nat}(h:GrV w A c n es)(hx:Ext w w'): GrV w' A c n es:=⟨h.rd.ext hx,h.cap,h.n32,h.few,h.lt⟩
theorem Jjv{n:Nat}(h:n<=32): 2^n<=4294967296:=Nat.pow_le_pow_right (n:=2) (by decide) h
theorem GrV.lt32{w:World}{A:Option Addr}{c n:Nat}{es:List Nat}(h:GrV w A c n es){e:Nat}(he:e∈es): e<4294967296:=nM (h.lt e he) (Jjv h.n32)
theorem Qgw{n:Nat}(hn:n<=32)(w:World): Ret Tryz.prog 184 [.int .i64 (n:Int)] w λu w'=>u=.int .u32 ((2^n-1:Nat):Int)/\w'=w:=by
 have C:=Jjv hn;have o:0<2^n:=Nat.two_pow_pos n;refine Jz Tryz.func184 Tryz.ntmps184 rfl kr rfl ?_;refine ρ ?_;refine sl64 (v:=n) om ?_;refine ρ ?_;refine Jj ⟨?_,rfl⟩;generalize 2^n=p at *
 congr 1
 rw [IntKind.wrap_u64,IntKind.wrap_u32];omega
theorem Qpw{e n:Nat}(h:e<2^n)(hn:n<=32): Gj e (2^n-1)=0:=by
 have u:=Jjv hn;have o:0<2^n:=Nat.two_pow_pos n;apply Nat.eq_of_testBit_eq
 intro i;rw [Jgd om om,Nat.testBit_two_pow_sub_one,Nat.zero_testBit];by_cases hi:i<n
 .rw [decide_eq_true hi];simp
 .rw [Nat.testBit_lt_two_pow (nM h (Nat.pow_le_pow_right (n:=2) (by decide) om))];rfl
theorem Jsq{w:World}{A:Option Addr}{c n:Nat}{es:List Nat}(h:GrV w A c n es): Ret Tryz.prog 161 [.agg (grC A c n es).toArray] w λu w'=>u=.int .i64 0/\Ext w w':=by
 have hn:=h.n32;have hf:=h.few;refine Jz Tryz.func161 Tryz.ntmps161 rfl kr rfl ?_;refine ρ ?_;refine bx (cs:=grC A c n es) ?_;intro w1 b C hb G;refine ρ ?_;refine ld (G.at (i:=0) rfl) ?_;refine ρ ?_;refine ld (G.at (i:=0) rfl) ?_;refine ρ ?_;refine cf ?_ ?_
 .exact dF om
 refine ρ ?_;refine ld (G.at (i:=1) rfl) ?_;refine ρ ?_;refine cf ?_ ?_
 .exact dF om
 refine ρ ?_;refine ld (G.at (i:=1) rfl) ?_;refine ρ ?_;refine Qd (fun (i:Nat)=>[(1,.pointer (some ⟨b,0,none⟩)),(18,.slice A es.length c),(19,.int .i64 (es.length:Int)),(20,.int .i64 (i:Int))])
  (λi w'=>i<=es.length/\Ext w1 w') (λi=>es.length-i) 0 sB ⟨Nat.zero_le _,Ext.refl _⟩ ?_
 rintro i w2 ⟨hi,o⟩;have O:=G.ext o;have U:=h.ext (C.trans o);refine ρ ?_;refine ci (λh=>?_) (λh=>?_)
 .have J:i<es.length:=by have:=oT h;omega
  clear h;have Z:=getD_mem' 0 es J;refine ρ ?_;refine ix i U.rd J ?_;refine ρ ?_;refine ld (U.rd.cell (Qxq J)) ?_;refine ρ ?_;refine ld (O.at (i:=0) rfl) ?_;refine ρ ?_;refine cl (Qgw hn w2) ?_;rintro u w3 ⟨rfl,rfl⟩;have hp:=Jjv hn;have a1:0<2^n:=Nat.two_pow_pos n;refine ρ ?_;refine cf ?_ ?_
  .rw [Jfr (U.lt32 Z) om,Qpw (h.lt _ Z) hn];rfl
  refine ρ ?_;exact Qw (i+1) sO ⟨om,o⟩ om
 refine ρ ?_;exact Jj ⟨rfl,C.trans o⟩
def Xw(a:Nat->Nat): List Value:=(List.range 32).map λv=>.int .u32 (a v:Int)
theorem Vn(a:Nat->Nat): (Xw a).length=32:=by simp [Xw]
theorem Un{a:Nat->Nat}{v:Nat}(h:v<32): (Xw a)[v]?=some (.int .u32 (a v:Int)):=by simp [Xw,h]
theorem Jbm(a:Nat->Nat){v x:Nat}(h:v<32): (Xw a).set v (.int .u32 (x:Int))=Xw (upd a v x):=by
 apply List.ext_getElem?
 intro i;rw [List.getElem?_set];by_cases e:v=i
 .subst e;rw [if_pos rfl,if_pos (by rw [Vn];exact h),Un h,Jf]
 .rw [if_neg e];by_cases hi:i<32
  .rw [Un hi,Un hi,Jy _ _ (λo=>e o.symm)]
  .simp [Xw,hi]
theorem Jbn(a:Nat->Nat): ∀ u∈Xw a,u.oneCell'=true:=λu o=>by obtain ⟨e,_,rfl⟩:=List.mem_map.1 o;rfl
theorem Jxm: Qt Tryz.prog 199=some (.agg (Xw λ_=>0).toArray):=kr
theorem Jgl: Qt Tryz.prog 198=some (.agg (List.replicate 32 (Value.int .i64 0)).toArray):=kr
def AdjP(n:Nat)(es:List Nat)(a:Nat->Nat): Prop:=∀ v,v<32->a v<4294967296/\∀ x,(a v).testBit x=(decide (v<n) && (x != v) && es.any λe=>e.testBit v && e.testBit x)
theorem Jkx{v x:Nat}: (2^v).testBit x=decide (v=x):=Nat.testBit_two_pow
theorem Qgx{w:World}{A:Option Addr}{c n:Nat}{es:List Nat}(h:GrV w A c n es): Ret Tryz.prog 185 [.agg (grC A c n es).toArray] w λu w'=>Ext w w'/\∃ a,u=.agg (Xw a).toArray/\AdjP n es a:=by
 have hn:=h.n32;have hf:=h.few;refine Jz Tryz.func185 Tryz.ntmps185 rfl kr rfl ?_;refine ρ ?_;refine bx (cs:=grC A c n es) ?_;intro w1 b1 a5 au ag;refine ρ ?_;refine alc (cs:=Xw λ_=>0) Jxm ?_;intro w2 b2 a3 ar ao;refine ρ ?_;refine alc (cs:=Xw λ_=>0) Jxm ?_;intro w3 b3 a9 am an;have ap:=(a5.trans a3).trans a9;refine ρ ?_;refine ld (((ag.ext a3).ext a9).at (i:=1) rfl) ?_;refine ρ ?_;refine Jt (fun (i:Nat) (a:Nat->Nat)=>[(1,.pointer (some ⟨b1,0,none⟩)),(2,.pointer (some ⟨b2,0,none⟩)),(3,.pointer (some ⟨b3,0,none⟩)),(8,.slice A es.length c),(9,.int .i64 (es.length:Int)),(10,.int .i64 (i:Int))])
  (λi a w'=>i<=es.length/\Ext w2 w'/\Blk w' b3 199 (Xw a)/\AdjP n (es.take i) a) (λi _=>es.length-i) 0 (λ_=>0) sB
  ⟨Nat.zero_le _,a9,an,λv _=>⟨by simp only;omega,λx=>by simp⟩⟩ ?_
 rintro i a w4 ⟨hi,a2,a8,ha⟩;have af:=(ag.ext a3).ext a2;have ae:=ao.ext a2;have h4:=h.ext ((a5.trans a3).trans a2);refine ρ ?_;refine ci (λJ=>?_) (λJ=>?_)
 .have li:i<es.length:=by have:=oT J;omega
  clear J;have hm:=getD_mem' 0 es li;have C:=h4.lt32 hm;obtain ⟨e,he⟩:∃ e,e=es.getD i 0:=⟨_,rfl⟩;refine ρ ?_;refine ix i h4.rd li ?_;refine ρ ?_;refine ld (h4.rd.cell (Qxq li)) ?_;rw [<-he]at hm C ⊢;refine ρ ?_;refine ld (af.at (i:=0) rfl) ?_;refine ρ ?_;refine Jt (fun (v:Nat) (Z:Nat->Nat)=>[(1,.pointer (some ⟨b1,0,none⟩)),(2,.pointer (some ⟨b2,0,none⟩)),(3,.pointer (some ⟨b3,0,none⟩)),(8,.slice A es.length c),(9,.int .i64 (es.length:Int)),(10,.int .i64 (i:Int)),(5,.int .u32 (e:Int)),(15,.int .i64 (n:Int)),(16,.int .i64 (v:Int))])
   (λv Z w'=>v<=n/\Ext w2 w'/\Blk w' b3 199 (Xw Z)/\∀ u,u<32->Z u<4294967296/\∀ x,(Z u).testBit x=((a u).testBit x || (decide (u<v) && e.testBit u && e.testBit x && (x != u)))) (λv _=>n-v) 0 a sB
   ⟨Nat.zero_le _,a2,a8,λu U=>⟨(ha u U).1,λx=>by simp⟩⟩ ?_
  rintro v Z w5 ⟨hv,a1,a4,O⟩;refine ρ ?_;refine ci (λJ=>?_) (λJ=>?_)
  .have lv:v<n:=by have:=oT J;omega
   have o:v<32:=om
   clear J;have aa:=O v o;have ah:=Gc o;refine ρ ?_;refine Kz (s:=e) (v:=v) om ?_;refine ρ ?_;refine ci (λJ=>?_) (λJ=>?_)
   .rw [Ub C]at J;have ab:Ext w5 w5.drew:=(Ext.refl w5).drew;have G:=a4.ext ab;refine ρ ?_;refine drN (λ_=>False) 10 [(0,0),(0,1),(0,2),(0,3),(0,4),(0,5),(0,6),(0,7),(0,8),(2,9)] kr ?_;refine ρn ?_;refine nixb v o ?_;refine ρn ?_;refine nld (Jm (G.atc (Un o)) (λe=>e)) ?_;refine ρn ?_;refine Jcm o ?_;refine ρn ?_;refine nixb v o ?_;refine ρn ?_;refine Xv ?_;refine sto (p:=⟨b3,v,none⟩) (G.cell v |>.trans (Un o)) (G.frozen _) ?_;have a6:=Qxj (t:=2^v) C;have ai:bits .or .u32 (Z v:Int) (bits .andNot .u32 (e:Int) ((2^v:Nat):Int))=((Z v ||| Gj e (2^v):Nat):Int):=by
     rw [Jfr C ah,Ie aa.1 a6]
    rw [ai];have a7:=G.set v (.int .u32 ((Z v ||| Gj e (2^v):Nat):Int));rw [Jbm Z o]at a7;have ac:w2.heap.size<=b3:=am;refine ω5 ?_;refine Us ?_;refine ρn ?_;refine ρ ?_;refine Jg (v+1) (upd Z v (Z v ||| Gj e (2^v))) sO ⟨om,(a1.trans ab).setCell ac _,a7,λu U=>?_⟩ om;by_cases e1:u=v
    .subst e1;rw [Jf];refine ⟨Jwq aa.1 a6,λx=>?_⟩;rw [Nat.testBit_or,Jgd C ah,Jkx,aa.2,J,decide_eq_true (Nat.lt_succ_self u),decide_eq_false (Nat.lt_irrefl u)];by_cases e2:u=x
     .subst e2;simp
     .rw [decide_eq_false e2,bne_iff_ne.2 (λe'=>e2 e'.symm)];simp
    .rw [Jy _ _ e1];refine ⟨(O u U).1,λx=>?_⟩;rw [(O u U).2];have:decide (u<v+1)=decide (u<v):=decide_eq_decide.2 om;rw [this]
   .rw [Ub C]at J;refine ρ ?_;refine Jg (v+1) Z sO ⟨om,a1,a4,λu U=>⟨(O u U).1,λx=>?_⟩⟩ om;rw [(O u U).2];by_cases e1:u=v
    .subst e1;rw [J];simp
    .have:decide (u<v+1)=decide (u<v):=decide_eq_decide.2 om;rw [this]
  .have aj:v=n:=by have:=oF J;omega
   subst aj;clear J;refine ρ ?_;refine Jg (i+1) Z sO ⟨om,a1,a4,λu U=>⟨(O u U).1,λx=>?_⟩⟩ om;rw [(O u U).2,(ha u U).2,Qy 0 li,<-he,List.any_append];simp only [List.any_cons,List.any_nil,Bool.or_false];cases decide (u<v)<;>cases (x != u)<;>simp
 .have ak:i=es.length:=by have:=oF J;omega
  subst ak;clear J;rw [List.take_length]at ha;refine ρ ?_;refine lda (cs:=Xw a) (λj u U=>a8.at U) (Vn a).symm ?_;refine ρ ?_;refine sta (cs':=Xw a) ae ?_ (Jbn a) (by rw [Vn,Vn]) (Vn a).symm;intro w5 ad aq a1;refine ρ ?_;exact Jtc ad (Vn a).symm ⟨a1 w ((a5.trans a3).trans a2) (by have:=a5.size;omega),a,rfl,ha⟩
open Go.RowKit Pl Go.Wk
theorem Qgv{w:World}{A:Option Addr}{c n v:Nat}{es:List Nat}(h:GrV w A c n es)(hv:v<n): Ret Tryz.prog 162 [.agg (grC A c n es).toArray,.int .i64 (v:Int)] w λu w'=>Ext w w'/\∃ a,u=.int .u32 (a v:Int)/\AdjP n es a:=by
 have hn:=h.n32;refine Jz Tryz.func162 Tryz.ntmps162 rfl kr rfl ?_;refine ρ ?_;refine bx (cs:=grC A c n es) ?_;intro w1 b C hb U;refine ρ ?_;refine lds (cs:=grC A c n es) (λj u O=>U.at O) ?_;refine ρ ?_;refine cl (Jsq (h.ext C)) ?_;rintro u w2 ⟨rfl,o⟩;have G:=U.ext o;refine ρ ?_;refine ld (G.at (i:=0) rfl) ?_;refine ρ ?_;refine cf ?_ ?_
 .exact dF om
 refine ρ ?_;refine lds (cs:=grC A c n es) (λj u O=>G.at O) ?_;refine ρ ?_;refine cl (Qgx (h.ext (C.trans o))) ?_;rintro u w3 ⟨J,a,rfl,Z⟩;refine ρ ?_;refine idx v (show v<32 by omega) (Un (show v<32 by omega)) ?_;refine ρ ?_;exact Jj ⟨(C.trans o).trans J,a,rfl,Z⟩
theorem Qhx{w:World}{A:Option Addr}{c n:Nat}{es:List Nat}(h:GrV w A c n es): Ret Tryz.prog 127 [.agg (grC A c n es).toArray] w λu w'=>Ext w w'/\∃ a,u=.agg (Xw a).toArray/\AdjP n es a:=by
 have hn:=h.n32;refine Jz Tryz.func127 Tryz.ntmps127 rfl kr rfl ?_;refine ρ ?_;refine bx (cs:=grC A c n es) ?_;intro w1 b1 a5 ah aa;refine ρ ?_;refine alc (cs:=Xw λ_=>0) Jxm ?_;intro w2 b2 a3 ag ae;refine ρ ?_;refine alc (cs:=Xw λ_=>0) Jxm ?_;intro w3 b3 a4 ac ad;refine ρ ?_;refine ld (((aa.ext a3).ext a4).at (i:=0) rfl) ?_;refine ρ ?_;refine Jt (fun (v:Nat) (a:Nat->Nat)=>[(1,.pointer (some ⟨b1,0,none⟩)),(2,.pointer (some ⟨b2,0,none⟩)),(3,.pointer (some ⟨b3,0,none⟩)),(6,.int .i64 (n:Int)),(7,.int .i64 (v:Int))])
  (λv a w'=>v<=n/\Ext w2 w'/\Blk w' b3 199 (Xw a)/\∀ u,u<32->a u<4294967296/\∀ x,(a u).testBit x=(decide (u<v) && (x != u) && es.any λe=>e.testBit u && e.testBit x)) (λv _=>n-v) 0 (λ_=>0) sB
  ⟨Nat.zero_le _,a4,ad,λu O=>⟨by simp only;omega,λx=>by simp⟩⟩ ?_
 rintro v a w4 ⟨hv,J,a1,ha⟩;have a9:=(aa.ext a3).ext J;have a8:=ae.ext J;have U:=(a5.trans a3).trans J;refine ρ ?_;refine ci (λhc=>?_) (λhc=>?_)
 .have lv:v<n:=by have:=oT hc;omega
  have o:v<32:=om
  clear hc;refine ρ ?_;refine lds (cs:=grC A c n es) (λj u O=>a9.at O) ?_;refine ρ ?_;refine cl (Qgv (h.ext U) lv) ?_;rintro u w5 ⟨G,a2,rfl,a6⟩;have C:=a1.ext G;refine ρ ?_;refine ixb v o ?_;refine ρ ?_;refine sto (p:=⟨b3,v,none⟩) (C.cell v |>.trans (Un o)) (C.frozen _) ?_;have Z:=C.set v (.int .u32 ((a2 v:Nat):Int));rw [Jbm a o]at Z;refine ρ ?_;refine Jg (v+1) (upd a v (a2 v)) sO ⟨om,(J.trans G).setCell ac _,Z,λu O=>?_⟩ om;by_cases e:u=v
  .subst e;rw [Jf,decide_eq_true (Nat.lt_succ_self u)];refine ⟨(a6 u O).1,λx=>?_⟩;rw [(a6 u O).2,decide_eq_true lv]
  .rw [Jy _ _ e];refine ⟨(ha u O).1,λx=>?_⟩;have:decide (u<v+1)=decide (u<v):=decide_eq_decide.2 om;rw [(ha u O).2,this]
 .have ab:v=n:=by have:=oF hc;omega
  subst ab;clear hc;refine ρ ?_;refine lda (cs:=Xw a) (λj u O=>a1.at O) (Vn a).symm ?_;refine ρ ?_;refine sta (cs':=Xw a) a8 ?_ (Jbn a) (by rw [Vn,Vn]) (Vn a).symm;intro w5 a7 af G;refine ρ ?_;exact Jtc a7 (Vn a).symm ⟨G w U (by have:=a5.size;omega),a,rfl,ha⟩
theorem Qhv{w:World}{A:Option Addr}{c n f:Nat}{es:List Nat}(h:GrV w A c n es)(hf:f<=n): Ret Tryz.prog 126 [.agg (grC A c n es).toArray,.int .i64 (f:Int)] w λu w'=>u=.int .i64 0/\Ext w w':=by
 have hn:=h.n32;refine Jz Tryz.func126 Tryz.ntmps126 rfl kr rfl ?_;refine ρ ?_;refine bx (cs:=grC A c n es) ?_;intro Z b C hb J;refine ρ ?_;refine lds (cs:=grC A c n es) (λj u O=>J.at O) ?_;refine ρ ?_;refine cl (Jsq (h.ext C)) ?_;rintro u U ⟨rfl,o⟩;have G:=J.ext o;refine ρ ?_;refine ld (G.at (i:=0) rfl) ?_;refine ρ ?_;refine cf ?_ ?_
 .exact dF om
 refine ρ ?_;exact Jj ⟨rfl,C.trans o⟩
end Go.Proofs.YtebcagekopgdhaaGreatDoor
namespace Go.Proofs.YtebcagekopgdhaaGreatDoor
open Pl Go.Wk
def nb0(n:Nat)(es:List Nat)(u x:Nat): Bool:=decide (u<n) && (x != u) && es.any λe=>e.testBit u && e.testBit x
theorem Qpc{e n u:Nat}(he:e<2^n)(h:e.testBit u=true): u<n:=Jxj he h
theorem Jqg{n:Nat}{es:List Nat}(he:∀ e∈es,e<2^n){u x:Nat}(h:nb0 n es u x=true): u<n/\x<n/\x≠u:=by
 simp only [nb0,Bool.and_eq_true,decide_eq_true_eq,bne_iff_ne,List.any_eq_true]at h;obtain ⟨⟨J,G⟩,e,o,_,C⟩:=h;exact ⟨J,Qpc (he e o) C,G⟩
theorem Jpw{n:Nat}{es:List Nat}(he:∀ e∈es,e<2^n): NbInv [] (nb0 n es):=by
 refine ⟨λu x _ _=>?_,λu x _ h=>⟨by simp,(Jqg he h).2.2⟩⟩;rw [Bool.eq_iff_iff];have key:∀ u x,nb0 n es u x=true->nb0 n es x u=true:=λu x h=>by
  have o:=Jqg he h;simp only [nb0,Bool.and_eq_true,decide_eq_true_eq,bne_iff_ne,List.any_eq_true]at h ⊢;obtain ⟨⟨_,_⟩,e,C,J,G⟩:=h;exact ⟨⟨o.2.1,λe=>o.2.2 e.symm⟩,e,C,G,J⟩
 exact ⟨key u x,key x u⟩
theorem Jpq: ∀ (k:Nat) {l:List Nat},l.Nodup->(∀ u∈l,u<k)->l.length<=k
 | 0,[],_,_=>Nat.le_refl _
 | 0,u::l,_,h=>absurd (h u (mC ..)) om
 | k+1,l,hn,h=>by
  have h1:=Jpq k (l:=l.filter λu=>u != k) (hn.sublist List.filter_sublist) (λu hu=>by
   obtain ⟨h2,h3⟩:=List.mem_filter.1 hu;have:=h u h2;have:u≠k:=bne_iff_ne.1 h3;omega)
  have h2:l.length<=(l.filter λu=>u != k).length+1:=by
   clear h h1;induction l with
   | nil=>simp
   | cons x l ih=>
    obtain ⟨h3,h4⟩:=List.nodup_cons.1 hn;by_cases e:x=k
    .subst e;have e2:l.filter (λu=>u != x)=l:=List.filter_eq_self.2 λu hu=>bne_iff_ne.2 λe'=>h3 (by rw [<-e'];exact hu);rw [List.filter_cons_of_neg (by simp),e2,List.length_cons];omega
    .rw [List.filter_cons_of_pos (p:=λu=>u != k) (bne_iff_ne.2 e),List.length_cons,List.length_cons];have:=ih h4;omega
  omega
theorem Qdb{l:List Nat}{k:Nat}(hn:l.Nodup)(hlt:∀ u∈l,u<k)(hlen:l.length=k){u:Nat}(hu:u<k): u∈l:=by
 refine Classical.byContradiction λh=>?_;have:=Jpq k (l:=u::l) (List.nodup_cons.2 ⟨h,hn⟩) (λx o=>by
  rcases List.mem_cons.1 o with rfl|o
  .exact hu
  .exact hlt x o)
 rw [List.length_cons]at this;omega
def Xj(perm:List Nat)(f:Nat): List Nat:=perm++(List.range f).reverse
structure PermOk(n f:Nat)(perm:List Nat): Prop where
 fn:f<=n
 len:perm.length=n-f
 rng:∀ v∈perm,f<=v/\v<n
 nd:perm.Nodup
theorem PermOk.olen{n f:Nat}{perm:List Nat}(h:PermOk n f perm): (Xj perm f).length=n:=by
 have:=h.len;have:=h.fn;simp [Xj];omega
theorem PermOk.ond{n f:Nat}{perm:List Nat}(h:PermOk n f perm): (Xj perm f).Nodup:=by
 refine List.nodup_append.2 ⟨h.nd,List.pairwise_reverse.2 (List.nodup_range.imp λh=>h.symm),λu C v o e=>?_⟩;have J:=(h.rng u C).1;have G:=List.mem_range.1 (List.mem_reverse.1 o);omega
theorem PermOk.olt{n f:Nat}{perm:List Nat}(h:PermOk n f perm){u:Nat}(hu:u∈Xj perm f): u<n:=by
 rcases List.mem_append.1 hu with h1|h1
 .exact (h.rng u h1).2
 .have:=List.mem_range.1 (List.mem_reverse.1 h1);have:=h.fn;omega
theorem PermOk.omem{n f:Nat}{perm:List Nat}(h:PermOk n f perm){u:Nat}: u∈Xj perm f↔u<n :=
 ⟨h.olt,λo=>Qdb h.ond (λ_=>h.olt) h.olen o⟩
theorem Jch{ord:List Nat}(hn:ord.Nodup){i:Nat}(hi:i<ord.length): pre ord (ord.getD i 0)=ord.take i:=by
 have e:ord=ord.take i++ord.getD i 0::ord.drop (i+1):=by
  rw [Jp 0 ord hi,<-List.drop_eq_getElem_cons hi,List.take_append_drop]
 have o:ord.getD i 0 ∉ ord.take i:=λu=>by
  rw [e,List.nodup_append]at hn;exact hn.2.2 _ u _ (mC ..) rfl
 have:=Jcg (r:=ord.drop (i+1)) o;rw [<-e]at this;exact this
def plc(ord:List Nat)(u:Nat): Nat:=(pre ord u).length
theorem Iy{ord:List Nat}(hn:ord.Nodup){i:Nat}(hi:i<ord.length): plc ord (ord.getD i 0)=i:=by
 rw [plc,Jch hn hi,List.length_take];omega
theorem Ud{ord:List Nat}(hn:ord.Nodup){u:Nat}(hu:u∈ord): plc ord u<ord.length/\ord.getD (plc ord u) 0=u:=by
 obtain ⟨i,hi,e⟩:=List.getElem_of_mem hu;have o:=Iy hn hi;rw [Jp 0 ord hi,e]at o;rw [o];exact ⟨hi,by rw [Jp 0 ord hi,e]⟩
theorem Jdh{ord:List Nat}(hn:ord.Nodup){v u:Nat}(hv:v∈ord)(hu:u∈ord): Jkl ord v u↔plc ord v<=plc ord u:=by
 obtain ⟨U,O⟩:=Ud hn hv;obtain ⟨J,G⟩:=Ud hn hu;have e:pre ord v=ord.take (plc ord v):=by have:=Jch hn U;rw [O]at this;exact this
 unfold Jkl;rw [e];constructor
 .intro h;rcases Nat.lt_or_ge (plc ord u) (plc ord v) with h5|h5
  .exfalso
   apply h
   refine List.mem_iff_getElem.2 ⟨plc ord u,by rw [List.length_take];omega,?_⟩;rw [List.getElem_take,<-Jp 0 ord J];exact G
  .exact h5
 .intro h o;obtain ⟨j,C,e⟩:=List.getElem_of_mem o;rw [List.length_take]at C;rw [List.getElem_take]at e;have:=Iy hn (show j<ord.length by omega);rw [Jp 0 ord om,e]at this;omega
def Qf(n:Nat)(f:Nat->List Value): List Value:=(List.range n).flatMap f
theorem Im(n:Nat)(f:Nat->List Value): Qf (n+1) f=Qf n f++f n:=by simp [Qf,List.range_succ,List.flatMap_append]
theorem Jzr{n sz:Nat}{f:Nat->List Value}(h:∀ i,i<n->(f i).length=sz): (Qf n f).length=n*sz:=by
 induction n with
 | zero=>simp [Qf]
 | succ n ih=>rw [Im,List.length_append,ih (λi hi=>h i om),h n om,Nat.succ_mul]
theorem Jvm{n:Nat}{f g:Nat->List Value}(h:∀ i,i<n->f i=g i): Qf n f=Qf n g:=by
 induction n with
 | zero=>rfl
 | succ n ih=>rw [Im,Im,ih (λi hi=>h i om),h n om]
theorem Ip{n sz:Nat}{f:Nat->List Value}(h:∀ i,i<n->(f i).length=sz){i j:Nat}(hi:i<n)(hj:j<sz): (Qf n f)[i*sz+j]?=(f i)[j]?:=by
 induction n with
 | zero=>omega
 | succ n ih=>
  have o:=Jzr (n:=n) (λi hi=>h i om);rw [Im];by_cases e:i=n
  .subst e;rw [List.getElem?_append_right om,o,Nat.add_sub_cancel_left]
  .have:i*sz+j<n*sz:=by
    have:(i+1)*sz<=n*sz:=nO _ om;rw [Nat.succ_mul]at this;omega
   rw [List.getElem?_append_left om];exact ih (λi hi=>h i om) om
theorem Qhj{n sz:Nat}{f:Nat->List Value}(h:∀ i,i<n->(f i).length=sz){i:Nat}(hi:i<n){cs:List Value}(hc:cs.length=sz): (Qf n f).take (i*sz)++cs++(Qf n f).drop (i*sz+sz)=Qf n (upd f i cs):=by
 induction n with
 | zero=>omega
 | succ n ih=>
  have C:=Jzr (n:=n) (λi hi=>h i om);have o:=h n om;rw [Im,Im];by_cases e:i=n
  .subst e;rw [List.take_append_of_le_length om,List.take_of_length_le om,List.drop_of_length_le (by rw [List.length_append];omega),List.append_nil,Jf];congr 1
   exact Jvm λk G=>(Jy _ _ om).symm
  .have J:i*sz+sz<=n*sz:=by
    have:(i+1)*sz<=n*sz:=nO _ om;rw [Nat.succ_mul]at this;exact this
   rw [List.take_append_of_le_length om,List.drop_append_of_le_length om,<-List.append_assoc,ih (λi hi=>h i om) om,Jy _ _ (λu=>e u.symm)]
end Go.Proofs.YtebcagekopgdhaaGreatDoor
