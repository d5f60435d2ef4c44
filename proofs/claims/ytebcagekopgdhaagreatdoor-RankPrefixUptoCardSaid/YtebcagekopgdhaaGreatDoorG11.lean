/- Part 11. -/
import Derived.Test.YtebcagekopgdhaaGreatDoorG10
import Derived.Test.YtebcagekopgdhaaGreatDoorSh
import Derived.Lib.AppendStr
import Derived.Lib.ItoaLen
set_option linter.unusedVariables false
set_option maxRecDepth 100000
set_option maxHeartbeats 40000000
namespace Go.Wk
open Go.RowKit
variable {L listed listed':Array Bool}{l:List Oper}{fuel fuel' i id:Nat}{o oi oj:Oper}{w0:World}
section
variable {P:Program} {n:Nat} {al al':AL} {w:World} {Q:Exit->Act->World->Prop} {ops:Array Oper} {T:Nat->Bool}
def Kf(P:Program)(ops:Array Oper)(Q:Exit->Act->World->Prop)(T:Nat->Bool)(i:Nat)(w0:World)(fuel:Nat)(listed:Array Bool): Exit->Act->World->Prop
 | .normal,a,w=>(T i=false->Ext w0 w)/\(Closed ops listed->Vk P ops Q T fuel listed a w)
 | _,_,_=>False
theorem Gt(hx:T i=false->Ext w0 w)(h:WH P n ops Q T fuel listed al w): QX n (Kf P ops Q T i w0 fuel listed) .normal al w:=λa u=>⟨hx,λo=>h o a u⟩
theorem Jcj(ho:ops[i]?=some o)(hc:Closed ops listed)(h:WL P n ops (Kf P ops Q T i w fuel listed) [o] al w): ∀ a,Fr n al a->wpOp P ops (QF Q) i (λa' w'=>(T i=false->Ext w w')/\Vk P ops Q T fuel listed a' w') a w:=λa O=>by
 have u:=h a O;unfold wpList at u;unfold wpOp;simp only [ho];have C:¬ LetsOut (Kf P ops Q T i w fuel listed):=by rintro ⟨a,w,h⟩;exact h
 split
 .rename_i hw;simp only [hw,if_true]at u;rcases u with u|⟨_,u⟩
  .left
   refine Oper.wp_mono (K:=wpList P ops (Kf P ops Q T i w fuel listed) []) (λa' w' J=>⟨J.1,J.2 hc⟩) ?_;unfold Oper.wp at u ⊢;exact Yj (Q:=Kf P ops Q T i w fuel listed) (λc a w G=>G.elim) (λG=>absurd G C) u
  .exact absurd u C
 .rename_i hw;simp only [hw]at u;exact ⟨u.1,u.2 hc⟩
theorem itwo(i j:Nat)(hr:Region.ready .any l.toArray listed=[i,j])(hf:fuel=fuel'+1)(hi:nth l i=some oi)(hj:nth l j=some oj)(h1:WL P n l.toArray (Kf P l.toArray Q T i w fuel' (listed.setIfInBounds i true)) [oi] al w)(h2:WL P n l.toArray (Kf P l.toArray Q T j w fuel' (listed.setIfInBounds j true)) [oj] al w): WH P n l.toArray Q T fuel listed al w:=λC a G=>by
 subst hf;have O:l.toArray[i]?=some oi:=by rw [<-hi,Xz];simp
 have J:l.toArray[j]?=some oj:=by rw [<-hj,Xz];simp
 refine ⟨λh0=>(by rw [hr]at h0;cases h0),λk u=>?_⟩;have o:=u;rw [hr]at u;simp only [List.mem_cons,List.not_mem_nil,or_false]at u;rcases u with rfl|rfl
 .exact Jcj O (C.step o) h1 a G
 .exact Jcj J (C.step o) h2 a G
theorem Jkp(i:Nat)(hr:Region.ready .any l.toArray listed=[i])(hf:fuel=fuel'+1)(hi:nth l i=some oi)(h1:WL P n l.toArray (Kf P l.toArray Q T i w fuel' (listed.setIfInBounds i true)) [oi] al w): WH P n l.toArray Q T fuel listed al w:=λC a G=>by
 subst hf;have J:l.toArray[i]?=some oi:=by rw [<-hi,Xz];simp
 refine ⟨λh0=>(by rw [hr]at h0;cases h0),λk o=>?_⟩;have u:=o;rw [hr]at o;simp only [List.mem_cons,List.not_mem_nil,or_false]at o;subst o;exact Jcj J (C.step u) h1 a G
theorem Zm(i:Nat)(hsel:Region.noSelect l.toArray=true)(hr:((Region.ready .any l.toArray listed).contains i && Region.free .any l.toArray listed i)=true)(hf:fuel=fuel'+1)(hi:nth l i=some oi)(h:WP P n l.toArray (Ih P l.toArray Q T fuel' (listed.setIfInBounds i true)) [] [oi] al w): WH P n l.toArray Q T fuel listed al w:=λu a J=>by
 subst hf;simp only [Bool.and_eq_true]at hr;have o:i∈Region.ready .any l.toArray listed:=by simpa using hr.1
 have C:l.toArray[i]?=some oi:=by rw [<-hi,Xz];simp
 unfold WP at h;obtain ⟨v,G,O⟩:=h a J;exact Jvd (λ_ _=>True) (λ_=>trivial) (λ_ _=>trivial) C (Region.noSelect_spec hsel) (λ_ _ _ _ _ _ _ _=>trivial) _ listed a w u (Region.free_spec C hr.2) o G (O (u.step o))
end
section
variable {N:Nat->Prop} {P:Program} {n:Nat} {al al':AL} {w:World} {Q:Exit->Act->World->Prop} {ops:Array Oper}
def Ik(ops:Array Oper): List (Nat×Nat)->Array Bool->Option (Array Bool)
 | [],listed=>some listed
 | (0,i)::r,listed=>if (Region.ready .any ops listed).contains i && Region.free .any ops listed i then Ik ops r (listed.setIfInBounds i true) else none
 | (1,i)::r,listed=>if Region.ready .any ops listed == [i] then Ik ops r (listed.setIfInBounds i true) else none
 | _::_,_=>none
def Jqn(N:Nat->Prop)(P:Program)(ops:Array Oper)(Q:Exit->Act->World->Prop)(fuel:Nat)(listed:Array Bool): Exit->Act->World->Prop
 | .normal,a,w=>Closed ops listed->Yf N P ops Q noT fuel listed a w
 | _,_,_=>False
theorem Xjs{a:Act}{w:World}{K:Act->World->Prop}(h:o.wp P a w K (QF (Jqn N P ops Q fuel listed))): o.wp P a w K (QF Q):=by
 unfold Oper.wp at h ⊢;have u:¬ LetsOut (QF (Jqn N P ops Q fuel listed)):=by rintro ⟨a,w,h⟩;exact h
 exact Yj (Q:=QF (Jqn N P ops Q fuel listed)) (λc a w C=>C.elim) (λC=>absurd C u) h
theorem Jvb(hsel:Region.noSelect ops=true)(fuel:Nat)(listed':Array Bool): ∀ (s:List (Nat×Nat)) (listed:Array Bool) (a:Act) (w:World),Closed ops listed->Ik ops s listed=some listed'->Xs N P ops (Jqn N P ops Q fuel listed') (Jo ops.toList s) a w->Yf N P ops Q noT (s.length+fuel) listed a w
 | [],listed,a,w,hcl,hB,h=>by
  simp only [Ik,Option.some.injEq]at hB;subst hB;simp only [List.length_nil,Nat.zero_add];exact h hcl
 | (0,i)::r,listed,a,w,hcl,hB,h=>by
  simp only [Ik]at hB;split at hB
  .rename_i hc;simp only [Bool.and_eq_true]at hc;have hr':i∈Region.ready .any ops listed:=by simpa using hc.1
   obtain ⟨_,oi,ho,_⟩:=mem_ready.1 hr';have hn:nth ops.toList i=some oi:=by rw [Xz];simpa using ho
   simp only [Jo,hn,Xs,Uj]at h;obtain ⟨v,hy,h⟩:=h;have e:((0,i)::r).length+fuel=(r.length+fuel)+1:=by simp;omega
   rw [e];exact Jmg (GrN N) (GrN.refl N) (λh k=>GrN.trans h k) ho (Region.noSelect_spec hsel) (λ_ _ _ _ _ _ _ hg=>hg rfl) _ listed a w hcl (Region.free_spec ho hc.2) hr' hy (Jvb hsel fuel listed' r _ _ _ (hcl.step hr') hB h)
  .cases hB
 | (1,i)::r,listed,a,w,hcl,hB,h=>by
  simp only [Ik]at hB;split at hB
  .rename_i hc;have hc':Region.ready .any ops listed=[i]:=by simpa using hc
   have hr':i∈Region.ready .any ops listed:=by rw [hc'];exact List.mem_singleton.2 rfl
   obtain ⟨_,oi,ho,_⟩:=mem_ready.1 hr';have hn:nth ops.toList i=some oi:=by rw [Xz];simpa using ho
   simp only [Jo,hn,Xs,Uj]at h;have e:((1,i)::r).length+fuel=(r.length+fuel)+1:=by simp;omega
   rw [e];refine ⟨λh0=>(by rw [h0]at hr';cases hr'),λj hj=>?_⟩;rw [hc']at hj;obtain rfl:j=i:=by simpa using hj
   have hcl':=hcl.step hr';unfold wpOp;simp only [ho];split
   .rename_i hw;simp only [hw,if_true]at h;exact .inl (Oper.wp_mono (λa' w' h'=>⟨λ_=>h'.1,Jvb hsel fuel listed' r _ _ _ hcl' hB h'.2⟩) (Xjs h))
   .rename_i hw;simp only [hw]at h;exact ⟨λ_=>GrN.refl N w,Jvb hsel fuel listed' r _ _ _ hcl' hB h⟩
  .cases hB
 | (k+2,i)::r,listed,a,w,_,hB,_=>by simp [Ik]at hB
def WM(N:Nat->Prop)(P:Program)(n:Nat)(ops:Array Oper)(Q:Exit->Act->World->Prop)(fuel:Nat)(listed:Array Bool)(al:AL)(w:World): Prop:=Closed ops listed->∀ a,Fr n al a->Yf N P ops Q noT fuel listed a w
theorem WM.sub{fuel:Nat}{listed:Array Bool}(hs:Sub al' al)(h:WM N P n ops Q fuel listed al' w): WM N P n ops Q fuel listed al w:=λo a u=>h o a (u.sub hs)
theorem drM{tt:TT}[ht:Tab P tt](N:Nat->Prop)(h:WM N P n l.toArray Q l.toArray.size (Array.replicate l.toArray.size false) al w.drew): WC P n (.region id l.toArray true) Q al w:=λa o=>
 wp_region_any ht.mixed (Jck (N:=N) (T:=noT) _ _ _ _ (h (Qzd _ _) a o))
theorem Uy(s:List (Nat×Nat))(listed':Array Bool)(hsel:Region.noSelect l.toArray=true)(hB:Ik l.toArray s listed=some listed')(hf:fuel=s.length+fuel')(h:WN N P n l.toArray (Jqn N P l.toArray Q fuel' listed') (Jo l s) al w): WM N P n l.toArray Q fuel listed al w:=λo a u=>by
 subst hf;have C:=h a u;refine Jvb hsel fuel' listed' s listed a w o hB ?_;simpa using C
theorem Ub(h:WM N P n ops Q fuel listed al w): QX n (Jqn N P ops Q fuel listed) .normal al w:=λa u o=>h o a u
theorem mend(hr:Region.ready .any ops listed=[])(h:QX n Q .normal al w): WM N P n ops Q 0 listed al w:=λ_ a o=>⟨hr,h a o⟩
def Kd(N:Nat->Prop)(P:Program)(ops:Array Oper)(Q:Exit->Act->World->Prop)(w0:World)(fuel:Nat)(listed:Array Bool): Exit->Act->World->Prop
 | .normal,a,w=>GrN N w0 w/\(Closed ops listed->Yf N P ops Q noT fuel listed a w)
 | _,_,_=>False
theorem Xg(hx:GrN N w0 w)(h:WM N P n ops Q fuel listed al w): QX n (Kd N P ops Q w0 fuel listed) .normal al w:=λa u=>⟨hx,λo=>h o a u⟩
theorem Jch(ho:ops[i]?=some o)(hc:Closed ops listed)(h:WL P n ops (Kd N P ops Q w fuel listed) [o] al w): ∀ a,Fr n al a->wpOp P ops (QF Q) i (λa' w'=>(noT i=false->GrN N w w')/\Yf N P ops Q noT fuel listed a' w') a w:=λa O=>by
 have u:=h a O;unfold wpList at u;unfold wpOp;simp only [ho];have C:¬ LetsOut (Kd N P ops Q w fuel listed):=by rintro ⟨a,w,h⟩;exact h
 split
 .rename_i hw;simp only [hw,if_true]at u;rcases u with u|⟨_,u⟩
  .left
   refine Oper.wp_mono (K:=wpList P ops (Kd N P ops Q w fuel listed) []) (λa' w' J=>⟨λ_=>J.1,J.2 hc⟩) ?_;unfold Oper.wp at u ⊢;exact Yj (Q:=Kd N P ops Q w fuel listed) (λc a w G=>G.elim) (λG=>absurd G C) u
  .exact absurd u C
 .rename_i hw;simp only [hw]at u;exact ⟨λ_=>u.1,u.2 hc⟩
theorem Jxk(i j:Nat)(hr:Region.ready .any l.toArray listed=[i,j])(hf:fuel=fuel'+1)(hi:nth l i=some oi)(hj:nth l j=some oj)(h1:WL P n l.toArray (Kd N P l.toArray Q w fuel' (listed.setIfInBounds i true)) [oi] al w)(h2:WL P n l.toArray (Kd N P l.toArray Q w fuel' (listed.setIfInBounds j true)) [oj] al w): WM N P n l.toArray Q fuel listed al w:=λC a G=>by
 subst hf;have O:l.toArray[i]?=some oi:=by rw [<-hi,Xz];simp
 have J:l.toArray[j]?=some oj:=by rw [<-hj,Xz];simp
 refine ⟨λh0=>(by rw [hr]at h0;cases h0),λk u=>?_⟩;have o:=u;rw [hr]at u;simp only [List.mem_cons,List.not_mem_nil,or_false]at u;rcases u with rfl|rfl
 .exact Jch O (C.step o) h1 a G
 .exact Jch J (C.step o) h2 a G
theorem Vr(i:Nat)(hr:Region.ready .any l.toArray listed=[i])(hf:fuel=fuel'+1)(hi:nth l i=some oi)(h1:WL P n l.toArray (Kd N P l.toArray Q w fuel' (listed.setIfInBounds i true)) [oi] al w): WM N P n l.toArray Q fuel listed al w:=λC a G=>by
 subst hf;have J:l.toArray[i]?=some oi:=by rw [<-hi,Xz];simp
 refine ⟨λh0=>(by rw [hr]at h0;cases h0),λk o=>?_⟩;have u:=o;rw [hr]at o;simp only [List.mem_cons,List.not_mem_nil,or_false]at o;subst o;exact Jch J (C.step u) h1 a G
theorem Gs(e:listed=listed')(h:WM N P n ops Q fuel listed' al w): WM N P n ops Q fuel listed al w:=by subst e;exact h
theorem mcut{α:Type}(fuel':Nat)(L':Array Bool)(fr:α->AL)(I:α->World->Prop)(h2:∀ x w,I x w->WM N P n ops Q fuel' L' (fr x) w)(h1:(∀ x al w,I x w->Sub (fr x) al->WM N P n ops Q fuel' L' al w)->WM N P n ops Q fuel L al w): WM N P n ops Q fuel L al w:=h1 λx al w hi o=>(h2 x w hi).sub o
end
end Go.Wk
namespace Go.Wk
open Go.RowKit
variable {d n ty v:Nat}
theorem sl64{P:Program}{al:AL}{w:World}{Q:Exit->Act->World->Prop}{ops:Array Oper}{rest:List Oper}{pos:String}{aft:Array Edge}{y:Operand}{t yt:TypeId}(hv:v<64)(kk:WL P n ops Q rest ((d,.int .u64 ((2^v:Nat):Int))::al) w)(hy:ev al y=some (.int .i64 (v:Int)):=by rfl)(hd:Nat.blt d n=true:=by rfl):
  WL P n ops Q (⟨some d,.binOp .shl t (.const (.int .u64 1)) y yt,ty,pos,aft,none⟩::rest) al w:=by
 have e:IntKind.u64.wrap (1*2^(min ((v:Nat):Int).toNat IntKind.u64.bits))=((2^v:Nat):Int):=by
  have h:2^v<18446744073709551616:=nM (Nat.pow_lt_pow_right (by decide:1<2) hv) (by decide);rw [Int.toNat_natCast,Nat.min_eq_left (by show v<=64;omega),Int.one_mul];have:((2:Int)^v)=((2^v:Nat):Int):=by simp
  rw [this,IntKind.wrap_u64];generalize 2^v=p at *
  omega
 rw [<-e]at kk;exact wop hd (λa o=>Jzz (x:=.const (.int .u64 1)) rfl hy om o (some d) w) kk
end Go.Wk
namespace Go.Proofs.YtebcagekopgdhaaGreatDoor
open Go.RowKit Pl Go.Wk
attribute [local irreducible] WC WL QX WD WDB WP WN WG
variable {es:List Nat}{c e i n v x:Nat}{A:Option Addr}{w:World}
def Uc(es:List Nat): List Value:=es.map fun (e:Nat)=>Value.int .u32 (e:Int)
theorem Qwk(h:i<es.length): (Uc es)[i]?=some (.int .u32 (es.getD i 0:Int)):=by
 simp [Uc,List.getD,List.getElem?_eq_getElem h]
structure GrV(w:World)(A:Option Addr)(c n:Nat)(es:List Nat): Prop where
 rd:Rd w 1 A es.length (Uc es)
 cap:es.length<=c
 n32:n<=32
 few:es.length<=64
 lt:∀ e∈es,e<2^n
abbrev grC(A:Option Addr)(c n:Nat)(es:List Nat): List Value:=[.int .i64 (n:Int),.slice A es.length c]
theorem GrV.ext{w w':World}{A:Option Addr}{c n:Nat}{es:List Nat}(h:GrV w A c n es)(hx:Ext w w'): GrV w' A c n es:=⟨h.rd.ext hx,h.cap,h.n32,h.few,h.lt⟩
theorem Jqv(h:n<=32): 2^n<=4294967296:=Nat.pow_le_pow_right (n:=2) (by decide) h
theorem GrV.lt32(h:GrV w A c n es)(he:e∈es): e<4294967296:=nM (h.lt e he) (Jqv h.n32)
theorem Qmw(hn:n<=32)(w:World): Ret Tryz.prog 184 [.int .i64 (n:Int)] w λu w'=>u=.int .u32 ((2^n-1:Nat):Int)/\w'=w:=by
 have C:=Jqv hn;have o:0<2^n:=Nat.two_pow_pos n;refine Jz Tryz.func184 Tryz.ntmps184 rfl kr rfl ?_;refine ρ ?_;refine sl64 (v:=n) om ?_;refine ρ ?_;refine Jq ⟨?_,rfl⟩;generalize 2^n=p at *
 congr 1
 rw [IntKind.wrap_u64,IntKind.wrap_u32];omega
theorem Xjg(h:e<2^n)(hn:n<=32): Gv e (2^n-1)=0:=by
 have u:=Jqv hn;have o:0<2^n:=Nat.two_pow_pos n;apply Nat.eq_of_testBit_eq
 intro i;rw [Jlh om om,Nat.testBit_two_pow_sub_one,Nat.zero_testBit];by_cases hi:i<n
 .rw [decide_eq_true hi];simp
 .rw [Nat.testBit_lt_two_pow (nM h (Nat.pow_le_pow_right (n:=2) (by decide) om))];rfl
theorem Qqh(h:GrV w A c n es): Ret Tryz.prog 161 [.agg (grC A c n es).toArray] w λu w'=>u=.int .i64 0/\Ext w w':=by
 have hn:=h.n32;have hf:=h.few;refine Jz Tryz.func161 Tryz.ntmps161 rfl kr rfl ?_;refine ρ ?_;refine bx (cs:=grC A c n es) ?_;intro w1 b C hb G;refine ρ ?_;refine ld (G.at (i:=0) rfl) ?_;refine ρ ?_;refine ld (G.at (i:=0) rfl) ?_;refine ρ ?_;refine cf ?_ ?_
 .exact dF om
 refine ρ ?_;refine ld (G.at (i:=1) rfl) ?_;refine ρ ?_;refine cf ?_ ?_
 .exact dF om
 refine ρ ?_;refine ld (G.at (i:=1) rfl) ?_;refine ρ ?_;refine Qh (fun (i:Nat)=>[(1,.pointer (some ⟨b,0,none⟩)),(18,.slice A es.length c),(19,.int .i64 (es.length:Int)),(20,.int .i64 (i:Int))])
  (λi w'=>i<=es.length/\Ext w1 w') (λi=>es.length-i) 0 sB ⟨Nat.zero_le _,Ext.refl _⟩ ?_
 rintro i w2 ⟨hi,o⟩;have O:=G.ext o;have U:=h.ext (C.trans o);refine ρ ?_;refine ci (λh=>?_) (λh=>?_)
 .have J:i<es.length:=by have:=oT h;omega
  clear h;have Z:=getD_mem' 0 es J;refine ρ ?_;refine ix i U.rd J ?_;refine ρ ?_;refine ld (U.rd.cell (Qwk J)) ?_;refine ρ ?_;refine ld (O.at (i:=0) rfl) ?_;refine ρ ?_;refine cl (Qmw hn w2) ?_;rintro u w3 ⟨rfl,rfl⟩;have hp:=Jqv hn;have a1:0<2^n:=Nat.two_pow_pos n;refine ρ ?_;refine cf ?_ ?_
  .rw [Jhv (U.lt32 Z) om,Xjg (h.lt _ Z) hn];rfl
  refine ρ ?_;exact Qv (i+1) sO ⟨om,o⟩ om
 refine ρ ?_;exact Jq ⟨rfl,C.trans o⟩
def Xc(a:Nat->Nat): List Value:=(List.range 32).map λv=>.int .u32 (a v:Int)
theorem Yq(a:Nat->Nat): (Xc a).length=32:=by simp [Xc]
theorem Uo{a:Nat->Nat}(h:v<32): (Xc a)[v]?=some (.int .u32 (a v:Int)):=by simp [Xc,h]
theorem Jdh(a:Nat->Nat)(h:v<32): (Xc a).set v (.int .u32 (x:Int))=Xc (upd a v x):=by
 apply List.ext_getElem?
 intro i;rw [List.getElem?_set];by_cases e:v=i
 .subst e;rw [if_pos rfl,if_pos (by rw [Yq];exact h),Uo h,Jh]
 .rw [if_neg e];by_cases hi:i<32
  .rw [Uo hi,Uo hi,Jc _ _ (λo=>e o.symm)]
  .simp [Xc,hi]
theorem Jdj(a:Nat->Nat): ∀ u∈Xc a,u.oneCell'=true:=λu o=>by obtain ⟨e,_,rfl⟩:=List.mem_map.1 o;rfl
theorem Jzn: Qp Tryz.prog 199=some (.agg (Xc λ_=>0).toArray):=kr
theorem Jlp: Qp Tryz.prog 198=some (.agg (List.replicate 32 (Value.int .i64 0)).toArray):=kr
def AdjP(n:Nat)(es:List Nat)(a:Nat->Nat): Prop:=∀ v,v<32->a v<4294967296/\∀ x,(a v).testBit x=(decide (v<n) && (x != v) && es.any λe=>e.testBit v && e.testBit x)
theorem Jvh: (2^v).testBit x=decide (v=x):=Nat.testBit_two_pow
theorem Qmx(h:GrV w A c n es): Ret Tryz.prog 185 [.agg (grC A c n es).toArray] w λu w'=>Ext w w'/\∃ a,u=.agg (Xc a).toArray/\AdjP n es a:=by
 have hn:=h.n32;have hf:=h.few;refine Jz Tryz.func185 Tryz.ntmps185 rfl kr rfl ?_;refine ρ ?_;refine bx (cs:=grC A c n es) ?_;intro w1 b1 a5 au ag;refine ρ ?_;refine alc (cs:=Xc λ_=>0) Jzn ?_;intro w2 b2 a3 ar ao;refine ρ ?_;refine alc (cs:=Xc λ_=>0) Jzn ?_;intro w3 b3 a9 am an;have ap:=(a5.trans a3).trans a9;refine ρ ?_;refine ld (((ag.ext a3).ext a9).at (i:=1) rfl) ?_;refine ρ ?_;refine Je (fun (i:Nat) (a:Nat->Nat)=>[(1,.pointer (some ⟨b1,0,none⟩)),(2,.pointer (some ⟨b2,0,none⟩)),(3,.pointer (some ⟨b3,0,none⟩)),(8,.slice A es.length c),(9,.int .i64 (es.length:Int)),(10,.int .i64 (i:Int))])
  (λi a w'=>i<=es.length/\Ext w2 w'/\Blk w' b3 199 (Xc a)/\AdjP n (es.take i) a) (λi _=>es.length-i) 0 (λ_=>0) sB
  ⟨Nat.zero_le _,a9,an,λv _=>⟨by simp only;omega,λx=>by simp⟩⟩ ?_
 rintro i a w4 ⟨hi,a2,a8,ha⟩;have af:=(ag.ext a3).ext a2;have ae:=ao.ext a2;have h4:=h.ext ((a5.trans a3).trans a2);refine ρ ?_;refine ci (λJ=>?_) (λJ=>?_)
 .have li:i<es.length:=by have:=oT J;omega
  clear J;have hm:=getD_mem' 0 es li;have C:=h4.lt32 hm;obtain ⟨e,he⟩:∃ e,e=es.getD i 0:=⟨_,rfl⟩;refine ρ ?_;refine ix i h4.rd li ?_;refine ρ ?_;refine ld (h4.rd.cell (Qwk li)) ?_;rw [<-he]at hm C ⊢;refine ρ ?_;refine ld (af.at (i:=0) rfl) ?_;refine ρ ?_;refine Je (fun (v:Nat) (Z:Nat->Nat)=>[(1,.pointer (some ⟨b1,0,none⟩)),(2,.pointer (some ⟨b2,0,none⟩)),(3,.pointer (some ⟨b3,0,none⟩)),(8,.slice A es.length c),(9,.int .i64 (es.length:Int)),(10,.int .i64 (i:Int)),(5,.int .u32 (e:Int)),(15,.int .i64 (n:Int)),(16,.int .i64 (v:Int))])
   (λv Z w'=>v<=n/\Ext w2 w'/\Blk w' b3 199 (Xc Z)/\∀ u,u<32->Z u<4294967296/\∀ x,(Z u).testBit x=((a u).testBit x || (decide (u<v) && e.testBit u && e.testBit x && (x != u)))) (λv _=>n-v) 0 a sB
   ⟨Nat.zero_le _,a2,a8,λu U=>⟨(ha u U).1,λx=>by simp⟩⟩ ?_
  rintro v Z w5 ⟨hv,a1,a4,O⟩;refine ρ ?_;refine ci (λJ=>?_) (λJ=>?_)
  .have lv:v<n:=by have:=oT J;omega
   have o:v<32:=om
   clear J;have aa:=O v o;have ah:=Gl o;refine ρ ?_;refine Kh (s:=e) (v:=v) om ?_;refine ρ ?_;refine ci (λJ=>?_) (λJ=>?_)
   .rw [Un C]at J;have ab:Ext w5 w5.drew:=(Ext.refl w5).drew;have G:=a4.ext ab;refine ρ ?_;refine drN (λ_=>False) 10 [(0,0),(0,1),(0,2),(0,3),(0,4),(0,5),(0,6),(0,7),(0,8),(2,9)] kr ?_;refine ρn ?_;refine nixb v o ?_;refine ρn ?_;refine nld (Jp (G.atc (Uo o)) (λe=>e)) ?_;refine ρn ?_;refine Jfl o ?_;refine ρn ?_;refine nixb v o ?_;refine ρn ?_;refine Xy ?_;refine sto (p:=⟨b3,v,none⟩) (G.cell v |>.trans (Uo o)) (G.frozen _) ?_;have a6:=Qwc (t:=2^v) C;have ai:bits .or .u32 (Z v:Int) (bits .andNot .u32 (e:Int) ((2^v:Nat):Int))=((Z v ||| Gv e (2^v):Nat):Int):=by
     rw [Jhv C ah,Jjv aa.1 a6]
    rw [ai];have a7:=G.set v (.int .u32 ((Z v ||| Gv e (2^v):Nat):Int));rw [Jdh Z o]at a7;have ac:w2.heap.size<=b3:=am;refine ω5 ?_;refine Uv ?_;refine ρn ?_;refine ρ ?_;refine Jl (v+1) (upd Z v (Z v ||| Gv e (2^v))) sO ⟨om,(a1.trans ab).setCell ac _,a7,λu U=>?_⟩ om;by_cases e1:u=v
    .subst e1;rw [Jh];refine ⟨Jyb aa.1 a6,λx=>?_⟩;rw [Nat.testBit_or,Jlh C ah,Jvh,aa.2,J,decide_eq_true (Nat.lt_succ_self u),decide_eq_false (Nat.lt_irrefl u)];by_cases e2:u=x
     .subst e2;simp
     .rw [decide_eq_false e2,bne_iff_ne.2 (λe'=>e2 e'.symm)];simp
    .rw [Jc _ _ e1];refine ⟨(O u U).1,λx=>?_⟩;rw [(O u U).2];have:decide (u<v+1)=decide (u<v):=decide_eq_decide.2 om;rw [this]
   .rw [Un C]at J;refine ρ ?_;refine Jl (v+1) Z sO ⟨om,a1,a4,λu U=>⟨(O u U).1,λx=>?_⟩⟩ om;rw [(O u U).2];by_cases e1:u=v
    .subst e1;rw [J];simp
    .have:decide (u<v+1)=decide (u<v):=decide_eq_decide.2 om;rw [this]
  .have aj:v=n:=by have:=oF J;omega
   subst aj;clear J;refine ρ ?_;refine Jl (i+1) Z sO ⟨om,a1,a4,λu U=>⟨(O u U).1,λx=>?_⟩⟩ om;rw [(O u U).2,(ha u U).2,Qb 0 li,<-he,List.any_append];simp only [List.any_cons,List.any_nil,Bool.or_false];cases decide (u<v)<;>cases (x != u)<;>simp
 .have ak:i=es.length:=by have:=oF J;omega
  subst ak;clear J;rw [List.take_length]at ha;refine ρ ?_;refine lda (cs:=Xc a) (λj u U=>a8.at U) (Yq a).symm ?_;refine ρ ?_;refine sta (cs':=Xc a) ae ?_ (Jdj a) (by rw [Yq,Yq]) (Yq a).symm;intro w5 ad aq a1;refine ρ ?_;exact Qqr ad (Yq a).symm ⟨a1 w ((a5.trans a3).trans a2) (by have:=a5.size;omega),a,rfl,ha⟩
open Go.RowKit Pl Go.Wk
variable {es:List Nat}{c f n v:Nat}{A:Option Addr}{w:World}
theorem Qmv(h:GrV w A c n es)(hv:v<n): Ret Tryz.prog 162 [.agg (grC A c n es).toArray,.int .i64 (v:Int)] w λu w'=>Ext w w'/\∃ a,u=.int .u32 (a v:Int)/\AdjP n es a:=by
 have hn:=h.n32;refine Jz Tryz.func162 Tryz.ntmps162 rfl kr rfl ?_;refine ρ ?_;refine bx (cs:=grC A c n es) ?_;intro w1 b C hb U;refine ρ ?_;refine lds (cs:=grC A c n es) (λj u O=>U.at O) ?_;refine ρ ?_;refine cl (Qqh (h.ext C)) ?_;rintro u w2 ⟨rfl,o⟩;have G:=U.ext o;refine ρ ?_;refine ld (G.at (i:=0) rfl) ?_;refine ρ ?_;refine cf ?_ ?_
 .exact dF om
 refine ρ ?_;refine lds (cs:=grC A c n es) (λj u O=>G.at O) ?_;refine ρ ?_;refine cl (Qmx (h.ext (C.trans o))) ?_;rintro u w3 ⟨J,a,rfl,Z⟩;refine ρ ?_;refine idx v (show v<32 by omega) (Uo (show v<32 by omega)) ?_;refine ρ ?_;exact Jq ⟨(C.trans o).trans J,a,rfl,Z⟩
theorem Qpc(h:GrV w A c n es): Ret Tryz.prog 127 [.agg (grC A c n es).toArray] w λu w'=>Ext w w'/\∃ a,u=.agg (Xc a).toArray/\AdjP n es a:=by
 have hn:=h.n32;refine Jz Tryz.func127 Tryz.ntmps127 rfl kr rfl ?_;refine ρ ?_;refine bx (cs:=grC A c n es) ?_;intro w1 b1 a5 ah aa;refine ρ ?_;refine alc (cs:=Xc λ_=>0) Jzn ?_;intro w2 b2 a3 ag ae;refine ρ ?_;refine alc (cs:=Xc λ_=>0) Jzn ?_;intro w3 b3 a4 ac ad;refine ρ ?_;refine ld (((aa.ext a3).ext a4).at (i:=0) rfl) ?_;refine ρ ?_;refine Je (fun (v:Nat) (a:Nat->Nat)=>[(1,.pointer (some ⟨b1,0,none⟩)),(2,.pointer (some ⟨b2,0,none⟩)),(3,.pointer (some ⟨b3,0,none⟩)),(6,.int .i64 (n:Int)),(7,.int .i64 (v:Int))])
  (λv a w'=>v<=n/\Ext w2 w'/\Blk w' b3 199 (Xc a)/\∀ u,u<32->a u<4294967296/\∀ x,(a u).testBit x=(decide (u<v) && (x != u) && es.any λe=>e.testBit u && e.testBit x)) (λv _=>n-v) 0 (λ_=>0) sB
  ⟨Nat.zero_le _,a4,ad,λu O=>⟨by simp only;omega,λx=>by simp⟩⟩ ?_
 rintro v a w4 ⟨hv,J,a1,ha⟩;have a9:=(aa.ext a3).ext J;have a8:=ae.ext J;have U:=(a5.trans a3).trans J;refine ρ ?_;refine ci (λhc=>?_) (λhc=>?_)
 .have lv:v<n:=by have:=oT hc;omega
  have o:v<32:=om
  clear hc;refine ρ ?_;refine lds (cs:=grC A c n es) (λj u O=>a9.at O) ?_;refine ρ ?_;refine cl (Qmv (h.ext U) lv) ?_;rintro u w5 ⟨G,a2,rfl,a6⟩;have C:=a1.ext G;refine ρ ?_;refine ixb v o ?_;refine ρ ?_;refine sto (p:=⟨b3,v,none⟩) (C.cell v |>.trans (Uo o)) (C.frozen _) ?_;have Z:=C.set v (.int .u32 ((a2 v:Nat):Int));rw [Jdh a o]at Z;refine ρ ?_;refine Jl (v+1) (upd a v (a2 v)) sO ⟨om,(J.trans G).setCell ac _,Z,λu O=>?_⟩ om;by_cases e:u=v
  .subst e;rw [Jh,decide_eq_true (Nat.lt_succ_self u)];refine ⟨(a6 u O).1,λx=>?_⟩;rw [(a6 u O).2,decide_eq_true lv]
  .rw [Jc _ _ e];refine ⟨(ha u O).1,λx=>?_⟩;have:decide (u<v+1)=decide (u<v):=decide_eq_decide.2 om;rw [(ha u O).2,this]
 .have ab:v=n:=by have:=oF hc;omega
  subst ab;clear hc;refine ρ ?_;refine lda (cs:=Xc a) (λj u O=>a1.at O) (Yq a).symm ?_;refine ρ ?_;refine sta (cs':=Xc a) a8 ?_ (Jdj a) (by rw [Yq,Yq]) (Yq a).symm;intro w5 a7 af G;refine ρ ?_;exact Qqr a7 (Yq a).symm ⟨G w U (by have:=a5.size;omega),a,rfl,ha⟩
theorem Qnz(h:GrV w A c n es)(hf:f<=n): Ret Tryz.prog 126 [.agg (grC A c n es).toArray,.int .i64 (f:Int)] w λu w'=>u=.int .i64 0/\Ext w w':=by
 have hn:=h.n32;refine Jz Tryz.func126 Tryz.ntmps126 rfl kr rfl ?_;refine ρ ?_;refine bx (cs:=grC A c n es) ?_;intro Z b C hb J;refine ρ ?_;refine lds (cs:=grC A c n es) (λj u O=>J.at O) ?_;refine ρ ?_;refine cl (Qqh (h.ext C)) ?_;rintro u U ⟨rfl,o⟩;have G:=J.ext o;refine ρ ?_;refine ld (G.at (i:=0) rfl) ?_;refine ρ ?_;refine cf ?_ ?_
 .exact dF om
 refine ρ ?_;exact Jq ⟨rfl,C.trans o⟩
end Go.Proofs.YtebcagekopgdhaaGreatDoor
namespace Go.Proofs.YtebcagekopgdhaaGreatDoor
open Pl Go.Wk
variable {es l ord perm:List Nat}{e i j k n u v x:Nat}{f g:Nat->List Value}
def nb0(n:Nat)(es:List Nat)(u x:Nat): Bool:=decide (u<n) && (x != u) && es.any λe=>e.testBit u && e.testBit x
theorem Qtm(he:e<2^n)(h:e.testBit u=true): u<n:=Jzk he h
theorem Jxh(he:∀ e∈es,e<2^n)(h:nb0 n es u x=true): u<n/\x<n/\x≠u:=by
 simp only [nb0,Bool.and_eq_true,decide_eq_true_eq,bne_iff_ne,List.any_eq_true]at h;obtain ⟨⟨J,G⟩,e,o,_,C⟩:=h;exact ⟨J,Qtm (he e o) C,G⟩
theorem Jtg(he:∀ e∈es,e<2^n): NbInv [] (nb0 n es):=by
 refine ⟨λu x _ _=>?_,λu x _ h=>⟨by simp,(Jxh he h).2.2⟩⟩;rw [Bool.eq_iff_iff];have key:∀ u x,nb0 n es u x=true->nb0 n es x u=true:=λu x h=>by
  have o:=Jxh he h;simp only [nb0,Bool.and_eq_true,decide_eq_true_eq,bne_iff_ne,List.any_eq_true]at h ⊢;obtain ⟨⟨_,_⟩,e,C,J,G⟩:=h;exact ⟨⟨o.2.1,λe=>o.2.2 e.symm⟩,e,C,G,J⟩
 exact ⟨key u x,key x u⟩
theorem Jsz: ∀ (k:Nat) {l:List Nat},l.Nodup->(∀ u∈l,u<k)->l.length<=k
 | 0,[],_,_=>Nat.le_refl _
 | 0,u::l,_,h=>absurd (h u (mC ..)) om
 | k+1,l,hn,h=>by
  have h1:=Jsz k (l:=l.filter λu=>u != k) (hn.sublist List.filter_sublist) (λu hu=>by
   obtain ⟨h2,h3⟩:=List.mem_filter.1 hu;have:=h u h2;have:u≠k:=bne_iff_ne.1 h3;omega)
  have h2:l.length<=(l.filter λu=>u != k).length+1:=by
   clear h h1;induction l with
   | nil=>simp
   | cons x l ih=>
    obtain ⟨h3,h4⟩:=List.nodup_cons.1 hn;by_cases e:x=k
    .subst e;have e2:l.filter (λu=>u != x)=l:=List.filter_eq_self.2 λu hu=>bne_iff_ne.2 λe'=>h3 (by rw [<-e'];exact hu);rw [List.filter_cons_of_neg (by simp),e2,List.length_cons];omega
    .rw [List.filter_cons_of_pos (p:=λu=>u != k) (bne_iff_ne.2 e),List.length_cons,List.length_cons];have:=ih h4;omega
  omega
theorem Qhb(hn:l.Nodup)(hlt:∀ u∈l,u<k)(hlen:l.length=k)(hu:u<k): u∈l:=by
 refine Classical.byContradiction λh=>?_;have:=Jsz k (l:=u::l) (List.nodup_cons.2 ⟨h,hn⟩) (λx o=>by
  rcases List.mem_cons.1 o with rfl|o
  .exact hu
  .exact hlt x o)
 rw [List.length_cons]at this;omega
def Xv(perm:List Nat)(f:Nat): List Nat:=perm++(List.range f).reverse
structure PermOk(n f:Nat)(perm:List Nat): Prop where
 fn:f<=n
 len:perm.length=n-f
 rng:∀ v∈perm,f<=v/\v<n
 nd:perm.Nodup
theorem PermOk.olen{f:Nat}(h:PermOk n f perm): (Xv perm f).length=n:=by
 have:=h.len;have:=h.fn;simp [Xv];omega
theorem PermOk.ond{f:Nat}(h:PermOk n f perm): (Xv perm f).Nodup:=by
 refine List.nodup_append.2 ⟨h.nd,List.pairwise_reverse.2 (List.nodup_range.imp λh=>h.symm),λu C v o e=>?_⟩;have J:=(h.rng u C).1;have G:=List.mem_range.1 (List.mem_reverse.1 o);omega
theorem PermOk.olt{f:Nat}(h:PermOk n f perm)(hu:u∈Xv perm f): u<n:=by
 rcases List.mem_append.1 hu with h1|h1
 .exact (h.rng u h1).2
 .have:=List.mem_range.1 (List.mem_reverse.1 h1);have:=h.fn;omega
theorem PermOk.omem{f:Nat}(h:PermOk n f perm): u∈Xv perm f↔u<n :=
 ⟨h.olt,λo=>Qhb h.ond (λ_=>h.olt) h.olen o⟩
theorem Jfd(hn:ord.Nodup)(hi:i<ord.length): pre ord (ord.getD i 0)=ord.take i:=by
 have e:ord=ord.take i++ord.getD i 0::ord.drop (i+1):=by
  rw [Jr 0 ord hi,<-List.drop_eq_getElem_cons hi,List.take_append_drop]
 have o:ord.getD i 0 ∉ ord.take i:=λu=>by
  rw [e,List.nodup_append]at hn;exact hn.2.2 _ u _ (mC ..) rfl
 have:=Jfc (r:=ord.drop (i+1)) o;rw [<-e]at this;exact this
def plc(ord:List Nat)(u:Nat): Nat:=(pre ord u).length
theorem Jjc(hn:ord.Nodup)(hi:i<ord.length): plc ord (ord.getD i 0)=i:=by
 rw [plc,Jfd hn hi,List.length_take];omega
theorem Up(hn:ord.Nodup)(hu:u∈ord): plc ord u<ord.length/\ord.getD (plc ord u) 0=u:=by
 obtain ⟨i,hi,e⟩:=List.getElem_of_mem hu;have o:=Jjc hn hi;rw [Jr 0 ord hi,e]at o;rw [o];exact ⟨hi,by rw [Jr 0 ord hi,e]⟩
theorem Jgf(hn:ord.Nodup)(hv:v∈ord)(hu:u∈ord): Jws ord v u↔plc ord v<=plc ord u:=by
 obtain ⟨U,O⟩:=Up hn hv;obtain ⟨J,G⟩:=Up hn hu;have e:pre ord v=ord.take (plc ord v):=by have:=Jfd hn U;rw [O]at this;exact this
 unfold Jws;rw [e];constructor
 .intro h;rcases Nat.lt_or_ge (plc ord u) (plc ord v) with h5|h5
  .exfalso
   apply h
   refine List.mem_iff_getElem.2 ⟨plc ord u,by rw [List.length_take];omega,?_⟩;rw [List.getElem_take,<-Jr 0 ord J];exact G
  .exact h5
 .intro h o;obtain ⟨j,C,e⟩:=List.getElem_of_mem o;rw [List.length_take]at C;rw [List.getElem_take]at e;have:=Jjc hn (show j<ord.length by omega);rw [Jr 0 ord om,e]at this;omega
def Ql(n:Nat)(f:Nat->List Value): List Value:=(List.range n).flatMap f
theorem Jjq(n:Nat)(f:Nat->List Value): Ql (n+1) f=Ql n f++f n:=by simp [Ql,List.range_succ,List.flatMap_append]
theorem Jkz{sz:Nat}(h:∀ i,i<n->(f i).length=sz): (Ql n f).length=n*sz:=by
 induction n with
 | zero=>simp [Ql]
 | succ n ih=>rw [Jjq,List.length_append,ih (λi hi=>h i om),h n om,Nat.succ_mul]
theorem Jbc(h:∀ i,i<n->f i=g i): Ql n f=Ql n g:=by
 induction n with
 | zero=>rfl
 | succ n ih=>rw [Jjq,Jjq,ih (λi hi=>h i om),h n om]
theorem Jjr{sz:Nat}(h:∀ i,i<n->(f i).length=sz)(hi:i<n)(hj:j<sz): (Ql n f)[i*sz+j]?=(f i)[j]?:=by
 induction n with
 | zero=>omega
 | succ n ih=>
  have o:=Jkz (n:=n) (λi hi=>h i om);rw [Jjq];by_cases e:i=n
  .subst e;rw [List.getElem?_append_right om,o,Nat.add_sub_cancel_left]
  .have:i*sz+j<n*sz:=by
    have:(i+1)*sz<=n*sz:=nO _ om;rw [Nat.succ_mul]at this;omega
   rw [List.getElem?_append_left om];exact ih (λi hi=>h i om) om
theorem Qnj{sz:Nat}(h:∀ i,i<n->(f i).length=sz)(hi:i<n){cs:List Value}(hc:cs.length=sz): (Ql n f).take (i*sz)++cs++(Ql n f).drop (i*sz+sz)=Ql n (upd f i cs):=by
 induction n with
 | zero=>omega
 | succ n ih=>
  have C:=Jkz (n:=n) (λi hi=>h i om);have o:=h n om;rw [Jjq,Jjq];by_cases e:i=n
  .subst e;rw [List.take_append_of_le_length om,List.take_of_length_le om,List.drop_of_length_le (by rw [List.length_append];omega),List.append_nil,Jh];congr 1
   exact Jbc λk G=>(Jc _ _ om).symm
  .have J:i*sz+sz<=n*sz:=by
    have:(i+1)*sz<=n*sz:=nO _ om;rw [Nat.succ_mul]at this;exact this
   rw [List.take_append_of_le_length om,List.drop_append_of_le_length om,<-List.append_assoc,ih (λi hi=>h i om) om,Jc _ _ (λu=>e u.symm)]
open Go.RowKit Pl Go.Wk
attribute [local irreducible] WC WL QX WD WDB WP WN WG
variable {es perm:List Nat}{v x:Nat}
def Vy(o:Nat->Nat): List Value:=(List.range 32).map λi=>.int .i64 (o i:Int)
theorem Qjx(o:Nat->Nat): (Vy o).length=32:=by simp [Vy]
theorem Ud{o:Nat->Nat}(h:v<32): (Vy o)[v]?=some (.int .i64 (o v:Int)):=by simp [Vy,h]
theorem Qjw(o:Nat->Nat)(h:v<32): (Vy o).set v (.int .i64 (x:Int))=Vy (upd o v x):=by
 apply List.ext_getElem?
 intro i;rw [List.getElem?_set];by_cases e:v=i
 .subst e;rw [if_pos rfl,if_pos (by rw [Qjx];exact h),Ud h,Jh]
 .rw [if_neg e];by_cases hi:i<32
  .rw [Ud hi,Ud hi,Jc _ _ (λu=>e u.symm)]
  .simp [Vy,hi]
theorem Qml(h:perm.length<=32): Jt (nz perm)++(List.replicate 32 (Value.int .i64 0)).drop perm.length=Vy λi=>perm.getD i 0:=by
 have o:(Jt (nz perm)).length=perm.length:=by simp [Jt,nz]
 apply List.ext_getElem?
 intro i;by_cases hi:i<perm.length
 .rw [List.getElem?_append_left om,Xn hi,Ud om]
 .rw [List.getElem?_append_right om,o,List.getElem?_drop];by_cases h3:i<32
  .rw [Ud h3];have:perm.getD i 0=0:=by simp [List.getD,List.getElem?_eq_none (Nat.le_of_not_lt hi)]
   rw [this];have e:perm.length+(i-perm.length)=i:=om
   rw [e,List.getElem?_replicate,if_pos h3];rfl
  .rw [List.getElem?_eq_none (by simp;omega),List.getElem?_eq_none (by rw [Qjx];omega)]
def Qd(kf:Nat->Nat)(pf:Nat->Int)(v:Nat): List Value:=[.int .i64 (v:Int),.int .u32 (kf v:Int),.int .i64 (pf v)]
def Jwt(n:Nat)(es ord:List Nat)(kf:Nat->Nat)(pf:Nat->Int): Prop:=∀ v,v<n->kf v<4294967296/\(∀ x,(kf v).testBit x=Za (nb0 n es) ord v x) /\
 ((pf v = -1/\∀ x,Za (nb0 n es) ord v x=false)∨∃ p:Nat,pf v=p/\Za (nb0 n es) ord v p=true/\∀ x,Za (nb0 n es) ord v x=true->plc ord p<=plc ord x)
theorem EBg: ElT Tryz.prog 25 187 3 24 (.agg #[.int .i64 0,.int .u32 0,.int .i64 0]):=⟨Tryz.underlying25,info_parts kr,rfl,by decide⟩
theorem Jzq: Qp Tryz.prog 187=some (.agg #[.int .i64 0,.int .u32 0,.int .i64 0]):=kr
theorem Qtf(v k:Int)(w:World): (Instr.build 187 #[(0,.int .i64 v),(1,.int .u32 k),(2,.int .i64 (-1))]).run Tryz.prog w=.ok (.agg #[.int .i64 v,.int .u32 k,.int .i64 (-1)]) w:=kr
theorem Jxc{a b c:Int}: ∀ u∈[Value.int .i64 a,.int .u32 b,.int .i64 c],u.oneCell'=true:=λu o=>by
 simp only [List.mem_cons,List.not_mem_nil,or_false]at o;rcases o with rfl|rfl|rfl<;>rfl
theorem Qlc{zs:List Value}(h:0<zs.length)(n:Nat): (madeCells zs.toArray (n*zs.length)).toList=Ql n λ_=>zs:=by
 apply List.ext_getElem?
 intro k;by_cases hk:k<n*zs.length
 .have C:k / zs.length<n:=Nat.div_lt_of_lt_mul (by rw [Nat.mul_comm];exact hk);have o:=Nat.mod_lt k h;have u:=Jjr (n:=n) (sz:=zs.length) (f:=λ_=>zs) (λ_ _=>rfl) C o;rw [Nat.div_add_mod' k zs.length]at u;rw [u];simp only [madeCells,Array.getElem?_toList,Array.getElem?_map,Array.getElem?_range,hk,if_true,Option.map_some];simp [o]
 .have G:=Jkz (n:=n) (sz:=zs.length) (f:=λ_=>zs) (λ_ _=>rfl);rw [List.getElem?_eq_none (by simp [madeCells];omega),List.getElem?_eq_none om]
theorem made3(n:Nat): (madeCells (Value.agg #[.int .i64 0,.int .u32 0,.int .i64 0]).cells (n*3)).toList=Ql n λ_=>[.int .i64 0,.int .u32 0,.int .i64 0]:=Qlc (zs:=[.int .i64 0,.int .u32 0,.int .i64 0]) (by simp) n
def Yt(ord:List Nat)(kf:Nat->Nat)(pf:Nat->Int)(j v:Nat): List Value:=if plc ord v<j then Qd kf pf v else [.int .i64 0,.int .u32 0,.int .i64 0]
theorem Qtt(ord:List Nat)(kf:Nat->Nat)(pf:Nat->Int)(j v:Nat): (Yt ord kf pf j v).length=3:=by unfold Yt;split<;>rfl
def BagAt(n:Nat)(es ord:List Nat)(v k:Nat)(p:Int): Prop:=k<4294967296/\(∀ x,k.testBit x=Za (nb0 n es) ord v x) /\
 ((p = -1/\∀ x,Za (nb0 n es) ord v x=false)∨∃ q:Nat,p=q/\Za (nb0 n es) ord v q=true/\∀ x,Za (nb0 n es) ord v x=true->plc ord q<=plc ord x)
theorem Qxd(x y:Nat): decide (x=y) = !(y != x):=by
 by_cases h:x=y
 .subst h;simp
 .rw [decide_eq_false h,bne_iff_ne.2 (λe=>h e.symm)];rfl
theorem Qpb{w:World}{A PA:Option Addr}{c pc n f:Nat}(h:GrV w A c n es)(hp:PermOk n f perm)(hP:Rd w 1 PA perm.length (Jt (nz perm))):
  Ret Tryz.prog 80 [.agg (grC A c n es).toArray,.int .i64 (f:Int),.slice PA perm.length pc] w λu w'=>Ext w w'/\∃ B kf pf,u=.tuple #[.slice B n n,.int .i64 0]/\w'.ownsRow w.heap.size 187 3 (.slice B n n) n (Ql n (Qd kf pf))/\Jwt n es (Xv perm f) kf pf:=by
 have hn:=h.n32;have ex:=hp.fn;have f8:=hp.len;refine Jz Tryz.func80 Tryz.ntmps80 rfl kr rfl ?_;refine ρ ?_;refine bx (cs:=grC A c n es) ?_;intro w1 b3 dn fb e7;refine ρ ?_;refine lds (cs:=grC A c n es) (λj u hu=>e7.at hu) ?_;refine ρ ?_;refine cl (Qnz (h.ext dn) ex) ?_;rintro u w2 ⟨rfl,di⟩;have bf:=dn.trans di;refine ρ ?_;refine Je (fun (i:Nat) (s:Nat)=>[(1,.int .i64 (f:Int)),(2,.slice PA perm.length pc),(3,.pointer (some ⟨b3,0,none⟩)),(9,.int .u32 (s:Int)),(28,.slice PA perm.length pc),(29,.int .i64 (perm.length:Int)),(30,.int .i64 (i:Int))])
  (λi s w'=>i<=perm.length/\w'=w2/\s<4294967296/\∀ x,s.testBit x=true->x∈perm.take i) (λi _=>perm.length-i) 0 0 sB
  ⟨Nat.zero_le _,rfl,om,λx O=>by simp at O⟩ ?_
 rintro i s w' ⟨hi,rfl,hs,d5⟩;have af:=e7.ext di;refine ρ ?_;refine ci (λZ=>?_) (λZ=>?_)
 .have li:i<perm.length:=by have:=oT Z;omega
  clear Z;have e5:=hP.ext bf;have hv:=hp.rng _ (getD_mem' 0 perm li);obtain ⟨v,ev⟩:∃ v,v=perm.getD i 0:=⟨_,rfl⟩;refine ρ ?_;refine ix i e5 li ?_;refine ρ ?_;refine ld (e5.cell (Xn li)) ?_;rw [<-ev]at hv ⊢;refine ρ ?_;refine kf 37 ?_ ?_
  .exact dF om
  refine ρ ?_;refine ld (af.at (i:=0) rfl) ?_;refine ρ ?_;refine kf 43 ?_ ?_
  .exact dF om
  refine ρ ?_;refine Kh (s:=s) (v:=v) om ?_;have du:perm.take (i+1)=perm.take i++[v]:=by rw [Qb 0 li,ev]
  have ep:v ∉ perm.take i:=λhm=>by
   have J:(perm.take (i+1)).Nodup:=hp.nd.sublist (List.take_sublist _ _);rw [du,List.nodup_append]at J;exact J.2.2 _ hm _ (List.mem_singleton.2 rfl) rfl
  refine ρ ?_;refine cf ?_ ?_
  .rw [Un hs];cases hb:s.testBit v with
   | false=>rfl
   | true=>exact absurd (d5 v hb) ep
  have ch:=Gl (show v<32 by omega);refine ρ ?_;refine sl32 (v:=v) om ?_;refine ρ ?_;rw [Jjv hs ch];refine ρ ?_;refine Jl (i+1) (s ||| 2^v) sO ⟨om,rfl,Jyb hs ch,λx O=>?_⟩ om;rw [Nat.testBit_or,Jvh,Bool.or_eq_true,decide_eq_true_eq]at O;rw [du,List.mem_append,List.mem_singleton];rcases O with O|O
  .exact .inl (d5 x O)
  .exact .inr O.symm
 clear Z hs d5 hi;refine ρ ?_;refine ld (af.at (i:=0) rfl) ?_;refine ρ ?_;refine cf ?_ ?_
 .exact Qzw om
 refine ρ ?_;refine alc (cs:=List.replicate 32 (Value.int .i64 0)) Jlp ?_;intro w3 a8 c2 cz cg;refine ρ ?_;refine alc (cs:=List.replicate 32 (Value.int .i64 0)) Jlp ?_;intro w4 a1 cj cy e8;have ce:=cg.ext cj;have dg:=(bf.trans c2).trans cj;refine ρ ?_;refine sla ?_;refine ρ ?_;refine cpb (dl:=32) (dc:=32) ce (hP.ext dg) om (by simp) (λu hu=>?_) ?_
 .obtain ⟨z,_,rfl⟩:=List.mem_map.1 hu;rfl
 intro w5 cd d9;rw [Qml om]at cd;have d8:a1≠a8:=λe=>by have:=cg.lt;omega
 have db:Blk w5 a1 198 (Vy λ_=>0):=by
  have J:=e8.grown d9 (λe=>by injection e with e;exact d8 e);exact J
 have e6:Blk w5 b3 149 (grC A c n es):=by
  have J:=(af.ext (c2.trans cj)).grown d9 (λe=>by injection e with e;have:=af.lt;omega);exact J
 have c8:w'.heap.size<=a8:=cz;have eh:Ext w' w5:=Jyx (c2.trans cj) d9 c8;obtain ⟨ord,ak⟩:∃ ord,ord=Xv perm f:=⟨_,rfl⟩;have c4:ord.length=n:=by rw [ak];exact hp.olen
 have a3:ord.Nodup:=by rw [ak];exact hp.ond
 have b7:∀ {u},u∈ord↔u<n:=fun {u}=>by rw [ak];exact hp.omem
 have cv:∀ i,i<n->ord.getD i 0<n:=λi hi=>b7.1 (getD_mem' 0 ord (c4.symm ▸ hi));clear cg ce;refine ρ ?_;refine Je (fun (k:Nat) (o:Nat->Nat)=>[(1,.int .i64 (f:Int)),(2,.slice PA perm.length pc),(3,.pointer (some ⟨b3,0,none⟩)),(12,.pointer (some ⟨a8,0,none⟩)),(13,.pointer (some ⟨a1,0,none⟩)),(65,.int .i64 (f:Int)),(66,.int .i64 (k:Int))])
  (λk o w6=>k<=f/\Ext w' w6/\Blk w6 b3 149 (grC A c n es)/\Blk w6 a8 198 (Vy o)/\Blk w6 a1 198 (Vy λ_=>0)/\∀ j,j<perm.length+k->o j=ord.getD j 0) (λk _=>f-k) 0 (λi=>perm.getD i 0) sB
  ⟨Nat.zero_le _,eh,e6,cd,db,λj hj=>?_⟩ ?_
 .rw [ak];simp [Xv,List.getD,List.getElem?_append_left (show j<perm.length by omega)]
 rintro k o w6 ⟨hk,d2,bm,ah,be,ho⟩;refine ρ ?_;refine ci (λZ=>?_) (λZ=>?_)
 .have lk:k<f:=by have:=oT Z;omega
  clear Z;have d6:perm.length+k<32:=om
  refine ρ ?_;refine ixb (perm.length+k) d6 ?_;refine ρ ?_;have ev:(f:Int)-1-(k:Int)=((f-1-k:Nat):Int):=om
  rw [ev];refine sto (p:=⟨a8,perm.length+k,none⟩) (ah.cell _ |>.trans (Ud d6)) (ah.frozen _) ?_;have U:=ah.set (perm.length+k) (.int .i64 ((f-1-k:Nat):Int));rw [Qjw o d6]at U;refine ρ ?_;refine Jl (k+1) (upd o (perm.length+k) (f-1-k)) sO ⟨om,d2.setCell c8 _,bm.far (by simp only;have:=af.lt;omega) _,U,be.far (λe=>d8 e) _,λj hj=>?_⟩ om;by_cases e:j=perm.length+k
  .subst e;rw [Jh,ak];simp only [Xv,List.getD];rw [List.getElem?_append_right om,Nat.add_sub_cancel_left,List.getElem?_reverse (by simp;omega),List.length_range,List.getElem?_range om];rfl
  .rw [Jc _ _ e];exact ho j om
 have et:k=f:=by have:=oF Z;omega
 subst et;clear Z;have em:perm.length+k=n:=om
 rw [em]at ho;refine ρ ?_;refine ld (bm.at (i:=0) rfl) ?_;refine ρ ?_;refine Je (fun (i:Nat) (q:Nat->Nat)=>[(2,.slice PA perm.length pc),(3,.pointer (some ⟨b3,0,none⟩)),(12,.pointer (some ⟨a8,0,none⟩)),(13,.pointer (some ⟨a1,0,none⟩)),(80,.int .i64 (n:Int)),(81,.int .i64 (i:Int))])
  (λi q w7=>i<=n/\Ext w' w7/\Blk w7 b3 149 (grC A c n es)/\Blk w7 a8 198 (Vy o)/\Blk w7 a1 198 (Vy q)/\∀ u,u<n->plc ord u<i->q u=plc ord u) (λi _=>n-i) 0 (λ_=>0) sB
  ⟨Nat.zero_le _,d2,bm,ah,be,λu _ hu=>om⟩ ?_
 clear d2 bm ah be;rintro i q w7 ⟨hi,bw,b8,U,a9,hq⟩;refine ρ ?_;refine ci (λZ=>?_) (λZ=>?_)
 .have li:i<n:=by have:=oT Z;omega
  clear Z;have f9:=cv i li;have en:=ho i li;refine ρ ?_;refine ixb i (show i<32 by omega) ?_;refine ρ ?_;refine ld (U.atc (Ud (show i<32 by omega))) ?_;rw [en];refine ρ ?_;refine ixb (ord.getD i 0) (show ord.getD i 0<32 by omega) ?_;refine ρ ?_;refine sto (p:=⟨a1,ord.getD i 0,none⟩) (a9.cell _ |>.trans (Ud (show ord.getD i 0<32 by omega))) (a9.frozen _) ?_;have cc:=a9.set (ord.getD i 0) (.int .i64 (i:Int));rw [Qjw q (show ord.getD i 0<32 by omega)]at cc;have c7:w'.heap.size<=a1:=nL c2.size cy;refine ρ ?_;refine Jl (i+1) (upd q (ord.getD i 0) i) sO ⟨om,bw.setCell c7 _,b8.far (by simp only;have:=af.lt;omega) _,U.far (λe=>d8 e.symm) _,cc,λu hu er=>?_⟩ om;by_cases e:u=ord.getD i 0
  .rw [e,Jh,Jjc a3 (c4.symm ▸ li)]
  .rw [Jc _ _ e];refine hq u hu ?_;have J:=Up a3 (b7.2 hu);rcases Nat.lt_or_ge (plc ord u) i with h2|h2
   .exact h2
   .have:plc ord u=i:=om
    rw [this]at J;exact absurd J.2.symm e
 have ew:i=n:=by have:=oF Z;omega
 subst ew;clear Z;have dq:∀ u,u<i->q u=plc ord u:=λu hu=>hq u hu (by have:=(Up a3 (b7.2 hu)).1;omega);have c1:=bf.trans bw;refine ρ ?_;refine lds (cs:=grC A c i es) (λj u hu=>b8.at hu) ?_;refine ρ ?_;refine cl (Qpc (h.ext c1)) ?_;rintro u w8 ⟨dh,a0,rfl,e4⟩;refine ρ ?_;refine alc (cs:=Xc λ_=>0) Jzn ?_;intro w9 a4 ef cx b9;refine ρ ?_;refine sta (cs':=Xc a0) b9 ?_ (Jdj a0) (by rw [Yq,Yq]) (Yq a0).symm;intro bv b9 f0 dm;have d1:Ext w8 bv:=dm w8 ef cx;have ae:=dh.trans d1;have bd:=b8.ext ae;refine ρ ?_;refine ld (bd.at (i:=0) rfl) ?_;refine ρ ?_;refine mkn EBg i om (by unfold maxLen;omega) ?_;intro f4 B bg au _;rw [made3]at au;have ad:=ae.trans bg;have bc:=bd.ext bg;have bs:=U.ext ad;have bq:=a9.ext ad;have bp:=b9.ext bg;have ee:=c1.trans ad;refine ρ ?_;refine ld (bc.at (i:=0) rfl) ?_;have ed:w'.heap.size<=a8:=cz;have f6:a1<w7.heap.size:=a9.lt;have f7:a8<w7.heap.size:=U.lt
 have l3:b3<w7.heap.size:=b8.lt;have f5:w7.heap.size<=a4:=nL dh.size cx;have df:a4<bv.heap.size:=b9.lt;have c7:w'.heap.size<=a1:=nL c2.size cy;have e9:Ql i (λ_=>[Value.int .i64 0,.int .u32 0,.int .i64 0])=Ql i (Yt ord (λ_=>0) (λ_=>0) 0):=Jbc λv _=>by simp [Yt]
 have e0:∀ e∈es,e<2^i:=h.lt;rw [e9]at au;refine ρ ?_;refine Jqf (fun (j:Nat) (a:Nat->Nat) (kf:Nat->Nat) (pf:Nat->Int)=>[(3,.pointer (some ⟨b3,0,none⟩)),(12,.pointer (some ⟨a8,0,none⟩)),(13,.pointer (some ⟨a1,0,none⟩)),(16,.pointer (some ⟨a4,0,none⟩)),(17,.slice B i i),(96,.int .i64 (i:Int)),(97,.int .i64 (j:Int))])
  (λj a kf pf aa=>j<=i/\Ext w' aa/\w7.heap.size<=aa.heap.size/\bv.heap.size<=aa.heap.size/\Blk aa b3 149 (grC A c i es)/\Blk aa a8 198 (Vy o)/\Blk aa a1 198 (Vy q)/\Blk aa a4 199 (Xc a)/\aa.ownsRow bv.heap.size 187 3 (.slice B i i) i (Ql i (Yt ord kf pf j)) /\
   (∀ u,u<32->a u<4294967296)/\(∀ u,u<i->∀ x,(a u).testBit x=Vp (nb0 i es) (ord.take j) u x)/\∀ v,v<i->plc ord v<j->BagAt i es ord v (kf v) (pf v)) (λj _ _ _=>i-j) 0 a0 (λ_=>0) (λ_=>0) sB
  ⟨Nat.zero_le _,bw.trans ad,ad.size,bg.size,bc,bs,bq,bp,au,λu hu=>(e4 u hu).1,λu hu x=>?_,λv _ hv=>om⟩ ?_
 .rw [(e4 u om).2];rfl
 clear bc bs bq bp au bd b8 U a9 e9 b9 af;rintro j a kf pf aa ⟨hj,b4,el,ec,c9,br,ax,bo,ar,d0,c0,e1⟩;refine ρ ?_;refine ci (λZ=>?_) (λZ=>?_)
 .have lj:j<i:=by have:=oT Z;omega
  clear Z;have co:j<32:=om
  obtain ⟨v,ev⟩:∃ v,v=ord.getD j 0:=⟨_,rfl⟩;have b5:v<i:=by rw [ev];exact cv j lj
  have b6:v<32:=om
  have d3:v∈ord:=b7.2 b5;have dt:pre ord v=ord.take j:=by rw [ev];exact Jfd a3 (c4.symm ▸ lj)
  have ey:plc ord v=j:=by rw [ev];exact Jjc a3 (c4.symm ▸ lj)
  obtain ⟨G,bt⟩:∃ G,G=Vp (nb0 i es) (ord.take j):=⟨_,rfl⟩;have am:∀ x,Za (nb0 i es) ord v x=G v x:=λx=>by rw [Za,dt,bt]
  have dx:NbInv (ord.take j) G:=by rw [bt];exact (Jtg e0).at (a3.sublist (List.take_sublist _ _))
  have d4:v ∉ ord.take j:=by rw [<-dt];exact (Jvk d3).choose_spec.2
  have fa:∀ x,G v x=true->x≠v:=λx O=>(dx.gone v x d4 O).2;have dw:∀ x,G v x=true->x<i:=λx O=>by rw [<-am]at O;exact Jyn (λu x h=>(Jxh e0 h).2.1) O
  rw [<-bt]at c0;have c5:=d0 v b6;refine ρ ?_;refine ixb j co ?_;refine ρ ?_;refine ld (br.atc (Ud co)) ?_;rw [ho j lj,<-ev];refine ρ ?_;refine ixb v b6 ?_;refine ρ ?_;refine ld (bo.atc (Uo b6)) ?_;refine ρ ?_;refine bld (Qtf _ _ _) ?_;refine ρ ?_;refine alc Jzq ?_;intro f3 ay dk e2 ca;refine ρ ?_;refine stW ca ?_;intro de ca ez dj;have C:Ext aa de:=dj aa dk e2;have da:=c9.ext C;refine ρ ?_;refine ld (da.at (i:=0) rfl) ?_;refine ρ ?_;refine Xm (fun (u:Nat) (a':Nat->Nat) (par:Int)=>[(3,.pointer (some ⟨b3,0,none⟩)),(12,.pointer (some ⟨a8,0,none⟩)),(13,.pointer (some ⟨a1,0,none⟩)),(16,.pointer (some ⟨a4,0,none⟩)),(17,.slice B i i),(96,.int .i64 (i:Int)),(97,.int .i64 (j:Int)),(19,.int .i64 (v:Int)),(20,.pointer (some ⟨ay,0,none⟩)),(109,.int .i64 (i:Int)),(110,.int .i64 (u:Int))])
   (λu a' par a5=>u<=i/\GrN (λk=>k=a4∨k=ay) de a5/\Blk a5 a4 199 (Xc a')/\Blk a5 ay 187 [.int .i64 (v:Int),.int .u32 (a v:Int),.int .i64 par] /\
    (∀ x,x<32->a' x<4294967296)/\(∀ x,x<i->∀ y,(a' x).testBit y=if x<u then Ue v G x y else G x y) /\
    ((par = -1/\∀ x,x<u->G v x=false)∨∃ p:Nat,par=p/\p<u/\G v p=true/\∀ x,x<u->G v x=true->plc ord p<=plc ord x)) (λu _ _=>i-u) 0 a (-1) sB
   ⟨Nat.zero_le _,GrN.refl _ _,bo.ext C,ca,d0,λx O y=>by rw [if_neg om];exact c0 x O y,.inl ⟨rfl,λx O=>om⟩⟩ ?_
  rintro u a' par a5 ⟨hu,a6,aw,a7,ap,bj,aj⟩;refine ρ ?_;refine ci (λZ=>?_) (λZ=>?_)
  .have lu:u<i:=by have:=oT Z;omega
   clear Z;have a2:u<32:=om
   refine ρ ?_;refine ld (a7.at (i:=1) rfl) ?_;refine ρ ?_;refine Kh (s:=a v) (v:=u) om ?_;refine ρ ?_;refine ci (λZ=>?_) (λZ=>?_)
   .rw [Qkg c5,c0 v b5]at Z;have bz:G v u=false:=by simpa using Z
    refine ρ ?_;refine Qt (u+1) a' par sO ⟨om,a6,aw,a7,ap,λx O y=>?_,?_⟩ om
    .rw [bj x O];by_cases e:x=u
     .subst e;rw [if_neg om,if_pos om,Ue,if_neg (by rw [bz];simp)]
     .by_cases J:x<u
      .rw [if_pos J,if_pos om]
      .rw [if_neg J,if_neg om]
    .rcases aj with ⟨J,h2⟩|⟨p,J,h2,h3,h4⟩
     .refine .inl ⟨J,λx O=>?_⟩;by_cases e:x=u
      .rw [e];exact bz
      .exact h2 x om
     .refine .inr ⟨p,J,om,h3,λx O ao=>?_⟩;by_cases e:x=u
      .rw [e,bz]at ao;cases ao
      .exact h4 x om ao
   .rw [Qkg c5,c0 v b5]at Z;have bz:G v u=true:=by simpa using Z
    have cq:Ext w' a5:=a6.old (b4.trans C) (λk hk=>by
     rcases hk with rfl|rfl
     .have:=bw.size;omega
     .have:=b4.size;omega)
    have cn:Blk a5 a1 198 (Vy q):=Jv (ax.ext C) a6 (by
     rintro (h|h)
     .omega
     .have:=ax.lt;omega)
    refine ρ ?_;refine Xt (fun (t:Bool)=>[(3,.pointer (some ⟨b3,0,none⟩)),(12,.pointer (some ⟨a8,0,none⟩)),(13,.pointer (some ⟨a1,0,none⟩)),(16,.pointer (some ⟨a4,0,none⟩)),(17,.slice B i i),(96,.int .i64 (i:Int)),(97,.int .i64 (j:Int)),(19,.int .i64 (v:Int)),(20,.pointer (some ⟨ay,0,none⟩)),(109,.int .i64 (i:Int)),(110,.int .i64 (u:Int)),(21,.int .i64 (u:Int)),(131,.bool t)])
     (λt bu=>Ext a5 bu/\(t=true->par = -1∨∃ p:Nat,par=p/\plc ord u<plc ord p)/\(t=false->∃ p:Nat,par=p/\plc ord p<=plc ord u)) ?_ ?_
    .have b1:Ext a5 a5.drew:=(Ext.refl a5).drew;have ag:=a7.ext b1;have cb:=cn.ext b1;refine dr [(0,0),(0,1),(0,2),(0,3),(0,4),(0,5),(0,6),(0,7),(0,8),(0,9),(0,10),(0,11),(0,12)] kr ?_;refine ρd ?_;refine dld (ag.at (i:=2) rfl) ?_;refine ρd ?_;refine dki 122 (λJ=>?_) (λJ=>?_)
     .have h2:par<0:=oT J;have h3:par = -1:=by
       rcases aj with ⟨h4,_⟩|⟨p,h4,_⟩
       .exact h4
       .omega
      refine ρd ?_;refine ρ ?_;exact Jf true sB ⟨b1,λ_=>.inl h3,λe=>by cases e⟩
     .have h2:¬ par<0:=oF J;obtain ⟨p,h4,h5,h6,h7⟩:∃ p:Nat,par=p/\p<u/\G v p=true/\∀ x,x<u->G v x=true->plc ord p<=plc ord x:=by
       rcases aj with ⟨h4,_⟩|h4
       .omega
       .exact h4
      subst h4;refine ρd ?_;refine dixb u a2 ?_;refine ρd ?_;refine dld (cb.atc (Ud a2)) ?_;refine ρd ?_;refine dld (ag.at (i:=2) rfl) ?_;refine ρd ?_;refine dixb p (show p<32 by omega) ?_;refine ρd ?_;refine dld (cb.atc (Ud (show p<32 by omega))) ?_;rw [dq u lu,dq p om];refine ρd ?_;refine ρ ?_;refine Jf _ sB ⟨b1,λe=>.inr ⟨p,rfl,?_⟩,λe=>⟨p,rfl,?_⟩⟩
      .have:=oT e;omega
      .have:=oF e;omega
    rintro t bu ⟨b2,ek,ej⟩;have ac:=a7.ext b2;refine ρ ?_;refine Xt (fun (ai:Int)=>[(3,.pointer (some ⟨b3,0,none⟩)),(12,.pointer (some ⟨a8,0,none⟩)),(13,.pointer (some ⟨a1,0,none⟩)),(16,.pointer (some ⟨a4,0,none⟩)),(17,.slice B i i),(96,.int .i64 (i:Int)),(97,.int .i64 (j:Int)),(19,.int .i64 (v:Int)),(20,.pointer (some ⟨ay,0,none⟩)),(109,.int .i64 (i:Int)),(110,.int .i64 (u:Int)),(21,.int .i64 (u:Int))])
     (λai an=>GrN (λk=>k=ay) bu an/\Blk an ay 187 [.int .i64 (v:Int),.int .u32 (a v:Int),.int .i64 ai]/\((ai = -1/\∀ x,x<u+1->G v x=false)∨∃ p:Nat,ai=p/\p<u+1/\G v p=true/\∀ x,x<u+1->G v x=true->plc ord p<=plc ord x)) ?_ ?_
    .refine ci (λht=>?_) (λht=>?_)
     .refine ρ ?_;refine sto (p:=⟨ay,2,none⟩) (ac.cell 2) (ac.frozen _) ?_;refine ρ ?_;refine Jf (u:Int) sB ⟨GrN.set _ rfl,ac.set 2 _,.inr ⟨u,rfl,Nat.lt_succ_self u,bz,λx O ao=>?_⟩⟩;by_cases e:x=u
      .rw [e];exact Nat.le_refl _
      .rcases aj with ⟨_,h2⟩|⟨p,J,h2,h3,h4⟩
       .rw [h2 x om]at ao;cases ao
       .have h5:=h4 x om ao;rcases ek ht with h6|⟨p',h6,h7⟩
        .omega
        .have:p=p':=om
         subst this;omega
     .obtain ⟨p',h6,h7⟩:=ej ht;refine ρ ?_;refine Jf par sB ⟨GrN.refl _ _,ac,.inr ?_⟩;rcases aj with ⟨J,h2⟩|⟨p,J,h2,h3,h4⟩
      .omega
      .have:p=p':=om
       subst this;refine ⟨p,J,om,h3,λx O ao=>?_⟩;by_cases e:x=u
       .rw [e];exact h7
       .exact h4 x om ao
    rintro ai an ⟨cw,ck,d7⟩;have bi:a4≠ay:=om
    have cm:Blk an a4 199 (Xc a'):=Jv (aw.ext b2) cw bi;have b1:Ext an an.drew:=(Ext.refl an).drew;have av:=cm.ext b1;have ag:=ck.ext b1;have e3:=ap u a2;have ea:=Gl a2;have ch:=Gl b6;refine ρ ?_;refine drN (λ_=>False) 15 [(0,0),(0,1),(0,2),(0,3),(0,4),(0,5),(0,6),(0,7),(0,8),(0,9),(0,10),(0,11),(0,12),(0,13),(2,14)] kr ?_;refine ρn ?_;refine nixb u a2 ?_;refine ρn ?_;refine nld (Jp (av.atc (Uo a2)) (λe=>e)) ?_;refine ρn ?_;refine nld (Jp (ag.at (i:=1) rfl) (λe=>e)) ?_;refine ρn ?_;refine Jfl a2 ?_;refine ρn ?_;refine Jfl b6 ?_;refine ρn ?_;refine nixb u a2 ?_;refine ρn ?_;refine Xy ?_;have c3:=Jyb e3 c5;have cr:=Jyb ea ch;obtain ⟨nw,dd⟩:∃ nw,nw=Gv (a' u ||| a v) (2^u ||| 2^v):=⟨_,rfl⟩;have eo:nw<4294967296:=by rw [dd];exact Qwc c3
    have eb:bits .andNot .u32 (bits .or .u32 (a' u:Int) (a v:Int)) (bits .or .u32 ((2^u:Nat):Int) ((2^v:Nat):Int))=(nw:Int):=by
     rw [Jjv e3 c5,Jjv ea ch,Jhv c3 cr,dd]
    refine sto (p:=⟨a4,u,none⟩) (av.cell u |>.trans (Uo a2)) (av.frozen _) ?_;rw [eb];have bn:=av.set u (.int .u32 (nw:Int));rw [Jdh a' a2]at bn;have dz:GrN (λk=>k=a4) an.drew (an.drew.setCell ⟨a4,u,none⟩ (.int .u32 (nw:Int))):=GrN.set _ rfl;refine ω5 ?_;refine Uv ?_;refine ρn ?_;refine ρ ?_;refine Qt (u+1) (upd a' u nw) ai sO ⟨om,?_,bn,ag.far (λe=>bi e.symm) _,λx O=>?_,λx O y=>?_,d7⟩ om
    .exact ((a6.trans (GrN.ext b2)).trans (cw.mono λk _ hk=>.inr hk)).trans ((GrN.ext b1).trans (dz.mono λk _ hk=>.inl hk))
    .by_cases e:x=u
     .rw [e,Jh];exact eo
     .rw [Jc _ _ e];exact ap x O
    .by_cases e:x=u
     .subst e;rw [Jh,if_pos (Nat.lt_succ_self x),dd,Jlh c3 cr,Nat.testBit_or,Nat.testBit_or,Jvh,Jvh,bj x O,if_neg (Nat.lt_irrefl x),c0 v b5,Ue,if_pos bz];rw [Qxd x y,Qxd v y];cases G x y<;>cases G v y<;>cases (y != x)<;>cases (y != v)<;>rfl
     .rw [Jc _ _ e,bj x O];by_cases J:x<u
      .rw [if_pos J,if_pos om]
      .rw [if_neg J,if_neg om]
  .have ei:u=i:=by have:=oF Z;omega
   subst ei;clear Z;have cq:Ext w' a5:=a6.old (b4.trans C) (λk hk=>by
    rcases hk with rfl|rfl
    .have:=bw.size;omega
    .have:=b4.size;omega)
   have ba:∀ {g t:Nat} {cs:List Value},Blk aa g t cs->g≠a4->Blk a5 g t cs:=λhB J=>Jv (hB.ext C) a6 (by
    rintro (h|h)
    .exact J h
    .have:=hB.lt;omega)
   have aq:a5.ownsRow bv.heap.size 187 3 (.slice B u u) u (Ql u (Yt ord kf pf j)):=Js (Jk ar C) a6 (λg eg hk=>by
    obtain ⟨_,_,_,_,c6⟩:=Jy ar;have h5:=c6 g eg;rcases hk with rfl|rfl<;>omega)
   refine ρ ?_;refine ldW a7 ?_;refine ρ ?_;refine ixq 3 v (Rd.own aq) b5 ?_;refine ρ ?_;refine stoE (cs:=[.int .i64 (v:Int),.int .u32 (a v:Int),.int .i64 par]) aq b5 ?_ Jxc;intro bu bb bh;rw [Qnj (λv _=>Qtt ord kf pf j v) b5 rfl]at bb;have eg:Ql u (upd (Yt ord kf pf j) v [.int .i64 (v:Int),.int .u32 (a v:Int),.int .i64 par])=Ql u (Yt ord (upd kf v (a v)) (upd pf v par) (j+1)):=by
    refine Jbc λx O=>?_;by_cases e:x=v
    .subst e;rw [Jh,Yt,if_pos om];simp only [Qd,Jh]
    .rw [Jc _ _ e];have dv:plc ord x≠j:=λe'=>by
      have J:=(Up a3 (b7.2 O)).2;rw [e',<-ev]at J;exact e J.symm
     unfold Yt;by_cases J:plc ord x<j
     .rw [if_pos J,if_pos om];simp only [Qd,Jc _ _ e]
     .rw [if_neg J,if_neg om]
   rw [eg]at bb;have ab:∀ {g t:Nat} {cs:List Value},Blk a5 g t cs->g<bv.heap.size->Blk bu g t cs:=λhB J=>hB.grown bh (λe=>by
    obtain ⟨_,_,_,_,c6⟩:=Jy aq;have h5:=c6 _ e.symm;omega)
   have b2:Ext w' bu:=Qf cq bh (λg eg=>by
    obtain ⟨_,_,_,_,c6⟩:=Jy aq;have h5:=c6 g eg;have:=bw.size;have:=ae.size;omega)
   have f2:=ae.size;refine ρ ?_;refine Gg (j+1) a' (upd kf v (a v)) (upd pf v par) sO ⟨om,b2,by have:=C.size;have:=a6.size;have:=bh.size;omega,by have:=C.size;have:=a6.size;have:=bh.size;omega,ab (ba c9 om) om,ab (ba br om) om,ab (ba ax om) om,ab aw df,bb,ap,λx O y=>?_,λx O er=>?_⟩ om
   .rw [bj x O,if_pos O,Qb 0 (c4.symm ▸ lj),<-ev,Jtf,<-bt];rfl
   .by_cases e:x=v
    .subst e;rw [Jh,Jh];refine ⟨c5,λy=>by rw [c0 x b5,am],?_⟩;rcases aj with ⟨J,h2⟩|⟨p,J,h2,h3,h4⟩
     .refine .inl ⟨J,λy=>?_⟩;rw [am];cases hb:G x y with
      | false=>rfl
      | true=>exact absurd (h2 y (dw y hb)) (by rw [hb];simp)
     .exact .inr ⟨p,J,by rw [am];exact h3,λy hy=>h4 y (dw y (by rw [<-am];exact hy)) (by rw [<-am];exact hy)⟩
    .rw [Jc _ _ e,Jc _ _ e];refine e1 x O ?_;have dv:plc ord x≠j:=λe'=>by
      have J:=(Up a3 (b7.2 O)).2;rw [e',<-ev]at J;exact e J.symm
     omega
 .have eu:j=i:=by have:=oF Z;omega
  subst eu;clear Z;refine ρ ?_;refine Yw ⟨bf.trans b4,B,kf,pf,rfl,?_,λv hv=>?_⟩
  .have e:Ql j (Yt ord kf pf j)=Ql j (Qd kf pf):=Jbc λv hv=>by
    have:=(Up a3 (b7.2 hv)).1;rw [Yt,if_pos om]
   rw [e]at ar;exact Jvz ar (by have:=c1.size;have:=ae.size;omega)
  .have:=e1 v hv (by have:=(Up a3 (b7.2 hv)).1;omega);rw [<-ak];exact this
open Go.RowKit Pl Go.Wk
variable {ca cb n v:Nat}{pf:Nat->Int}
theorem Qnx{kf:Nat->Nat}(hv:v<32)(hk:kf v<4294967296)(w:World): Ret Tryz.prog 129 [.agg (Qd kf pf v).toArray] w λu w'=>u=.int .u32 ((kf v ||| 2^v:Nat):Int)/\Ext w w':=by
 refine Jz Tryz.func129 Tryz.ntmps129 rfl kr rfl ?_;refine ρ ?_;refine bx (cs:=Qd kf pf v) ?_;intro G b J U O;refine ρ ?_;refine ld (O.at (i:=0) rfl) ?_;refine ρ ?_;refine ld (O.at (i:=0) rfl) ?_;refine ρ ?_;refine cf ?_ ?_
 .exact dF om
 have o:Ext G G.drew:=(Ext.refl G).drew;have C:=O.ext o;refine ρ ?_;refine dr [(0,0),(0,1),(0,2),(0,3),(0,4),(0,5),(0,6)] kr ?_;refine ρd ?_;refine dld (C.at (i:=1) rfl) ?_;refine ρd ?_;refine dld (C.at (i:=0) rfl) ?_;refine ρd ?_;refine dsl32 hv ?_;refine ρd ?_;refine ρ ?_;refine Jq ⟨?_,J.trans o⟩;rw [Jjv hk (Gl hv)]
def Jbz(n m:Nat)(vars:Nat->List Nat)(rs:Nat->List Row)(s:Nat)(l:List Row): Prop:=Lt [] l/\(∀ x,x∈l↔∃ z:Row,z.length=n/\x=pmR (bk s 32) z/\Kk m vars rs s z)/\l.length<=65536
def Vd(s:Nat)(l:List Row): Atm:=⟨nz (bk s 32),(bk s 32).length,l⟩
theorem Qtr{w:World}{ts:List TA}{Aa B:Option Addr}{vars:Nat->List Nat}{rs:Nat->List Row}{kf:Nat->Nat}(hn32:n<=32)(hok:∀ v,v<n->MOk n ts vars rs (kf v ||| 2^v))(hR:Rd w 3 Aa ts.length (atC ts))(hle:ts.length<=ca)(hat:∀ p∈ts,AtV w p.1 p.2)(hB:Rd w 3 B n (Ql n (Qd kf pf)))(hk:∀ v,v<n->kf v<4294967296)(hcap:∀ v,v<n->∀ l:List Row,Lt [] l->(∀ x∈l,∃ z:Row,z.length=n/\x=pmR (bk (kf v ||| 2^v) 32) z/\Kk ts.length vars rs (kf v ||| 2^v) z)->l.length<=65536):
  Ret Tryz.prog 81 [.int .i64 (n:Int),.slice B n cb,.slice Aa ts.length ca] w λu w'=>Ext w w'/\∃ (va:Value) (st:Int) (R:Nat->List Row),u=.tuple #[va,.int .i64 st,.int .i64 0] /\
   Off (λk=>k<w.heap.size) w' (λx=>GV 3 AtG x va ((List.range n).map λv=>Vd (kf v ||| 2^v) (R v)))/\∀ v,v<n->Jbz n ts.length vars rs (kf v ||| 2^v) (R v):=by
 refine Jz Tryz.func81 Tryz.ntmps81 rfl kr rfl ?_;refine ρ ?_;refine Jqf (fun (v:Nat) (va:Value) (st:Int) (R:Nat->List Row)=>[(0,.int .i64 (n:Int)),(2,.slice Aa ts.length ca),(9,va),(10,.int .i64 st),(16,.slice B n cb),(17,.int .i64 (n:Int)),(18,.int .i64 (v:Int))])
  (λv va st R w'=>v<=n/\Ext w w'/\OwnG 99 3 AtG w' w.heap.size va ((List.range v).map λu=>Vd (kf u ||| 2^u) (R u))/\∀ u,u<v->Jbz n ts.length vars rs (kf u ||| 2^u) (R u)) (λv _ _ _=>n-v) 0 (.slice none 0 0) 0 (λ_=>[]) sB
  ⟨Nat.zero_le _,Ext.refl _,OwnG.nil _ _,λu hu=>om⟩ ?_
 rintro v va st R w1 ⟨hv,J,a6,ae⟩;refine ρ ?_;refine ci (λhc=>?_) (λhc=>?_)
 .have lv:v<n:=by have:=oT hc;omega
  clear hc;have ag:=hB.ext J;have a5:∀ j u,(Qd kf pf v)[j]?=some u->w1.cell? ((adr B (v*3)).add j)=some u:=λj u hu=>by
   have hj:j<3:=by
    rcases Nat.lt_or_ge j 3 with h'|h'
    .exact h'
    .rw [List.getElem?_eq_none (by simp [Qd];omega)]at hu;cases hu
   rw [Xh];exact ag.cell ((Jjr (sz:=3) (λ_ _=>rfl) lv hj).trans hu)
  refine ρ ?_;refine ixq 3 v ag lv ?_;refine ρ ?_;refine lds (cs:=Qd kf pf v) a5 ?_;refine ρ ?_;refine alc Jzq ?_;intro w2 bf av ad U;refine ρ ?_;refine stb (cs':=Qd kf pf v) U ?_ Jxc;intro w3 U bc au;have a9:Ext w1 w3:=au w1 av ad;refine ρ ?_;refine lds (cs:=Qd kf pf v) (λj u hu=>U.at hu) ?_;refine ρ ?_;refine cl (Qnx om (hk v lv) w3) ?_;rintro u w4 ⟨rfl,ar⟩;have G:=a9.trans ar;have o:=J.trans G;refine ρ ?_;refine cl (Qhv (hok v lv) (hR.ext o) hle (λp hp=>(hat p hp).ext o) (hcap v lv)) ?_;rintro u w5 ⟨aq,⟨p1,p2,p3⟩,am,l,rfl,a2,ax,ab,ay⟩;have b5:=a2.here;obtain ⟨⟨PA,pc,aj,b9,b7,b6⟩,ai,Z⟩:=id b5;simp only at aj ai;obtain ⟨a7,PG,a4,_,ah,_⟩:=id Z;simp only at ah;subst aj;subst ai;subst ah;refine ρ ?_;refine alc Vu ?_;intro w6 be ap ac O;refine ρ ?_;refine stb (cs':=[.slice PA (nz (bk (kf v ||| 2^v) 32)).length pc,.int .i64 ((bk (kf v ||| 2^v) 32).length:Int),.slice PG a7.length a4]) O ?_ (Kl rfl)
  intro w7 O bb ao;have a1:Ext w5 w7:=ao w5 ap ac;refine ρ ?_;refine ldW O ?_;refine ρ ?_;refine bsl (Jbq _ _ _ PA PG _ pc _ a4 _ rfl rfl rfl) ?_;intro w8 b8 a8 bd b4;have C:=((G.trans aq).trans a1).trans a8;obtain ⟨_,_,_,_,af⟩:=a6.form;have hΦ:Off (Qa w.heap.size va) w8 (λu=>AtG u [.slice PA (nz (bk (kf v ||| 2^v) 32)).length pc,.int .i64 ((bk (kf v ||| 2^v) 32).length:Int),.slice PG a7.length a4] (Vd (kf v ||| 2^v) l)):=by
   refine ((a2.imp λu h=>⟨_,rfl,h⟩).mono λk _ b1=>?_).ext (a1.trans a8);rcases b1 with h'|h'
   .exact nM h' o.size
   .exact nM (af k h').2 G.size
  refine ρ ?_;refine apG EA (Φ:=AtG) (a6.ext C) b4 rfl (Kl rfl) hΦ (by simp;omega) om (J.trans C).size ?_;intro ak w9 b3 b2 ba;have an:Ext w w9:=Qf (J.trans C) b2 (λg eg=>(af g eg).1);obtain ⟨a3,aa⟩:∃ a3:Int,a3=IntKind.i64.wrap (st+am):=⟨_,rfl⟩;refine ρ ?_;rw [<-aa];refine ρ ?_;refine Gg (v+1) ak a3 (upd R v l) sO ⟨om,an,?_,λu hu=>?_⟩ om
  .rw [List.range_succ,List.map_append,List.map_singleton,Jh];have e:(List.range v).map (λu=>Vd (kf u ||| 2^u) (upd R v l u))=(List.range v).map (λu=>Vd (kf u ||| 2^u) (R u)):=by
    refine List.map_congr_left λj hj=>?_;have:=List.mem_range.1 hj;rw [Jc _ _ om]
   rw [e];exact b3
  .by_cases e:u=v
   .subst e;rw [Jh];exact ⟨ax,ab,ay⟩
   .rw [Jc _ _ e];exact ae u om
 .have aw:v=n:=by have:=oF hc;omega
  subst aw;clear hc;refine ρ ?_;exact Zb ⟨J,va,st,R,rfl,a6.off (by simp;omega),ae⟩
end Go.Proofs.YtebcagekopgdhaaGreatDoor
namespace Go.Wk
open Go.Lib
variable {cs xs:List Value}{d e g m n t ty:Nat}{w w':World}
theorem aps{P:Program}{tt:TT}[h:Tab P tt]{al:AL}{Q:Exit->Act->World->Prop}{ops:Array Oper}{rest:List Oper}{pos:String}{aft:Array Edge}{u base:Nat}{ku:TK}{x y:Operand}{v:Value}{s:ByteArray}(hE:ElT P t e 1 1 (.int .u8 0))(ha:w.ownsRow base e 1 v m xs)(hby:m+s.size<=140737488355328)(hbase:base<=w.heap.size)(kk:∀ v' w',w'.ownsRow base e 1 v' (m+s.size) (xs++strCells s)->w.grownBy w' v.ownBlock->WL P n ops Q rest ((d,v')::al) w')(hu:tk tt u=some ku:=by rfl)(hku:ku.desc=.string:=by rfl)(hx:ev al x=some v:=by rfl)(hy:ev al y=some (.string s):=by rfl)(hd:Nat.blt d n=true:=by rfl):
  WL P n ops Q (⟨some d,.call { callee:=.builtin .append,args:=#[x,y],argTypes:=#[t,u] },ty,pos,aft,none⟩::rest) al w:=by
 obtain ⟨i,hi,Z,G,J⟩:=hE.info;obtain ⟨v',w',o,U,O,k3⟩:=run_append_own_string w base t u ty e i hE.sl (Vh h.ok hu hku rfl) hi Z G J v m xs ha s (by unfold maxLen;omega) hby hbase;refine wop hd (λa C=>?_) (kk v' w' U O);simp [execOp,resolve,invoke,builtin,C.ev hx,C.ev hy,o]
theorem _root_.Go.Wk.Blk.others(h:Blk w g t cs)(ho:OthersKept e none w w')(hne:Nat.beq e t=false): Blk w' g t cs :=
 ho g _ h (by simp) (λc u o=>by injection o with _ h2 _;subst h2;simp at hne)
end Go.Wk
namespace Go.Proofs.YtebcagekopgdhaaGreatDoor
open Go.RowKit Pl Go.Wk
attribute [local irreducible] WC WL QX WD WDB WP WN WG
variable {B B0 c i:Nat}{r:Row}{sv v:Value}{w w':World}
def Kr(v:V): List UInt8:=Lib.itoa v.kind++[44]++(Lib.itoa v.num++[44])++(Lib.itoa (v.str.size:Int)++[44])++v.bytes
def idn(r:Row): List UInt8:=r.flatMap Kr
structure TB(B0:Nat)(w:World): Prop where
 le:B0<=w.heap.size
 tab:Lib.TabBelow Tryz.prog B0 w "internal/strconv.uint64pow10" .u64 Lib.pow10Tab
theorem TB.below(h:TB B0 w)(hb:Below B w w')(hle:B0<=B): TB B0 w':=⟨nL h.le hb.size,h.tab.on (hb.mono hle)⟩
theorem TB.ext(h:TB B0 w)(hx:Ext w w'): TB B0 w':=h.below hx h.le
theorem EU8: ElT Tryz.prog 248 5 1 1 (.int .u8 0):=⟨Tryz.underlying248,info_parts kr,rfl,by decide⟩
theorem Jlg{l:List UInt8}{i:Int}(hT:TB B0 w)(hB0:B0<=B)(hBw:B<=w.heap.size)(h0:-9223372036854775808<=i)(h1:i<=9223372036854775807)(hlim:l.length+21<=140737488355328)(ho:w.ownsRow B 5 1 sv l.length (Bc l)): Ret Tryz.prog 167 [sv,.int .i64 i,.int .i64 10] w λu w'=>w'.ownsRow B 5 1 u (l++Lib.itoa i).length (Bc (l++Lib.itoa i))/\Below B w w'/\Lib.OthersKept 5 none w w':=by
 refine ⟨⟨_,_,Tryz.func167,rfl,kr⟩,?_⟩;refine (Tryz.strconv_AppendInt_10 B l.length i h0 h1 sv (Bc l) w ho hBw hlim λw' O=>hT.tab w' (O.mono hB0)).mono ?_;rintro e w' ⟨o,rfl,J,G,C⟩;refine ⟨o,rfl,?_,G,C⟩;have U:Bc (l++Lib.itoa i)=Bc l++Lib.byteCells (Lib.itoa i):=by simp [Bc,Lib.byteCells]
 rw [U,List.length_append];exact J
def Vt(v:V): Prop:=(-9223372036854775808<=v.kind/\v.kind<=9223372036854775807)/\(-9223372036854775808<=v.num/\v.num<=9223372036854775807)
theorem Jhs(z:Int)(w:World): (Instr.buildSlice 248 1 #[(0,.int .u8 z)]).run Tryz.prog w=.ok (.slice (some ⟨w.heap.size,0,none⟩) 1 1) (w.alloc (.cells [.int .u8 z].toArray 5)):=kr
theorem Qqc(h:i<r.length): idn (r.take (i+1))=idn (r.take i)++Kr (r.getD i V0):=by
 unfold idn;rw [Qb V0 h,List.flatMap_append];simp only [List.flatMap_cons,List.flatMap_nil,List.append_nil]
theorem Qmt(h:i<r.length): (idn (r.take i)).length+(Kr (r.getD i V0)).length<=(idn r).length:=by
 have e:idn r=idn (r.take (i+1))++idn (r.drop (i+1)):=by unfold idn;rw [<-List.flatMap_append,List.take_append_drop]
 rw [e,Qqc h,List.length_append,List.length_append];omega
theorem Bc_app(a b:List UInt8): Bc (a++b)=Bc a++Bc b:=by simp [Bc]
theorem Bc_one(l:List UInt8): ∀ u∈Bc l,u.oneCell'=true:=λu o=>by
 obtain ⟨c,_,rfl⟩:=List.mem_map.1 o;rfl
theorem Jlf(l:List UInt8)(c:UInt8): l.length+1=(l++[c]).length:=by simp
theorem Gm{base e sz n:Nat}{cs:List Value}(h:w.ownsRow base e sz v n cs): ∀ k,v.ownBlock=some k->base<=k:=λk o=>by
 obtain ⟨A,c,rfl,_,u⟩:=Jy h;exact (u k o).1
theorem Jxs{A:Option Addr}(hT:TB B0 w)(hR:RdR w A r)(hfit:∀ v∈r,Vt v)(hlim:(idn r).length+64<=140737488355328)(hr:r.length<=1000000):
  Ret Tryz.prog 134 [.slice A r.length c] w λu w'=>u=.string (str (idn r))/\Ext w w':=by
 refine Jz Tryz.func134 Tryz.ntmps134 rfl kr rfl ?_;refine ρ ?_;refine Je (fun (i:Nat) (vn:Value)=>[(3,vn),(6,.slice A r.length c),(7,.int .i64 (r.length:Int)),(8,.int .i64 (i:Int))])
  (λi vn w'=>i<=r.length/\Ext w w'/\w'.ownsRow w.heap.size 5 1 vn (idn (r.take i)).length (Bc (idn (r.take i)))) (λi _=>r.length-i) 0 (.slice none 0 0) sB
  ⟨Nat.zero_le _,Ext.refl _,Xa _ _ _ _⟩ ?_
 rintro i vn w1 ⟨hi,a5,hn⟩;refine ρ ?_;refine ci (λh=>?_) (λh=>?_)
 .have li:i<r.length:=by have:=oT h;omega
  clear h;have ag:RdR w1 A r:=Rd.ext hR a5;have bq:=Qmt li;have hf:=hfit _ (getD_mem' V0 r li);refine ρ ?_;refine ixq 3 i ag li ?_;refine ρ ?_;refine lds (cs:=(r.getD i V0).cells) (λj u hu=>RdR.cell ag li hu) ?_;refine ρ ?_;refine alc (cs:=V0.cells) Ur ?_;intro w2 b b9 hb ay;refine ρ ?_;refine stb (cs':=(r.getD i V0).cells) ay ?_ (V.one _);intro w3 am bs a8;have an:Ext w1 w3:=a8 w1 b9 hb;have ap:=Jk hn an;have U:=a5.trans an;have bu:w.heap.size<=b:=nL a5.size hb;have ba:=Qqc li;generalize r.getD i V0=v at *
  generalize idn (r.take i)=l0 at *
  have bb:=Jzv v;have br:(Kr v).length=(Lib.itoa v.kind).length+1+((Lib.itoa v.num).length+1)+((Lib.itoa (v.str.size:Int)).length+1)+v.bytes.length:=by simp only [Kr,List.length_append,List.length_cons,List.length_nil]
  clear hn ay a8 ag;refine ρ ?_;refine ld (am.at (i:=0) rfl) ?_;refine ρ ?_;refine cl (Jlg (B:=w.heap.size) (l:=l0) (i:=v.kind) (hT.ext U) hT.le U.size hf.1.1 hf.1.2 (by first|omega|simp only [List.length_append,List.length_cons,List.length_nil];omega) ap) ?_;rintro u4 w4 ⟨ae,ax,bd⟩;have a7:Ext w w4:=Below.trans U ax;have ak:=am.others bd rfl;clear ap am;refine ρ ?_;refine bsl (Jhs _) ?_;intro w5 b5 G bw bg;refine ρ ?_;refine apb (m':=1) (news:=Bc [44]) EU8 (Jk ae G) (bg.rd (n:=1) rfl) (Bc_one _) (by unfold maxLen;first|omega|simp only [List.length_append];omega) (by first|omega|simp only [List.length_append];omega) (a7.trans G).size ?_;intro v6 w6 ad au bp;rw [<-Bc_app,Jlf _ 44]at ad;have O:Ext w w6:=Qf (a7.trans G) au (Gm (Jk ae G));have aj:=(ak.ext G).grown au ((ak.ext G).ne_own (Jk ae G) rfl);clear ak;refine ρ ?_;refine ld (aj.at (i:=1) rfl) ?_
  refine ρ ?_;refine cl (Jlg (B:=w.heap.size) (l:=l0++Lib.itoa v.kind++[44]) (i:=v.num) (hT.ext O) hT.le O.size hf.2.1 hf.2.2 (by first|omega|simp only [List.length_append,List.length_cons,List.length_nil];omega) ad) ?_;rintro u7 w7 ⟨ac,aw,bc⟩;have a6:Ext w w7:=Below.trans O aw;have ai:=aj.others bc rfl;clear ad aj;refine ρ ?_;refine bsl (Jhs _) ?_;intro w8 b8 C bv bf;refine ρ ?_;refine apb (m':=1) (news:=Bc [44]) EU8 (Jk ac C) (bf.rd (n:=1) rfl) (Bc_one _) (by unfold maxLen;first|omega|simp only [List.length_append,List.length_cons,List.length_nil];omega) (by first|omega|simp only [List.length_append,List.length_cons,List.length_nil];omega) (a6.trans C).size ?_;intro v9 w9 ab ar bo;rw [<-Bc_app,Jlf _ 44]at ab;have J:Ext w w9:=Qf (a6.trans C) ar (Gm (Jk ac C));have ah:=(ai.ext C).grown ar ((ai.ext C).ne_own (Jk ac C) rfl);clear ai;refine ρ ?_;refine ld (ah.at (i:=2) rfl) ?_
  refine ρ ?_;refine cl (Jlg (B:=w.heap.size) (l:=l0++Lib.itoa v.kind++[44]++Lib.itoa v.num++[44]) (i:=(v.str.size:Int)) (hT.ext J) hT.le J.size om om (by first|omega|simp only [List.length_append,List.length_cons,List.length_nil];omega) ab) ?_;rintro bn b6 ⟨a3,af,ao⟩;have a1:Ext w b6:=Below.trans J af;have a4:=ah.others ao rfl;clear ab ah;refine ρ ?_;refine bsl (Jhs _) ?_;intro bj bz o bi b2;refine ρ ?_;refine apb (m':=1) (news:=Bc [44]) EU8 (Jk a3 o) (b2.rd (n:=1) rfl) (Bc_one _) (by unfold maxLen;first|omega|simp only [List.length_append,List.length_cons,List.length_nil];omega) (by first|omega|simp only [List.length_append,List.length_cons,List.length_nil];omega) (a1.trans o).size ?_;intro bm b4 a2 a9 bh;rw [<-Bc_app,Jlf _ 44]at a2;have Z:Ext w b4:=Qf (a1.trans o) a9 (Gm (Jk a3 o));have b1:=(a4.ext o).grown a9 ((a4.ext o).ne_own (Jk a3 o) rfl)
  clear a4;refine ρ ?_;refine ld (b1.at (i:=2) rfl) ?_;refine ρ ?_;refine aps (base:=w.heap.size) (s:=v.str) EU8 a2 (by first|omega|simp only [List.length_append,List.length_cons,List.length_nil];omega) Z.size ?_;intro b7 b3 aq av;have aa:Ext w b3:=Qf Z av (Gm a2);refine ρ ?_;refine Jl (i+1) b7 sO ⟨li,aa,?_⟩ om;rw [ba];have e1:l0++Kr v=l0++Lib.itoa v.kind++[44]++Lib.itoa v.num++[44]++Lib.itoa (v.str.size:Int)++[44]++v.bytes:=by simp only [Kr,List.append_assoc]
  rw [e1,Bc_app,List.length_append,<-bb];exact aq
 have be:i=r.length:=by have:=oF h;omega
 rw [be,List.take_length]at hn;obtain ⟨A3,c3,rfl,bt,_⟩:=Jy hn;refine ρ ?_;refine sb (Rd.own hn) ?_;refine ρ ?_;exact Jq ⟨rfl,a5⟩
end Go.Proofs.YtebcagekopgdhaaGreatDoor
namespace Go.Proofs.YtebcagekopgdhaaGreatDoor
open Go.RowKit Pl Go.Wk Go.Lib
def Jwf(l:List UInt8): Nat:=l.foldl (λa c=>10*a+(c.toNat-48)) 0
theorem Jbj{k:Nat}(h:k<10): (UInt8.ofNat (48+k)).toNat=48+k:=by
 rw [UInt8.toNat_ofNat'];omega
theorem Jbk(u:Nat): Jwf (decDigits u)=u:=by
 induction u using Nat.strongRecOn with
 | ind u ih=>
  rw [decDigits];split
  .rename_i h;simp only [Jwf,List.foldl_cons,List.foldl_nil,Jbj h];omega
  .rename_i h;have o:=ih (u / 10) om;unfold Jwf at o ⊢;rw [List.foldl_append,o];simp only [List.foldl_cons,List.foldl_nil,Jbj (show u % 10<10 by omega)];omega
theorem Jhd(u:Nat): ∀ c∈decDigits u,48<=c.toNat/\c.toNat<=57:=by
 induction u using Nat.strongRecOn with
 | ind u ih=>
  rw [decDigits];split
  .rename_i h;intro c o;rw [List.mem_singleton.1 o,Jbj h];omega
  .rename_i h;intro c o;rcases List.mem_append.1 o with o|o
   .exact ih (u / 10) om c o
   .rw [List.mem_singleton.1 o,Jbj (show u % 10<10 by omega)];omega
theorem Jxr(i:Int): ∀ c∈itoa i,c≠44:=by
 intro c o e;subst e;unfold itoa at o;split at o
 .rcases List.mem_cons.1 o with h|h
  .exact absurd h (by decide)
  .have:=Jhd _ _ h;exact absurd this.1 (by decide)
 .have:=Jhd _ _ o;exact absurd this.1 (by decide)
theorem Jgm{i j:Int}(h:itoa i=itoa j): i=j:=by
 have key:∀ (a:Nat) (l:List UInt8),decDigits a≠45::l:=λa l e=>by
  have:=Jhd a 45 (by rw [e];exact mC);exact absurd this.1 (by decide)
 unfold itoa at h;split at h<;>split at h
 .have:=congrArg Jwf (List.cons.inj h).2;rw [Jbk,Jbk]at this;omega
 .exact absurd h.symm (key _ _)
 .exact absurd h (key _ _)
 .have:=congrArg Jwf h;rw [Jbk,Jbk]at this;omega
theorem Jhh{a b x y:List UInt8}(ha:∀ c∈a,c≠44)(hb:∀ c∈b,c≠44)(h:a++44::x=b++44::y): a=b/\x=y:=by
 induction a generalizing b with
 | nil=>cases b with
  | nil=>simpa using h
  | cons c b=>simp only [List.nil_append,List.cons_append,List.cons.injEq]at h;exact absurd h.1.symm (hb c mC)
 | cons d a ih=>cases b with
  | nil=>simp only [List.nil_append,List.cons_append,List.cons.injEq]at h;exact absurd h.1 (ha d mC)
  | cons c b=>
   simp only [List.cons_append,List.cons.injEq]at h;obtain ⟨C,u⟩:=ih (λc o=>ha c (List.mem_cons_of_mem _ o)) (λc o=>hb c (List.mem_cons_of_mem _ o)) h.2;exact ⟨by rw [h.1,C],u⟩
theorem Jks(v:V)(r:Row): idn (v::r)=itoa v.kind++44::(itoa v.num++44::(itoa (v.str.size:Int)++44::(v.bytes++idn r))):=by
 simp only [idn,List.flatMap_cons,Kr,List.append_assoc,List.cons_append,List.nil_append]
theorem Jyv: ∀ {r s:Row},idn r=idn s->r=s
 | [],[],_=>rfl
 | [],v::s,h=>by
  rw [Jks]at h;have:=congrArg List.length h;simp [idn]at this
 | v::r,[],h=>by
  rw [Jks]at h;have:=congrArg List.length h;simp [idn]at this
 | v::r,u::s,h=>by
  rw [Jks,Jks]at h;obtain ⟨h1,h⟩:=Jhh (Jxr _) (Jxr _) h;obtain ⟨h2,h⟩:=Jhh (Jxr _) (Jxr _) h;obtain ⟨h3,h⟩:=Jhh (Jxr _) (Jxr _) h;have h3:=Jgm h3;rw [Jzv,Jzv]at h3;obtain ⟨h4,h5⟩:=List.append_inj h om;have:=Jyv h5;subst this;have e:v=u:=by
   obtain ⟨k1,n1,s1⟩:=v;obtain ⟨k2,n2,s2⟩:=u;have a1:k1=k2:=Jgm h1;have a2:n1=n2:=Jgm h2;have a3:s1=s2:=by
    apply ByteArray.ext
    exact Array.toList_inj.1 h4
   rw [a1,a2,a3]
  rw [e]
theorem Qqd: ∀ {r:Row},(∀ v∈r,Vt v/\v.bytes.length<=24)->(idn r).length<=r.length*90
 | [],_=>by simp [idn]
 | v::r,h=>by
  have ih:=Qqd (r:=r) λu hu=>h u (List.mem_cons_of_mem _ hu);obtain ⟨⟨h1,h2⟩,h3⟩:=h v mC;have a1:=itoa_length_le _ h1.1 h1.2;have a2:=itoa_length_le _ h2.1 h2.2;have a3:=itoa_length_le (v.str.size:Int) om (by rw [Jzv];omega);rw [Jks];simp only [List.length_append,List.length_cons];omega
open Go.RowKit Pl Go.Wk
attribute [local irreducible] WC WL QX WD WDB WP WN WG
variable {cs vars:List Nat}{cc d k s:Nat}{C D:Option Addr}{x:Row}{w:World}
theorem Jhr(v:V)(w:World): (Instr.buildSlice 37 1 #[(0,v.val)]).run Tryz.prog w=.ok (.slice (some ⟨w.heap.size,0,none⟩) 1 1) (w.alloc (.cells v.cells.toArray 47)):=kr
theorem rowC_app'(a b:Row): Jm (a++b)=Jm a++Jm b:=by simp [Jm]
theorem rowC_one''(v:V): Jm [v]=v.cells:=by simp [Jm]
theorem Qfr(h:k<cs.length): pmR (cs.take (k+1)) x=pmR (cs.take k) x++[x.getD (cs.getD k 0) V0]:=by
 unfold pmR;rw [Qb 0 h,List.map_append];rfl
theorem Jsp{vx:Value}(hx:RowV w vx x)(hC:Rd w 1 C cs.length (Jt (nz cs)))(hlt:∀ c∈cs,c<x.length)(hl:cs.length<=1000):
  Ret Tryz.prog 135 [vx,.slice C cs.length cc] w λu w'=>RowV w' u (pmR cs x)/\Ext w w':=by
 obtain ⟨A,c,rfl,ab,aa,hR⟩:=hx;refine Jz Tryz.func135 Tryz.ntmps135 rfl kr rfl ?_;refine ρ ?_;refine mk0 EV cs.length om (by unfold maxLen;omega) ?_;intro w0 O a1 a4;refine ρ ?_;refine Je (fun (k:Nat) (vo:Value)=>[(0,.slice A x.length c),(5,vo),(11,.slice C cs.length cc),(12,.int .i64 (cs.length:Int)),(13,.int .i64 (k:Int))])
  (λk vo w'=>k<=cs.length/\Ext w w'/\Zs w' w.heap.size vo (pmR (cs.take k) x)) (λk _=>cs.length-k) 0 (.slice O 0 cs.length) sB
  ⟨Nat.zero_le _,a1,a4⟩ ?_
 rintro k vo w1 ⟨hk,o,U⟩;refine ρ ?_;refine ci (λh=>?_) (λh=>?_)
 .have lk:k<cs.length:=by have:=oT h;omega
  clear h;have Z:RdR w1 A x:=Rd.ext hR o;have J:=hlt _ (getD_mem' 0 cs lk);refine ρ ?_;refine ix k (hC.ext o) lk ?_;refine ρ ?_;refine ld ((hC.ext o).cell (Xn lk)) ?_;refine ρ ?_;refine ixq 3 (cs.getD k 0) Z J ?_;refine ρ ?_;refine lds (cs:=(x.getD (cs.getD k 0) V0).cells) (λj u hu=>RdR.cell Z J hu) ?_;refine ρ ?_;refine bsl (Jhr _) ?_;intro w2 b G hb hB;have a2:=Qfr (x:=x) lk;have a9:(pmR (cs.take k) x).length=k:=by rw [Qr,List.length_take];omega
  refine ρ ?_;refine apb (m':=1) (news:=(x.getD (cs.getD k 0) V0).cells) EV (Jk U G) (hB.rd (n:=1) rfl) (V.one _) (by unfold maxLen;omega) om (o.trans G).size ?_;intro v3 w3 a3 a6 a8;refine ρ ?_;refine Jl (k+1) v3 sO ⟨lk,Qf (o.trans G) a6 (Gm (Jk U G)),?_⟩ om;rw [Zs,a2,List.length_append,rowC_app',rowC_one''];exact a3
 have a5:k=cs.length:=by have:=oF h;omega
 rw [a5,List.take_length]at U;obtain ⟨A3,c3,rfl,a7,_⟩:=Jy U;refine ρ ?_;refine Jq ⟨⟨A3,c3,rfl,a7,by rw [Qr];omega,Rd.own U⟩,o⟩
theorem Qxq(hD:Rd w 1 D vars.length (Jt (nz vars)))(hs:s<4294967296)(hv:∀ v∈vars,v<32)(hl:vars.length<=32):
  Ret Tryz.prog 131 [.slice D vars.length d,.int .u32 (s:Int)] w λu w'=>Xo w' w.heap.size u (Qn vars s)/\Ext w w':=by
 refine Jz Tryz.func131 Tryz.ntmps131 rfl kr rfl ?_;refine ρ ?_;refine Je (fun (k:Nat) (vc:Value)=>[(1,.int .u32 (s:Int)),(5,vc),(8,.slice D vars.length d),(9,.int .i64 (vars.length:Int)),(10,.int .i64 (k:Int))])
  (λk vc w'=>k<=vars.length/\Ext w w'/\Xo w' w.heap.size vc (Xp vars s k)) (λk _=>vars.length-k) 0 (.slice none 0 0) sB
  ⟨Nat.zero_le _,Ext.refl _,Xa _ _ _ _⟩ ?_
 rintro k vc w1 ⟨hk,o,G⟩;refine ρ ?_;refine ci (λh=>?_) (λh=>?_)
 .have lk:k<vars.length:=by have:=oT h;omega
  clear h;have a2:(Xp vars s k).length<=k:=by
   have:=List.length_filter_le (λi=>s.testBit (vars.getD i 0)) (List.range k);rw [List.length_range]at this;exact this
  refine ρ ?_;refine ix k (hD.ext o) lk ?_;refine ρ ?_;refine ld ((hD.ext o).cell (Xn lk)) ?_;refine ρ ?_;refine Kh (s:=s) (v:=vars.getD k 0) (by have:=hv _ (getD_mem' 0 vars lk);omega) ?_;refine ρ ?_;refine ci (λh=>?_) (λh=>?_)
  .rw [Un hs]at h;refine ρ ?_;refine bsl (bs1Int'' _) ?_;intro w2 b C hb hB;refine ρ ?_;refine apI (Jk G C) hB om (o.trans C).size ?_;intro Z w3 J U a1;refine ρ ?_;refine Jl (k+1) Z sO ⟨lk,Qf (o.trans C) U (Gm (Jk G C)),?_⟩ om;rw [Kx,if_pos h];exact J
  .rw [Un hs]at h;refine ρ ?_;refine Jl (k+1) vc sO ⟨lk,o,?_⟩ om;rw [Kx,if_neg (by rw [h];simp),List.append_nil];exact G
 have O:k=vars.length:=by have:=oF h;omega
 rw [O]at G;refine ρ ?_;exact Jq ⟨G,o⟩
end Go.Proofs.YtebcagekopgdhaaGreatDoor
