/- Part 38. -/
import Derived.Test.YtebcagekopgdhaaGreatDoorB37
set_option linter.unusedVariables false
set_option maxRecDepth 100000
set_option maxHeartbeats 40000000
namespace Go.Wk
open Go.RowKit
open Go.Maps (Keyed)
section
variable {P:Program} {n:Nat} {al:AL} {w:World} {Q:Exit->Act->World->Prop} {ops:Array Oper} {rest:List Oper} {d ty:Nat} {op:Op} {pos:String} {aft:Array Edge} {tt:TT}
theorem wopv{v:Value}{w':World}(h:∀ a,Fr n al a->(execOp a.eval ⟨none,op,ty,pos,aft,none⟩).run P w=.ok (.value v) w')(k:WL P n ops Q rest al w'):
  WL P n ops Q (⟨none,op,ty,pos,aft,none⟩::rest) al w:=λa o=>
 wpList_plain rfl λK u=>by
  unfold Oper.wp;rw [h a o,Oper.upon_value];exact u _ _ (k _ o)
theorem mdn[hT:Tab P tt]{t k e b m:Nat}{kd:TK}{f:Lit->Option Value}{x y:Operand}{key:Value}{kl:Lit}(K:Keyed P k)(hM:MapS P k w b m f)(hkey:keyOf P k key=some kl)(kk:∀ w1,MapS P k w1 b m (upL f kl none)->w.grownBy w1 (some b)->WL P n ops Q rest al w1)(ht:tk tt t=some kd:=by rfl)(hk:kd.desc=.map k e:=by rfl)(hx:ev al x=some (.map (some b)):=by rfl)(hy:ev al y=some key:=by rfl):
  WL P n ops Q (⟨none,.call { callee:=.builtin .delete,args:=#[x,y],argTypes:=#[t,k] },ty,pos,aft,none⟩::rest) al w:=by
 obtain ⟨w',u,G,C⟩:=hM.drop K (Vw hT.ok ht hk rfl) hkey ty;exact wopv (v:=.tuple #[]) (w':=w') (λa o=>by simp [execOp,resolve,invoke,builtin,o.ev hx,o.ev hy,u]) (kk w' G C)
end
end Go.Wk
namespace Go.Proofs.YtebcagekopgdhaaGreatDoor
open Go.RowKit Pl Go.Wk
attribute [local irreducible] WC WL QX WD WDB WP WN WG
theorem KI: Maps.Keyed Tryz.prog 3:=Maps.int_keyed Tryz.underlying3
theorem keyI{c:Nat}(hc:c<=1000000): keyOf Tryz.prog 3 (.int .i64 (c:Int))=some (.int .i64 (c:Int)):=Maps.keyOf_int_mk Tryz.underlying3 (by
 have u:IntKind.i64.min = -9223372036854775808:=by decide
 have o:IntKind.i64.max=9223372036854775807:=by decide
 simp only [Lit.wf,Bool.and_eq_true,decide_eq_true_eq,u,o];omega)
structure SeK where
 B0: Nat
 w0:World
 w1:World
 mb:Nat
 sb:Nat
 x0:Value
 x1:Value
 x2:Value
 x3:Value
 x4:Value
 BA:Option Addr
 bc:Nat
 f:Nat
 ds:List Bool
 kf:Nat->Nat
 pf:Nat->Int
 BB:Nat->List BkT
 tot:Nat
 L:List Row
def SeK.x(K:SeK): Value:=.agg #[K.x0,K.x1,K.x2,K.x3,K.x4]
def SeK.X(K:SeK): IX:=Xm K.f K.kf K.pf K.BB
def SeK.t(K:SeK)(c:Nat)(y:Row): Tr:=trK (K.BB c) (pmR (bk (K.kf c) 32) y)
theorem SeK.T(K:SeK)(c:Nat)(y:Row): K.X.T c y=(K.t c y).sum:=Qxb c y
theorem SeK.E(K:SeK)(c:Nat)(y:Row): K.X.E c (K.X.key c y)=(K.t c y).toL:=Qxc c _
def PdF(K:SeK)(y:Row)(S:Nat->Bool)(fm:Lit->Option Value): Prop :=
 (∀ c,c<K.f->S c=true->∃ d p,fm (.int .i64 (c:Int))=some (.agg #[.bool d,.pointer p])/\TrV (λ_=>False) K.w0 (K.t c y) (.pointer p)/\(K.t c y≠.nil->d=K.ds.getD c false)) /\
 ∀ kl,fm kl≠none->∃ c:Nat,c<K.f/\S c=true/\kl=.int .i64 (c:Int)
structure SeF(K:SeK): Prop where
 tb:TB K.B0 K.w0
 ix:IxV K.w0 K.x K.f K.ds K.kf K.pf K.BB K.tot
 ip:IxP K.f K.ds K.kf K.pf K.BB K.tot K.L
 ne:K.tot≠0
 e01:Ext K.w0 K.w1
 m1:K.w0.heap.size<=K.mb
 m2:K.mb<K.w1.heap.size
 s1:K.w1.heap.size<=K.sb
 bcl:K.f<=K.bc
 bg:Off (λk=>k=K.mb) K.w1 (λu=>Rd u 3 K.BA K.f (Qf K.f (Qb K.kf K.pf)))
 one:∀ u∈[K.x0,K.x1,K.x2,K.x3,K.x4],u.oneCell'=true
def sCs(K:SeK)(yv:Value)(st:Nat): List Value:=[K.x0,K.x1,K.x2,K.x3,K.x4,.slice K.BA K.f K.bc,yv,.map (some K.mb),.int .i64 (st:Int)]
structure SeM(K:SeK)(w:World)(y:Row)(S:Nat->Bool)(st M:Nat)(yv:Value)(m:Nat)(fm:Lit->Option Value): Prop where
 gr:GrN (λk=>k=K.mb) K.w1 w
 blk:Blk w K.sb 175 (sCs K yv st)
 row:w.ownsRow K.w1.heap.size 47 3 yv y.length (Jl y)
 map:MapS Tryz.prog 3 w K.mb m fm
 mle:m<=M
 pd:PdF K y S fm
def LoB(K:SeK)(B:Nat)(yv:Value): Prop:=K.sb<B/\∀ g,yv.ownBlock=some g->g<B
def SeV(K:SeK)(w:World)(y:Row)(S:Nat->Bool)(st M B:Nat): Prop:=∃ yv m fm,SeM K w y S st M yv m fm/\LoB K B yv
section
variable {K:SeK} {w w':World} {y:Row} {S:Nat->Bool} {st M m B:Nat} {yv:Value} {fm:Lit->Option Value}
theorem SeF.nsm(hF:SeF K): ¬ K.sb=K.mb:=λe=>by have:=hF.m2;have:=hF.s1;omega
theorem SeF.ext(hF:SeF K)(h:GrN (λk=>k=K.mb) K.w1 w): Ext K.w0 w:=h.old hF.e01 λk o=>by rw [o];exact hF.m1
theorem SeM.ext'(h:SeM K w y S st M yv m fm)(hx:Ext w w'): SeM K w' y S st M yv m fm :=
 ⟨h.gr.trans (GrN.ext hx),h.blk.ext hx,Jk h.row hx,h.map.ext hx,h.mle,h.pd⟩
theorem SeM.x5(h:SeM K w y S st M yv m fm)(j:Nat)(u:Value)(hu:[K.x0,K.x1,K.x2,K.x3,K.x4][j]?=some u): w.cell? ((⟨K.sb,0,none⟩:Addr).add j)=some u :=
 Blk.pre (cs:=[K.x0,K.x1,K.x2,K.x3,K.x4]) (ds:=[.slice K.BA K.f K.bc,yv,.map (some K.mb),.int .i64 (st:Int)]) h.blk j u hu
theorem SeV.ext(h:SeV K w y S st M B)(hx:Ext w w'): SeV K w' y S st M B:=by
 obtain ⟨yv,m,fm,h,o⟩:=h;exact ⟨yv,m,fm,h.ext' hx,o⟩
theorem SeV.top(h:SeV K w y S st M B): SeV K w y S st M w.heap.size:=by
 obtain ⟨yv,m,fm,h,C⟩:=h;obtain ⟨_,_,_,_,o⟩:=Jv h.row;exact ⟨yv,m,fm,h,h.blk.lt,λg u=>(o g u).2⟩
theorem SeM.to(hF:SeF K)(h:SeM K w y S st M yv m fm)(hg:GrN (λk=>k=K.mb) w w'){S':Nat->Bool}{M' m':Nat}{fm':Lit->Option Value}(hM:MapS Tryz.prog 3 w' K.mb m' fm')(hm:m'<=M')(hp:PdF K y S' fm'): SeM K w' y S' st M' yv m' fm':=by
 refine ⟨h.gr.trans hg,Jd h.blk hg hF.nsm,Jr h.row hg λg u e=>?_,hM,hm,hp⟩;obtain ⟨_,_,_,_,o⟩:=Jv h.row;have:=(o g u).1;have:=hF.m2;omega
theorem SeV.same{S':Nat->Bool}(h:SeV K w y S st M B)(e:∀ c,c<K.f->S c=S' c): SeV K w y S' st M B:=by
 obtain ⟨yv,m,fm,h,O⟩:=h;refine ⟨yv,m,fm,⟨h.gr,h.blk,h.row,h.map,h.mle,λc o G=>h.pd.1 c o ((e c o).trans G),λC J=>?_⟩,O⟩;obtain ⟨c,u,Z,U⟩:=h.pd.2 C J;exact ⟨c,u,by rw [<-e c u];exact Z,U⟩
theorem SeV.more{M':Nat}(h:SeV K w y S st M B)(hM:M<=M'): SeV K w y S st M' B:=by
 obtain ⟨yv,m,fm,h,o⟩:=h;exact ⟨yv,m,fm,⟨h.gr,h.blk,h.row,h.map,Nat.le_trans h.mle hM,h.pd⟩,o⟩
theorem Jdk{c:Nat}(hc:c<=1000000): WideAt.IsKeyLit (.int .i64 (c:Int)):=KI.key (keyI hc)
theorem Jdc{c c':Nat}(h:Lit.int .i64 (c:Int)=.int .i64 (c':Int)): c=c':=by injection h with _ h;omega
theorem PdF.put(h:PdF K y S fm)(hf:K.f<=32){c:Nat}(hc:c<K.f){d:Bool}{p:Option Addr}(ht:TrV (λ_=>False) K.w0 (K.t c y) (.pointer p))(hd:K.t c y≠.nil->d=K.ds.getD c false):
  PdF K y (λj=>S j || decide (j=c)) (upL fm (.int .i64 (c:Int)) (some (.agg #[.bool d,.pointer p]))):=by
 constructor
 .intro j G C;by_cases e:j=c
  .subst e;rw [Gx (Jdk om)];exact ⟨d,p,rfl,ht,hd⟩
  .rw [Yy λZ=>e (Jdc Z)];exact h.1 j G (by simpa [e] using C)
 .intro o u;by_cases e:o=.int .i64 (c:Int)
  .exact ⟨c,hc,by simp,e⟩
  .rw [Yy e]at u;obtain ⟨j,U,O,J⟩:=h.2 o u;exact ⟨j,U,by simp [O],J⟩
theorem PdF.drop(h:PdF K y S fm)(hf:K.f<=32){c:Nat}(hc:c<K.f): PdF K y (λj=>S j && !decide (j=c)) (upL fm (.int .i64 (c:Int)) none):=by
 constructor
 .intro j O u;simp only [Bool.and_eq_true,Bool.not_eq_true',decide_eq_false_iff_not]at u;rw [Yy λC=>u.2 (Jdc C)];exact h.1 j O u.1
 .intro G o;by_cases e:G=.int .i64 (c:Int)
  .rw [e,Gx (Jdk om)]at o;exact absurd rfl o
  .rw [Yy e]at o;obtain ⟨j,Z,U,J⟩:=h.2 G o;refine ⟨j,Z,?_,J⟩;have:j≠c:=λC=>e (by rw [J,C]);simp [U,this]
theorem SeK.t_app(hF:SeF K){c:Nat}(hc:c<K.f)(hp:K.pf c<(y.length:Int))(z:Row): K.t c (y++z)=K.t c y:=by
 have:=(hF.ip.ok hF.ne).key_pre (y:=y) (z:=z) hc hp;unfold SeK.t;exact congrArg (trK (K.BB c)) this
theorem PdF.app(h:PdF K y S fm)(hF:SeF K)(hS:∀ c,c<K.f->S c=true->K.pf c<(y.length:Int))(z:Row): PdF K (y++z) S fm:=by
 refine ⟨λc o u=>?_,h.2⟩;rw [SeK.t_app hF o (hS c o u)];exact h.1 c o u
theorem Qpl{kf:Nat->Nat}{pf:Nat->Int}{f:Nat}{BA:Option Addr}(hR:Rd w 3 BA f (Qf f (Qb kf pf))){c:Nat}(hc:c<f): ∀ j u,(Qb kf pf c)[j]?=some u->w.cell? ((adr BA (c*3)).add j)=some u:=λj u o=>by
 have C:j<3:=by
  rcases Nat.lt_or_ge j 3 with h'|h'
  .exact h'
  .rw [List.getElem?_eq_none (by simp [Qb];omega)]at o;cases o
 rw [Xb];exact hR.cell ((Ip (sz:=3) (λ_ _=>rfl) hc C).trans o)
theorem Qxp(hF:SeF K)(hS:SeV K w y S st M B)(hM:M<=4096)(hg:K.X.Gp y)(hyf:y.length<=K.f){v:Int}(hv:v+1=(y.length:Int)):
  Ret Tryz.prog 150 [.pointer (some ⟨K.sb,0,none⟩),.int .i64 v] w λu w'=>u=.tuple #[]/\GrN (λk=>k=K.mb) w w'/\SeV K w' y (λc=>S c || decide (K.pf c=v)) st (M+K.f) B:=by
 have b5:=hF.ip.f32;obtain ⟨ao,m0,b4,H0,ae⟩:=id hS;refine Jz Tryz.func150 Tryz.ntmps150 rfl kr rfl ?_;refine ρ ?_;refine ld (H0.blk.at (i:=5) rfl) ?_;refine ρ ?_;refine Qd (fun (c:Nat)=>[(0,.pointer (some ⟨K.sb,0,none⟩)),(1,.int .i64 v),(11,.slice K.BA K.f K.bc),(12,.int .i64 (K.f:Int)),(13,.int .i64 (c:Int))])
  (λc w'=>c<=K.f/\GrN (λk=>k=K.mb) w w'/\SeV K w' y (λj=>S j || (decide (j<c) && decide (K.pf j=v))) st (M+c) B) (λc=>K.f-c) 0 sB
  ⟨Nat.zero_le _,GrN.refl _ _,hS.same λc _=>by simp⟩ ?_
 clear ae H0 ao m0 b4;rintro c w1 ⟨hc,a9,aa⟩;refine ρ ?_;refine ci (λh=>?_) (λh=>?_)
 .have U:c<K.f:=by have:=oT h;omega
  clear h;obtain ⟨yv,m,fm,H,au⟩:=id aa;have ah:=hF.bg w1 H.gr;refine ρ ?_;refine ixq 3 c ah U ?_;refine ρ ?_;refine lds (cs:=Qb K.kf K.pf c) (Qpl ah U) ?_;refine ρ ?_;refine alc zBag ?_;intro w2 bb ar ay b3;refine ρ ?_;refine stb (cs':=Qb K.kf K.pf c) b3 ?_ Jzd;intro w3 an ag aq;have O:Ext w1 w3:=aq w1 ar ay;refine ρ ?_;refine ld (an.at (i:=2) rfl) ?_;refine ρ ?_;refine ci (λh=>?_) (λh=>?_)
  .have hp:K.pf c=v:=Xf h;clear h;have H3:=H.ext' O;have ad:=hF.ext H3.gr;have a4:Ext w3 w3.drew:=(Ext.refl w3).drew;have Hd:=H3.ext' a4;have G:=ad.trans a4;obtain ⟨YA,yc,rfl,ab,_⟩:=Jv Hd.row;have af:=hF.ip.keyb hF.ne U (m:=y.length) (by rw [hp];omega);have Z:=hF.ip.fitK hg c;refine ρ ?_;refine drH (λi=>Nat.ble 20 i) ?_;refine Zf (fuel':=8) 10 [(0,0),(0,1),(0,2),(0,3),(0,4),(0,5),(0,6),(0,7),(0,8),(0,9),(0,10),(0,11),(0,12),(0,13)] (lst 22 14) kr kr rfl ?_;refine ρd ?_;refine Qk (cs:=[K.x0,K.x1,K.x2,K.x3,K.x4]) (λj u hu=>Hd.x5 j u hu) ?_;refine ρd ?_;refine Qk (cs:=[K.x0,K.x1,K.x2,K.x3,K.x4]) (λj u hu=>Hd.x5 j u hu) ?_;refine ρd ?_;refine dld (Hd.blk.at (i:=6) rfl) ?_;refine ρd ?_;refine Xx ?_;refine hcut 2 (lst 22 20) (fun (q:Bool×Option Addr×Bool×Nat)=>[(39,.agg #[.bool q.1,.pointer q.2.1]),(40,.bool q.2.2.1),(6,.pointer (some ⟨q.2.2.2,0,none⟩)),(4,.int .i64 (c:Int)),(0,.pointer (some ⟨K.sb,0,none⟩)),(1,.int .i64 v),(11,.slice K.BA K.f K.bc),(12,.int .i64 (K.f:Int)),(13,.int .i64 (c:Int))])
    (λq W=>Ext w3.drew W/\Blk W q.2.2.2 138 [.bool false,.pointer none]/\w3.drew.heap.size<=q.2.2.2/\TrV (λ_=>False) K.w0 (K.t c y) (.pointer q.2.1)/\(K.t c y≠.nil->q.1=K.ds.getD c false)) ?_ ?_
   .rintro ⟨d,p,e,b6⟩ W ⟨ap,am,ai,hT,hd⟩;simp only at am ai hT hd;refine Zf (fuel':=0) 10 [(2,20),(2,21)] (lst 22 22) kr kr rfl ?_;refine Jo ?_;refine stW am ?_;intro W2 ak b7 ac;refine Jh (Ql ?_);refine Jo ?_;refine ρ ?_;refine Ql ?_;refine Uw (Xx ?_);refine hend kr ?_;have a6:Ext w3 W2:=ac w3 (a4.trans ap) (nL a4.size ai);have HW:=H3.ext' (a6.trans ((Ext.refl W2).drew));have aj:=ak.ext ((Ext.refl W2).drew);refine ρ ?_;refine drN (λ_=>False) 10 [(0,0),(0,1),(0,2),(0,3),(0,4),(0,5),(2,6)] kr ?_;refine ρn ?_;refine nld (Jm (HW.blk.at (i:=7) rfl) (λe=>e)) ?_;refine ρn ?_;refine Xd (cs:=[.bool d,.pointer p]) (λw' hg j u hu=>(Jd aj hg (λe=>e)).at hu) ?_;refine ρn ?_;refine Xv ?_;refine mup KI HW.map (by have:=HW.mle;unfold maxLen;omega) (keyI (c:=c) om) ?_;intro W3 b2 ag;have a8:GrN (λk=>k=K.mb) W2.drew W3:=GrN.by ag λk hk=>by injection hk with hk;exact hk.symm
    have b1:=HW.to hF a8 b2 (M':=M+(c+1)) (by have:=HW.mle;omega) (HW.pd.put b5 U hT hd);refine ρ ?_;refine Qw (c+1) sO ⟨U,((a9.trans (GrN.ext O)).trans (GrN.ext (a6.trans (Ext.refl W2).drew))).trans a8,SeV.same ⟨_,_,_,b1,au⟩ λj _=>?_⟩ om;by_cases e:j=c
    .subst e;simp [hp]
    .have:(decide (j<c+1))=decide (j<c):=by by_cases h1:j<c<;>simp [h1]<;>omega
     rw [this];simp [e]
   intro rest;have a1:∀ {d:Bool},((Vf (K.BB c) (pmR (bk (K.kf c) 32) y)).isSome=true->d=K.ds.getD c false)->K.t c y≠.nil->d=K.ds.getD c false:=fun {d} h hne=>h (by
    cases hi:Vf (K.BB c) (pmR (bk (K.kf c) 32) y) with
    | none=>exact absurd (Jsk hi) hne
    | some i=>rfl)
   have a7:=Rd.own Hd.row;refine htwo 14 19 kr rfl rfl rfl ?_ ?_
   .refine ρ ?_;refine cl (Jrw (hF.ix.ext G) U a7 ab om af) ?_;rintro uk W1 ⟨⟨KA,kc,rfl,aw,av,a5,_⟩,o⟩;refine Jh (Ky o ?_);refine htwo 15 19 kr rfl rfl rfl ?_ ?_
    .refine ρ ?_;refine cl (Jdm (hF.tb.ext (G.trans o)) (G.trans o) hF.ix U a5 Z) ?_;rintro u W2 ⟨d,p,rfl,hT,hd,C⟩;refine Jh (Ky C ?_);refine Zf (fuel':=4) 10 [(0,16),(0,17)] (lst 22 18) kr kr rfl ?_;refine ρd ?_;refine Xx ?_;refine Yf (fuel':=3) 18 kr kr rfl rfl ?_;refine ρp ?_;refine ρd ?_;refine Xx ?_;refine Zf (fuel':=2) 10 [(1,19)] (lst 22 20) kr kr rfl ?_;refine dalc' (cs:=[.bool false,.pointer none]) Yj ?_;intro W3 b6 J a2 a3;refine Uw (Xx ?_);exact rest (d,p,_,b6) _ _ ⟨(o.trans C).trans J,a3,Nat.le_trans (o.trans C).size a2,hT,a1 hd⟩ sB
    .refine ρ ?_;refine alc Yj ?_;intro W2 b6 C a2 a3;refine Jh (Ky C ?_);refine Zf (fuel':=3) 10 [(1,15),(0,16),(0,17)] ((lst 22 18).setIfInBounds 19 true) kr kr rfl ?_;refine ρd ?_;refine dcl (Jdm (hF.tb.ext ((G.trans o).trans C)) ((G.trans o).trans C) hF.ix U (a5.ext C) Z) ?_;rintro u W3 ⟨d,p,rfl,hT,hd,J⟩;refine ⟨J,?_⟩;refine ρd ?_;refine Xx ?_;refine Yf (fuel':=2) 18 kr kr rfl rfl ?_;refine ρp ?_;refine ρd ?_;refine Xx ?_;refine hlist (listed':=lst 22 20) kr ?_;exact rest (d,p,_,b6) _ _ ⟨(o.trans C).trans J,a3.ext J,Nat.le_trans o.size a2,hT,a1 hd⟩ sB
   .refine ρ ?_;refine alc Yj ?_;intro W1 b6 o a2 a3;refine Jh (Ky o ?_);refine Zf (fuel':=3) 10 [(1,14),(1,15),(0,16),(0,17)] ((lst 22 18).setIfInBounds 19 true) kr kr rfl ?_;refine ρd ?_;refine dcl (Jrw (hF.ix.ext (G.trans o)) U (Rd.ext a7 o) ab om af) ?_;rintro uk W2 ⟨⟨KA,kc,rfl,aw,av,a5,_⟩,C⟩;refine ⟨C,?_⟩;refine ρd ?_;refine dcl (Jdm (hF.tb.ext ((G.trans o).trans C)) ((G.trans o).trans C) hF.ix U a5 Z) ?_;rintro u W3 ⟨d,p,rfl,hT,hd,J⟩;refine ⟨J,?_⟩;refine ρd ?_;refine Xx ?_;refine Yf (fuel':=2) 18 kr kr rfl rfl ?_;refine ρp ?_;refine ρd ?_;refine Xx ?_;refine hlist (listed':=lst 22 20) kr ?_;exact rest (d,p,_,b6) _ _ ⟨(o.trans C).trans J,(a3.ext C).ext J,a2,hT,a1 hd⟩ sB
  .have hp:¬ K.pf c=v:=Xg h;clear h;refine ρ ?_;refine Qw (c+1) sO ⟨U,a9.trans (GrN.ext O),((aa.ext O).same λj _=>?_).more om⟩ om;by_cases e:j=c
   .subst e;simp [hp]
   .have:(decide (j<c+1))=decide (j<c):=by by_cases h1:j<c<;>simp [h1]<;>omega
    rw [this]
 .have ax:c=K.f:=by have:=oF h;omega
  subst ax;clear h;refine ρ ?_;refine Ue ⟨rfl,a9,aa.same λj hj=>?_⟩;simp [hj]
theorem Qxl(hF:SeF K)(hS:SeV K w y S st M B)(hyf:y.length<K.f)(hs:S y.length=true):
  Ret Tryz.prog 97 [.pointer (some ⟨K.sb,0,none⟩)] w λu w'=>(∃ d p,u=.agg #[.bool d,.pointer p]/\TrV (λ_=>False) K.w0 (K.t y.length y) (.pointer p)/\(K.t y.length y≠.nil->d=K.ds.getD y.length false))/\GrN (λk=>k=K.mb) w w'/\SeV K w' y (λc=>S c && !decide (c=y.length)) st M B:=by
 have ae:=hF.ip.f32;obtain ⟨yv,m,fm,H,a3⟩:=id hS;obtain ⟨d,p,a7,ht,hd⟩:=H.pd.1 y.length hyf hs;obtain ⟨YA,yc,rfl,ag,_⟩:=Jv H.row;refine Jz Tryz.func97 Tryz.ntmps97 rfl kr rfl ?_;refine ρ ?_;refine alc Yj ?_;intro w1 b1 U aj ad;have H1:=H.ext' U;refine ρ ?_;refine ld (H1.blk.at (i:=6) rfl) ?_;refine ρ ?_;refine ld (H1.blk.at (i:=7) rfl) ?_;refine ρ ?_;refine mlk KI H1.map Yj (keyI (c:=y.length) om) ?_;rw [a7];refine ρ ?_;refine alc Yj ?_;intro w2 b2 Z a8 ac;refine ρ ?_;refine stW ac ?_;intro w3 ab ai a2;have C:Ext w1 w3:=a2 w1 Z a8;have H3:=H1.ext' C;refine ρ ?_;refine ld (H3.blk.at (i:=7) rfl) ?_;refine ρ ?_;refine mdn KI H3.map (keyI (c:=y.length) om) ?_;intro w4 a9 a6;have G:GrN (λk=>k=K.mb) w3 w4:=GrN.by a6 λk o=>by injection o with o;exact o.symm
 have af:K.mb<w.heap.size:=H.map.lt;have l1:=U.size;have l2:=Z.size;have n1:¬ b1=K.mb:=om
 have n2:¬ b2=K.mb:=om
 have a1:=Jd ab G n2;refine ρ ?_;refine ldW a1 ?_;refine ρ ?_;refine stW (Jd (ad.ext C) G n1) ?_;intro w5 aa a5 ah;have a4:GrN (λk=>k=K.mb) w w4:=((GrN.ext U).trans (GrN.ext C)).trans G;have O:GrN (λk=>k=b1) w4 w5:=GrN.by a5 λk o=>by injection o with o;exact o.symm
 have J:GrN (λk=>k=K.mb) w w5:=((a4.mono λk _ o=>(.inl o:k=K.mb∨k=b1)).trans (O.mono λk _ o=>.inr o)).mono λk o h=>h.elim id λe=>by omega
 refine ρ ?_;refine Jqv aa ⟨⟨d,p,rfl,ht,hd⟩,J,_,m,_,H.to hF J (a9.gr O (λe=>n1 e.symm)) H.mle (H.pd.drop ae hyf),a3⟩
theorem Qxm(hF:SeF K)(hS:SeV K w y S st M B)(hM:M<=4096)(hyf:y.length<K.f)(v:V)(hg:K.X.Gp (y++[v]))(hSp:∀ c,c<K.f->S c=true->K.pf c<(y.length:Int)):
  Ret Tryz.prog 99 [.pointer (some ⟨K.sb,0,none⟩),v.val] w λu w'=>u=.tuple #[]/\GrN (λk=>k<B) w w'/\SeV K w' (y++[v]) (λc=>S c || decide (K.pf c=(y.length:Int))) st (M+K.f) w'.heap.size:=by
 have aq:=hF.ip.f32;obtain ⟨yv,m,fm,H,a5⟩:=id hS;obtain ⟨YA,yc,rfl,am,Z⟩:=Jv H.row;refine Jz Tryz.func99 Tryz.ntmps99 rfl kr rfl ?_;refine ρ ?_;refine bx (cs:=v.cells) ?_;intro w1 b1 a6 ap ah;have a1:Ext w1 w1.drew:=(Ext.refl w1).drew;have Hd:=H.ext' (a6.trans a1);have ab:=ah.ext a1;have n1:¬ (Value.slice YA y.length yc).ownBlock=some b1:=λe=>by have:=(Z b1 e).2;omega
 have ns:¬ (Value.slice YA y.length yc).ownBlock=some K.sb:=λe=>(Blk.ne_own Hd.blk Hd.row rfl) e.symm;refine ρ ?_;refine drN (λk=>(Value.slice YA y.length yc).ownBlock=some k) 10 [(0,0),(0,1),(0,2),(0,3),(0,4),(0,5),(1,6),(1,7),(0,8),(0,9),(2,10)] kr ?_;refine ρn ?_;refine nld (Jm (Hd.blk.at (i:=6) rfl) ns) ?_;refine ρn ?_;refine Xd (cs:=v.cells) (λw' hg j u hu=>(Jd ab hg n1).at hu) ?_;refine ρn ?_;refine nop ?_;refine bsl (Jkf v) ?_;intro w2 b2 a2 ao ag;refine ρ ?_;refine Je (GrN.ext a2) ?_;have H2:=Hd.ext' a2;refine nop ?_;have a7:K.w1.heap.size<=w2.heap.size:=H2.gr.size;refine apb (m':=1) (news:=v.cells) EV H2.row (ag.rd (n:=1) rfl) (V.one _) (by unfold maxLen;omega) om a7 ?_;intro ak O a4 a9 an;obtain ⟨Y3,c3,rfl,aj,ai⟩:=Jv a4;refine ρ ?_;refine Je (GrN.by a9 λk hk=>hk) ?_;refine ρn ?_;refine Xv ?_;have C:GrN (λk=>(Value.slice YA y.length yc).ownBlock=some k) w2 O:=GrN.by a9 λk hk=>hk
 have J:=Jd H2.blk C ns;refine sto (J.at (i:=6) rfl) (J.frozen 6) ?_;have G:Blk (O.setCell ((⟨K.sb,0,none⟩:Addr).add 6) (.slice Y3 (y.length+1) c3)) K.sb 175 (sCs K (.slice Y3 (y.length+1) c3) st):=J.set 6 _;have o:GrN (λk=>k=K.sb) O (O.setCell ((⟨K.sb,0,none⟩:Addr).add 6) (.slice Y3 (y.length+1) c3)):=GrN.set _ rfl;have af:MapS Tryz.prog 3 O K.mb m fm:=H2.map.gr C (λe=>by have:=(Z _ e).1;have:=hF.m2;omega);have aa:=af.gr o (λe=>hF.nsm e.symm);have a3:=Jr a4 o λg eg e=>by rw [e]at eg;exact (Blk.ne_own J a4 rfl) eg.symm
 have U:GrN (λk=>k=K.mb) K.w1 (O.setCell ((⟨K.sb,0,none⟩:Addr).add 6) (.slice Y3 (y.length+1) c3)):=by
  have h1:=((H2.gr.mono λk _ h=>(.inl h:k=K.mb∨K.w1.heap.size<=k)).trans (C.mono λk _ h=>(.inr (Z k h).1:k=K.mb∨K.w1.heap.size<=k))).trans (o.mono λk _ h=>(.inr (by rw [h];exact hF.s1):k=K.mb∨K.w1.heap.size<=k));exact h1.mono λk hk h=>h.elim id λh'=>by omega
 have ac:K.mb<B:=by have:=hF.m2;have:=hF.s1;have:=a5.1;omega
 have a8:GrN (λk=>k<B) w (O.setCell ((⟨K.sb,0,none⟩:Addr).add 6) (.slice Y3 (y.length+1) c3)) :=
  ((GrN.ext ((a6.trans a1).trans a2)).trans (C.mono λk _ h=>a5.2 k h)).trans (o.mono λk _ h=>by rw [h];exact a5.1)
 generalize (O.setCell ((⟨K.sb,0,none⟩:Addr).add 6) (.slice Y3 (y.length+1) c3))=w4 at G o aa a3 U a8
 have ae:SeV K w4 (y++[v]) S st M w4.heap.size:=by
  refine ⟨_,m,fm,⟨U,G,?_,aa,H.mle,H.pd.app hF hSp [v]⟩,G.lt,λg eg=>(Jv a3).elim λ_ h=>h.elim λ_ h=>(h.2.2 g eg).2⟩;rw [List.length_append,List.length_singleton,rowC_app'];have e3:Jl [v]=v.cells:=by simp [Jl]
  rw [e3];exact a3
 refine ω5 ?_;refine Us ?_;refine ρn ?_;refine ρ ?_;refine ld (G.at (i:=6) rfl) ?_;refine ρ ?_;refine cl (Qxp hF ae hM hg (by simp;omega) (v:=((y.length+1:Nat):Int)-1) (by simp)) ?_;rintro u w5 ⟨rfl,ad,h5⟩;refine ρ ?_;refine Ue ⟨rfl,a8.trans (ad.mono λk _ h=>by rw [h];exact ac),h5.top.same λc hc=>?_⟩;have:((y.length+1:Nat):Int)-1=(y.length:Int):=om
 rw [this]
theorem Qxn(hF:SeF K)(hS:SeV K w y S st M B):
  Ret Tryz.prog 100 [.pointer (some ⟨K.sb,0,none⟩)] w λu w'=>NatV w' u (K.X.prodS S y)/\Fresh w u/\Ext w w':=by
 have b6:=hF.ip.f32;obtain ⟨yv,m,fm,H,b2⟩:=id hS;obtain ⟨g,hg⟩:∃ g:(Lit->Bool)->Nat->Nat,g=λleft c=>if S c=true/\left (.int .i64 (c:Int))=false then K.X.T c y else 1:=⟨_,rfl⟩
 have aq:∀ left c,g left c<=4294967296^20:=λleft c=>by
  rw [hg];simp only;split
  .rw [K.T];exact hF.ip.big _ _
  .exact Nat.pow_pos (by decide)
 have an:∀ left,Nb (Jc K.f (g left)):=λleft=>Nb.pow (k:=K.f) (Jzb (Nat.pow_pos (by decide)) λc _=>aq left c) om;refine Jz Tryz.func100 Tryz.ntmps100 rfl kr rfl ?_;refine ρ ?_;refine cl (Jcq 1 (by decide) _) ?_;rintro J w1 ⟨a7,ab,G⟩;refine ρ ?_;refine ld ((H.blk.ext G).at (i:=7) rfl) ?_;refine ρ ?_;refine rngm KI (H.map.ext G) ?_;intro w2 r cnt Z a6 ae;have lr:w.heap.size<=r:=nL G.size a6;refine ρ ?_;refine Xr (fun (left:Lit->Bool) (cnt:Nat) (J:Value)=>[(0,.pointer (some ⟨K.sb,0,none⟩)),(3,J),(11,.pointer (some ⟨r,0,none⟩))])
  (λleft cnt J w'=>Ext w w'/\RgS Tryz.prog 3 w' K.mb r m fm left cnt/\NatX (λk=>k=r) w' J (Jc K.f (g left))/\Fresh w J) (λ_ cnt _=>cnt) _ cnt J sB ⟨G.trans Z,ae,?_,ab⟩ ?_
 .have e:Jc K.f (g λkl=>(fm kl).isSome)=1:=Jnv λc hc=>by
   rw [hg];simp only;rw [if_neg];rintro ⟨h1,h2⟩;obtain ⟨d,p,h3,_⟩:=H.pd.1 c hc h1;rw [h3]at h2;cases h2
  rw [e];exact (NatX.old (N:=λ_=>False) ⟨a7,λ_ _ _ _ _ h=>h⟩ λk hk=>.inr (by rw [hk];exact a6)).ext Z
 clear a7 ab ae Z G J cnt;rintro left cnt J w3 ⟨a3,aw,a1,ar⟩;refine ρ ?_;refine nxtm KI aw (λhl=>?_) (λkey v kl w4 af b1 ap aa ac ao a8 au=>?_)
 .refine ρ ?_;have e:Jc K.f (g left)=K.X.prodS S y:=Ur λc hc=>by
   rw [hg];simp only;rw [hl];simp
  rw [e]at a1;exact Jj ⟨a1.1,ar,a3⟩
 .obtain ⟨c,hc,a5,rfl⟩:=H.pd.2 kl (by rw [aa];simp);obtain ⟨d,p,O,ht,_⟩:=H.pd.1 c hc a5;rw [aa]at O;injection O with O
  subst O;have U:Ext w w4:=a8.old a3 λk hk=>by rw [hk];exact lr
  refine ρ ?_;refine entm au ?_;refine ρ ?_;refine alc Yj ?_;intro w5 b5 ai av ay;refine ρ ?_;refine stW ay ?_;intro w6 ax b3 ah;have o:Ext w4 w6:=ah w4 ai av;refine ρ ?_;refine ldW ax ?_;refine ρ ?_;have a4:Ext K.w0 w6:=(hF.ext H.gr).trans (U.trans o);refine cl (Jlg (ht.ext a4) (by rw [<-K.T];exact Nb.pow (k:=1) (by rw [Nat.pow_one,K.T];exact hF.ip.big _ _) om)) ?_;rintro ut w7 ⟨aj,b4,C⟩;have am:NatV w7 J (Jc K.f (g left)):=(((a1.gr a8).ext o).ext C).1;refine ρ ?_;refine cl (Jwx am aj (an left).len (Nb.len (Nb.pow (k:=1) (by rw [Nat.pow_one];exact hF.ip.big _ _) om))) ?_;rintro ur w8 ⟨ak,a9,a2⟩;refine ρ ?_;refine Qa _ af ur sO ⟨((U.trans o).trans C).trans a2,((ac.ext o).ext C).ext a2,?_,λad m c e=>?_⟩ ao
  .have ag:r<w7.heap.size:=nM (ac.lt) (o.trans C).size;have e:Jc K.f (g λz=>left z && !z.sameKey (.int .i64 (c:Int)))=Jc K.f (g left)*(K.t c y).sum:=by
    rw [Jcf hc,Jcf (g:=g left) hc];have h1:g left c=1:=by rw [hg];simp only;rw [if_neg];rintro ⟨_,h2⟩;rw [ap]at h2;cases h2
    have h2:g (λz=>left z && !z.sameKey (.int .i64 (c:Int))) c=(K.t c y).sum:=by
     rw [hg];simp only;rw [if_pos ⟨a5,by rw [WideAt.sameKey_self (Jdk om)];simp⟩,K.T]
    rw [h1,h2,Nat.one_mul,Nat.mul_comm];congr 1
    refine Ur λj hj=>?_;by_cases ej:j=c
    .rw [if_pos ej,if_pos ej]
    .rw [if_neg ej,if_neg ej,hg];simp only;have:(Lit.int .i64 (j:Int)).sameKey (.int .i64 (c:Int))=false:=Maps.sameKey_ne λe'=>ej (Jdc e');simp only [this,Bool.not_false,Bool.and_true]
   rw [e];exact a9.x ak λk hk=>by rw [hk];exact ag
  .exact nL (((U.trans o).trans C).size) (a9 ad m c e)
end
end Go.Proofs.YtebcagekopgdhaaGreatDoor
