/- Part 16. -/
import Derived.Test.YtebcagekopgdhaaGreatDoorG15
import Derived.ChangeKeysEq
set_option linter.unusedVariables false
set_option maxRecDepth 100000
set_option maxHeartbeats 40000000
namespace Go.Wk
open Go.RowKit
open Go.Maps (Keyed)
variable {key v:Value}
section
variable {P:Program} {n:Nat} {al:AL} {w:World} {Q:Exit->Act->World->Prop} {ops:Array Oper} {rest:List Oper} {d ty:Nat} {op:Op} {pos:String} {aft:Array Edge} {tt:TT}
theorem wopv{w':World}(h:∀ a,Fr n al a->(execOp a.eval ⟨none,op,ty,pos,aft,none⟩).run P w=.ok (.value v) w')(k:WL P n ops Q rest al w'):
  WL P n ops Q (⟨none,op,ty,pos,aft,none⟩::rest) al w:=λa o=>
 wpList_plain rfl λK u=>by
  unfold Oper.wp;rw [h a o,Oper.upon_value];exact u _ _ (k _ o)
theorem mdn[hT:Tab P tt]{t k e b m:Nat}{kd:TK}{f:Lit->Option Value}{x y:Operand}{kl:Lit}(K:Keyed P k)(hM:MapS P k w b m f)(hkey:keyOf P k key=some kl)(kk:∀ w1,MapS P k w1 b m (upL f kl none)->w.grownBy w1 (some b)->WL P n ops Q rest al w1)(ht:tk tt t=some kd:=by rfl)(hk:kd.desc=.map k e:=by rfl)(hx:ev al x=some (.map (some b)):=by rfl)(hy:ev al y=some key:=by rfl):
  WL P n ops Q (⟨none,.call { callee:=.builtin .delete,args:=#[x,y],argTypes:=#[t,k] },ty,pos,aft,none⟩::rest) al w:=by
 obtain ⟨w',u,G,C⟩:=hM.drop K (Vh hT.ok ht hk rfl) hkey ty;exact wopv (v:=.tuple #[]) (w':=w') (λa o=>by simp [execOp,resolve,invoke,builtin,o.ev hx,o.ev hy,u]) (kk w' G C)
end
end Go.Wk
namespace Go.Proofs.YtebcagekopgdhaaGreatDoor
open Go.RowKit Pl Go.Wk
attribute [local irreducible] WC WL QX WD WDB WP WN WG
variable {M' c c' f m':Nat}{S':Nat->Bool}{BA p:Option Addr}
theorem KI: Maps.Keyed Tryz.prog 3:=Maps.int_keyed Tryz.underlying3
theorem Jjn(hc:c<=1000000): keyOf Tryz.prog 3 (.int .i64 (c:Int))=some (.int .i64 (c:Int)):=Maps.keyOf_int_mk Tryz.underlying3 (by
 have u:IntKind.i64.min = -9223372036854775808:=by decide
 have o:IntKind.i64.max=9223372036854775807:=by decide
 simp only [Lit.wf,Bool.and_eq_true,decide_eq_true_eq,u,o];omega)
theorem Qww: Qp Tryz.prog 138=some (.agg #[.bool false,.pointer none]):=Zo
structure SeK where
 B0: Nat
 w0:World
 w1:World
 mb:Nat
 sb:Nat
 x0:Value
 x1:Value
 x2:Value
 x3:Value
 x4:Value
 BA:Option Addr
 bc:Nat
 f:Nat
 ds:List Bool
 kf:Nat->Nat
 pf:Nat->Int
 BB:Nat->List BkT
 tot:Nat
 L:List Row
def SeK.x(K:SeK): Value:=.agg #[K.x0,K.x1,K.x2,K.x3,K.x4]
def SeK.X(K:SeK): IX:=Qu K.f K.kf K.pf K.BB
def SeK.t(K:SeK)(c:Nat)(y:Row): Tr:=trK (K.BB c) (pmR (bk (K.kf c) 32) y)
theorem SeK.T(K:SeK)(c:Nat)(y:Row): K.X.T c y=(K.t c y).sum:=Qkt c y
theorem SeK.E(K:SeK)(c:Nat)(y:Row): K.X.E c (K.X.key c y)=(K.t c y).toL:=Qkv c _
def PdF(K:SeK)(y:Row)(S:Nat->Bool)(fm:Lit->Option Value): Prop :=
 (∀ c,c<K.f->S c=true->∃ d p,fm (.int .i64 (c:Int))=some (.agg #[.bool d,.pointer p])/\TrV (λ_=>False) K.w0 (K.t c y) (.pointer p)/\(K.t c y≠.nil->d=K.ds.getD c false)) /\
 ∀ kl,fm kl≠none->∃ c:Nat,c<K.f/\S c=true/\kl=.int .i64 (c:Int)
structure SeF(K:SeK): Prop where
 tb:TB K.B0 K.w0
 ix:IxV K.w0 K.x K.f K.ds K.kf K.pf K.BB K.tot
 ip:IxP K.f K.ds K.kf K.pf K.BB K.tot K.L
 ne:K.tot≠0
 e01:Ext K.w0 K.w1
 m1:K.w0.heap.size<=K.mb
 m2:K.mb<K.w1.heap.size
 s1:K.w1.heap.size<=K.sb
 bcl:K.f<=K.bc
 bg:Off (λk=>k=K.mb) K.w1 (λu=>Rd u 3 K.BA K.f (Ql K.f (Qd K.kf K.pf)))
 one:∀ u∈[K.x0,K.x1,K.x2,K.x3,K.x4],u.oneCell'=true
def sCs(K:SeK)(yv:Value)(st:Nat): List Value:=[K.x0,K.x1,K.x2,K.x3,K.x4,.slice K.BA K.f K.bc,yv,.map (some K.mb),.int .i64 (st:Int)]
structure SeM(K:SeK)(w:World)(y:Row)(S:Nat->Bool)(st M:Nat)(yv:Value)(m:Nat)(fm:Lit->Option Value): Prop where
 gr:GrN (λk=>k=K.mb) K.w1 w
 blk:Blk w K.sb 175 (sCs K yv st)
 row:w.ownsRow K.w1.heap.size 47 3 yv y.length (Jm y)
 map:MapS Tryz.prog 3 w K.mb m fm
 mle:m<=M
 pd:PdF K y S fm
def LoB(K:SeK)(B:Nat)(yv:Value): Prop:=K.sb<B/\∀ g,yv.ownBlock=some g->g<B
def SeV(K:SeK)(w:World)(y:Row)(S:Nat->Bool)(st M B:Nat): Prop:=∃ yv m fm,SeM K w y S st M yv m fm/\LoB K B yv
section
variable {K:SeK} {w w':World} {y:Row} {S:Nat->Bool} {st M m B:Nat} {yv:Value} {fm:Lit->Option Value}
theorem SeF.nsm(hF:SeF K): ¬ K.sb=K.mb:=λe=>by have:=hF.m2;have:=hF.s1;omega
theorem SeF.ext(hF:SeF K)(h:GrN (λk=>k=K.mb) K.w1 w): Ext K.w0 w:=h.old hF.e01 λk o=>by rw [o];exact hF.m1
theorem SeM.ext'(h:SeM K w y S st M yv m fm)(hx:Ext w w'): SeM K w' y S st M yv m fm :=
 ⟨h.gr.trans (GrN.ext hx),h.blk.ext hx,Jk h.row hx,h.map.ext hx,h.mle,h.pd⟩
theorem SeM.x5(h:SeM K w y S st M yv m fm)(j:Nat)(u:Value)(hu:[K.x0,K.x1,K.x2,K.x3,K.x4][j]?=some u): w.cell? ((⟨K.sb,0,none⟩:Addr).add j)=some u :=
 Blk.pre (cs:=[K.x0,K.x1,K.x2,K.x3,K.x4]) (ds:=[.slice K.BA K.f K.bc,yv,.map (some K.mb),.int .i64 (st:Int)]) h.blk j u hu
theorem SeV.ext(h:SeV K w y S st M B)(hx:Ext w w'): SeV K w' y S st M B:=by
 obtain ⟨yv,m,fm,h,o⟩:=h;exact ⟨yv,m,fm,h.ext' hx,o⟩
theorem SeV.top(h:SeV K w y S st M B): SeV K w y S st M w.heap.size:=by
 obtain ⟨yv,m,fm,h,C⟩:=h;obtain ⟨_,_,_,_,o⟩:=Jy h.row;exact ⟨yv,m,fm,h,h.blk.lt,λg u=>(o g u).2⟩
theorem SeM.to(hF:SeF K)(h:SeM K w y S st M yv m fm)(hg:GrN (λk=>k=K.mb) w w'){fm':Lit->Option Value}(hM:MapS Tryz.prog 3 w' K.mb m' fm')(hm:m'<=M')(hp:PdF K y S' fm'): SeM K w' y S' st M' yv m' fm':=by
 refine ⟨h.gr.trans hg,Jv h.blk hg hF.nsm,Js h.row hg λg u e=>?_,hM,hm,hp⟩;obtain ⟨_,_,_,_,o⟩:=Jy h.row;have:=(o g u).1;have:=hF.m2;omega
theorem SeV.same(h:SeV K w y S st M B)(e:∀ c,c<K.f->S c=S' c): SeV K w y S' st M B:=by
 obtain ⟨yv,m,fm,h,O⟩:=h;refine ⟨yv,m,fm,⟨h.gr,h.blk,h.row,h.map,h.mle,λc o G=>h.pd.1 c o ((e c o).trans G),λC J=>?_⟩,O⟩;obtain ⟨c,u,Z,U⟩:=h.pd.2 C J;exact ⟨c,u,by rw [<-e c u];exact Z,U⟩
theorem SeV.more(h:SeV K w y S st M B)(hM:M<=M'): SeV K w y S st M' B:=by
 obtain ⟨yv,m,fm,h,o⟩:=h;exact ⟨yv,m,fm,⟨h.gr,h.blk,h.row,h.map,Nat.le_trans h.mle hM,h.pd⟩,o⟩
theorem Jyp(hc:c<=1000000): WideAt.IsKeyLit (.int .i64 (c:Int)):=KI.key (Jjn hc)
theorem Jyl(h:Lit.int .i64 (c:Int)=.int .i64 (c':Int)): c=c':=by injection h with _ h;omega
theorem PdF.put(h:PdF K y S fm)(hf:K.f<=32)(hc:c<K.f){d:Bool}(ht:TrV (λ_=>False) K.w0 (K.t c y) (.pointer p))(hd:K.t c y≠.nil->d=K.ds.getD c false):
  PdF K y (λj=>S j || decide (j=c)) (upL fm (.int .i64 (c:Int)) (some (.agg #[.bool d,.pointer p]))):=by
 constructor
 .intro j G C;by_cases e:j=c
  .subst e;rw [Gy (Jyp om)];exact ⟨d,p,rfl,ht,hd⟩
  .rw [Yg λZ=>e (Jyl Z)];exact h.1 j G (by simpa [e] using C)
 .intro o u;by_cases e:o=.int .i64 (c:Int)
  .exact ⟨c,hc,by simp,e⟩
  .rw [Yg e]at u;obtain ⟨j,U,O,J⟩:=h.2 o u;exact ⟨j,U,by simp [O],J⟩
theorem PdF.drop(h:PdF K y S fm)(hf:K.f<=32)(hc:c<K.f): PdF K y (λj=>S j && !decide (j=c)) (upL fm (.int .i64 (c:Int)) none):=by
 constructor
 .intro j O u;simp only [Bool.and_eq_true,Bool.not_eq_true',decide_eq_false_iff_not]at u;rw [Yg λC=>u.2 (Jyl C)];exact h.1 j O u.1
 .intro G o;by_cases e:G=.int .i64 (c:Int)
  .rw [e,Gy (Jyp om)]at o;exact absurd rfl o
  .rw [Yg e]at o;obtain ⟨j,Z,U,J⟩:=h.2 G o;refine ⟨j,Z,?_,J⟩;have:j≠c:=λC=>e (by rw [J,C]);simp [U,this]
theorem SeK.t_app(hF:SeF K)(hc:c<K.f)(hp:K.pf c<(y.length:Int))(z:Row): K.t c (y++z)=K.t c y:=by
 have:=(hF.ip.ok hF.ne).key_pre (y:=y) (z:=z) hc hp;unfold SeK.t;exact congrArg (trK (K.BB c)) this
theorem PdF.app(h:PdF K y S fm)(hF:SeF K)(hS:∀ c,c<K.f->S c=true->K.pf c<(y.length:Int))(z:Row): PdF K (y++z) S fm:=by
 refine ⟨λc o u=>?_,h.2⟩;rw [SeK.t_app hF o (hS c o u)];exact h.1 c o u
theorem Qkp{kf:Nat->Nat}{pf:Nat->Int}(hR:Rd w 3 BA f (Ql f (Qd kf pf)))(hc:c<f): ∀ j u,(Qd kf pf c)[j]?=some u->w.cell? ((adr BA (c*3)).add j)=some u:=λj u o=>by
 have C:j<3:=by
  rcases Nat.lt_or_ge j 3 with h'|h'
  .exact h'
  .rw [List.getElem?_eq_none (by simp [Qd];omega)]at o;cases o
 rw [Xh];exact hR.cell ((Jjr (sz:=3) (λ_ _=>rfl) hc C).trans o)
theorem Qwj(hF:SeF K)(hS:SeV K w y S st M B)(hM:M<=4096)(hg:K.X.Gp y)(hyf:y.length<=K.f){v:Int}(hv:v+1=(y.length:Int)):
  Ret Tryz.prog 150 [.pointer (some ⟨K.sb,0,none⟩),.int .i64 v] w λu w'=>u=.tuple #[]/\GrN (λk=>k=K.mb) w w'/\SeV K w' y (λc=>S c || decide (K.pf c=v)) st (M+K.f) B:=by
 have b5:=hF.ip.f32;obtain ⟨ao,m0,b4,H0,ae⟩:=id hS;refine Jz Tryz.func150 Tryz.ntmps150 rfl kr rfl ?_;refine ρ ?_;refine ld (H0.blk.at (i:=5) rfl) ?_;refine ρ ?_;refine Qh (fun (c:Nat)=>[(0,.pointer (some ⟨K.sb,0,none⟩)),(1,.int .i64 v),(11,.slice K.BA K.f K.bc),(12,.int .i64 (K.f:Int)),(13,.int .i64 (c:Int))])
  (λc w'=>c<=K.f/\GrN (λk=>k=K.mb) w w'/\SeV K w' y (λj=>S j || (decide (j<c) && decide (K.pf j=v))) st (M+c) B) (λc=>K.f-c) 0 sB
  ⟨Nat.zero_le _,GrN.refl _ _,hS.same λc _=>by simp⟩ ?_
 clear ae H0 ao m0 b4;rintro c w1 ⟨hc,a9,aa⟩;refine ρ ?_;refine ci (λh=>?_) (λh=>?_)
 .have U:c<K.f:=by have:=oT h;omega
  clear h;obtain ⟨yv,m,fm,H,au⟩:=id aa;have ah:=hF.bg w1 H.gr;refine ρ ?_;refine ixq 3 c ah U ?_;refine ρ ?_;refine lds (cs:=Qd K.kf K.pf c) (Qkp ah U) ?_;refine ρ ?_;refine alc Jzq ?_;intro w2 bb ar ay b3;refine ρ ?_;refine stb (cs':=Qd K.kf K.pf c) b3 ?_ Jxc;intro w3 an ag aq;have O:Ext w1 w3:=aq w1 ar ay;refine ρ ?_;refine ld (an.at (i:=2) rfl) ?_;refine ρ ?_;refine ci (λh=>?_) (λh=>?_)
  .have hp:K.pf c=v:=Xd h;clear h;have H3:=H.ext' O;have ad:=hF.ext H3.gr;have a4:Ext w3 w3.drew:=(Ext.refl w3).drew;have Hd:=H3.ext' a4;have G:=ad.trans a4;obtain ⟨YA,yc,rfl,ab,_⟩:=Jy Hd.row;have af:=hF.ip.keyb hF.ne U (m:=y.length) (by rw [hp];omega);have Z:=hF.ip.fitK hg c;refine ρ ?_;refine drH (λi=>Nat.ble 20 i) ?_;refine hpre (fuel':=8) 10 [(0,0),(0,1),(0,2),(0,3),(0,4),(0,5),(0,6),(0,7),(0,8),(0,9),(0,10),(0,11),(0,12),(0,13)] (lst 22 14) kr kr rfl ?_;refine ρd ?_;refine Qw (cs:=[K.x0,K.x1,K.x2,K.x3,K.x4]) (λj u hu=>Hd.x5 j u hu) ?_;refine ρd ?_;refine Qw (cs:=[K.x0,K.x1,K.x2,K.x3,K.x4]) (λj u hu=>Hd.x5 j u hu) ?_;refine ρd ?_;refine dld (Hd.blk.at (i:=6) rfl) ?_;refine ρd ?_;refine Qz ?_;refine Jxt 2 (lst 22 20) (fun (q:Bool×Option Addr×Bool×Nat)=>[(39,.agg #[.bool q.1,.pointer q.2.1]),(40,.bool q.2.2.1),(6,.pointer (some ⟨q.2.2.2,0,none⟩)),(4,.int .i64 (c:Int)),(0,.pointer (some ⟨K.sb,0,none⟩)),(1,.int .i64 v),(11,.slice K.BA K.f K.bc),(12,.int .i64 (K.f:Int)),(13,.int .i64 (c:Int))])
    (λq W=>Ext w3.drew W/\Blk W q.2.2.2 138 [.bool false,.pointer none]/\w3.drew.heap.size<=q.2.2.2/\TrV (λ_=>False) K.w0 (K.t c y) (.pointer q.2.1)/\(K.t c y≠.nil->q.1=K.ds.getD c false)) ?_ ?_
   .rintro ⟨d,p,e,b6⟩ W ⟨ap,am,ai,hT,hd⟩;simp only at am ai hT hd;refine hpre (fuel':=0) 10 [(2,20),(2,21)] (lst 22 22) kr kr rfl ?_;refine Ja ?_;refine stW am ?_;intro W2 ak b7 ac;refine Jg (Qg ?_);refine Ja ?_;refine ρ ?_;refine Qg ?_;refine Vb (Qz ?_);refine Ks kr ?_;have a6:Ext w3 W2:=ac w3 (a4.trans ap) (nL a4.size ai);have HW:=H3.ext' (a6.trans ((Ext.refl W2).drew));have aj:=ak.ext ((Ext.refl W2).drew);refine ρ ?_;refine drN (λ_=>False) 10 [(0,0),(0,1),(0,2),(0,3),(0,4),(0,5),(2,6)] kr ?_;refine ρn ?_;refine nld (Jp (HW.blk.at (i:=7) rfl) (λe=>e)) ?_;refine ρn ?_;refine Qe (cs:=[.bool d,.pointer p]) (λw' hg j u hu=>(Jv aj hg (λe=>e)).at hu) ?_;refine ρn ?_;refine Xy ?_;refine mup KI HW.map (by have:=HW.mle;unfold maxLen;omega) (Jjn (c:=c) om) ?_;intro W3 b2 ag;have a8:GrN (λk=>k=K.mb) W2.drew W3:=GrN.by ag λk hk=>by injection hk with hk;exact hk.symm
    have b1:=HW.to hF a8 b2 (M':=M+(c+1)) (by have:=HW.mle;omega) (HW.pd.put b5 U hT hd);refine ρ ?_;refine Qv (c+1) sO ⟨U,((a9.trans (GrN.ext O)).trans (GrN.ext (a6.trans (Ext.refl W2).drew))).trans a8,SeV.same ⟨_,_,_,b1,au⟩ λj _=>?_⟩ om;by_cases e:j=c
    .subst e;simp [hp]
    .have:(decide (j<c+1))=decide (j<c):=by by_cases h1:j<c<;>simp [h1]<;>omega
     rw [this];simp [e]
   intro rest;have a1:∀ {d:Bool},((Zw (K.BB c) (pmR (bk (K.kf c) 32) y)).isSome=true->d=K.ds.getD c false)->K.t c y≠.nil->d=K.ds.getD c false:=fun {d} h hne=>h (by
    cases hi:Zw (K.BB c) (pmR (bk (K.kf c) 32) y) with
    | none=>exact absurd (Jgs hi) hne
    | some i=>rfl)
   have a7:=Rd.own Hd.row;refine Jkt 14 19 kr rfl rfl rfl ?_ ?_
   .refine ρ ?_;refine cl (Jgk (hF.ix.ext G) U a7 ab om af) ?_;rintro uk W1 ⟨⟨KA,kc,rfl,aw,av,a5,_⟩,o⟩;refine Jg (Gq o ?_);refine Jkt 15 19 kr rfl rfl rfl ?_ ?_
    .refine ρ ?_;refine cl (Jys (hF.tb.ext (G.trans o)) (G.trans o) hF.ix U a5 Z) ?_;rintro u W2 ⟨d,p,rfl,hT,hd,C⟩;refine Jg (Gq C ?_);refine hpre (fuel':=4) 10 [(0,16),(0,17)] (lst 22 18) kr kr rfl ?_;refine ρd ?_;refine Qz ?_;refine Zm (fuel':=3) 18 kr kr rfl rfl ?_;refine ρp ?_;refine ρd ?_;refine Qz ?_;refine hpre (fuel':=2) 10 [(1,19)] (lst 22 20) kr kr rfl ?_;refine dalc' (cs:=[.bool false,.pointer none]) Zo ?_;intro W3 b6 J a2 a3;refine Vb (Qz ?_);exact rest (d,p,_,b6) _ _ ⟨(o.trans C).trans J,a3,Nat.le_trans (o.trans C).size a2,hT,a1 hd⟩ sB
    .refine ρ ?_;refine alc Zo ?_;intro W2 b6 C a2 a3;refine Jg (Gq C ?_);refine hpre (fuel':=3) 10 [(1,15),(0,16),(0,17)] ((lst 22 18).setIfInBounds 19 true) kr kr rfl ?_;refine ρd ?_;refine dcl (Jys (hF.tb.ext ((G.trans o).trans C)) ((G.trans o).trans C) hF.ix U (a5.ext C) Z) ?_;rintro u W3 ⟨d,p,rfl,hT,hd,J⟩;refine ⟨J,?_⟩;refine ρd ?_;refine Qz ?_;refine Zm (fuel':=2) 18 kr kr rfl rfl ?_;refine ρp ?_;refine ρd ?_;refine Qz ?_;refine hlist (listed':=lst 22 20) kr ?_;exact rest (d,p,_,b6) _ _ ⟨(o.trans C).trans J,a3.ext J,Nat.le_trans o.size a2,hT,a1 hd⟩ sB
   .refine ρ ?_;refine alc Zo ?_;intro W1 b6 o a2 a3;refine Jg (Gq o ?_);refine hpre (fuel':=3) 10 [(1,14),(1,15),(0,16),(0,17)] ((lst 22 18).setIfInBounds 19 true) kr kr rfl ?_;refine ρd ?_;refine dcl (Jgk (hF.ix.ext (G.trans o)) U (Rd.ext a7 o) ab om af) ?_;rintro uk W2 ⟨⟨KA,kc,rfl,aw,av,a5,_⟩,C⟩;refine ⟨C,?_⟩;refine ρd ?_;refine dcl (Jys (hF.tb.ext ((G.trans o).trans C)) ((G.trans o).trans C) hF.ix U a5 Z) ?_;rintro u W3 ⟨d,p,rfl,hT,hd,J⟩;refine ⟨J,?_⟩;refine ρd ?_;refine Qz ?_;refine Zm (fuel':=2) 18 kr kr rfl rfl ?_;refine ρp ?_;refine ρd ?_;refine Qz ?_;refine hlist (listed':=lst 22 20) kr ?_;exact rest (d,p,_,b6) _ _ ⟨(o.trans C).trans J,(a3.ext C).ext J,a2,hT,a1 hd⟩ sB
  .have hp:¬ K.pf c=v:=Xf h;clear h;refine ρ ?_;refine Qv (c+1) sO ⟨U,a9.trans (GrN.ext O),((aa.ext O).same λj _=>?_).more om⟩ om;by_cases e:j=c
   .subst e;simp [hp]
   .have:(decide (j<c+1))=decide (j<c):=by by_cases h1:j<c<;>simp [h1]<;>omega
    rw [this]
 .have ax:c=K.f:=by have:=oF h;omega
  subst ax;clear h;refine ρ ?_;refine Uf ⟨rfl,a9,aa.same λj hj=>?_⟩;simp [hj]
theorem Qwf(hF:SeF K)(hS:SeV K w y S st M B)(hyf:y.length<K.f)(hs:S y.length=true):
  Ret Tryz.prog 97 [.pointer (some ⟨K.sb,0,none⟩)] w λu w'=>(∃ d p,u=.agg #[.bool d,.pointer p]/\TrV (λ_=>False) K.w0 (K.t y.length y) (.pointer p)/\(K.t y.length y≠.nil->d=K.ds.getD y.length false))/\GrN (λk=>k=K.mb) w w'/\SeV K w' y (λc=>S c && !decide (c=y.length)) st M B:=by
 have ae:=hF.ip.f32;obtain ⟨yv,m,fm,H,a3⟩:=id hS;obtain ⟨d,p,a7,ht,hd⟩:=H.pd.1 y.length hyf hs;obtain ⟨YA,yc,rfl,ag,_⟩:=Jy H.row;refine Jz Tryz.func97 Tryz.ntmps97 rfl kr rfl ?_;refine ρ ?_;refine alc Zo ?_;intro w1 b1 U aj ad;have H1:=H.ext' U;refine ρ ?_;refine ld (H1.blk.at (i:=6) rfl) ?_;refine ρ ?_;refine ld (H1.blk.at (i:=7) rfl) ?_;refine ρ ?_;refine mlk KI H1.map Zo (Jjn (c:=y.length) om) ?_;rw [a7];refine ρ ?_;refine alc Zo ?_;intro w2 b2 Z a8 ac;refine ρ ?_;refine stW ac ?_;intro w3 ab ai a2;have C:Ext w1 w3:=a2 w1 Z a8;have H3:=H1.ext' C;refine ρ ?_;refine ld (H3.blk.at (i:=7) rfl) ?_;refine ρ ?_;refine mdn KI H3.map (Jjn (c:=y.length) om) ?_;intro w4 a9 a6;have G:GrN (λk=>k=K.mb) w3 w4:=GrN.by a6 λk o=>by injection o with o;exact o.symm
 have af:K.mb<w.heap.size:=H.map.lt;have l1:=U.size;have l2:=Z.size;have n1:¬ b1=K.mb:=om
 have n2:¬ b2=K.mb:=om
 have a1:=Jv ab G n2;refine ρ ?_;refine ldW a1 ?_;refine ρ ?_;refine stW (Jv (ad.ext C) G n1) ?_;intro w5 aa a5 ah;have a4:GrN (λk=>k=K.mb) w w4:=((GrN.ext U).trans (GrN.ext C)).trans G;have O:GrN (λk=>k=b1) w4 w5:=GrN.by a5 λk o=>by injection o with o;exact o.symm
 have J:GrN (λk=>k=K.mb) w w5:=((a4.mono λk _ o=>(.inl o:k=K.mb∨k=b1)).trans (O.mono λk _ o=>.inr o)).mono λk o h=>h.elim id λe=>by omega
 refine ρ ?_;refine Iq aa ⟨⟨d,p,rfl,ht,hd⟩,J,_,m,_,H.to hF J (a9.gr O (λe=>n1 e.symm)) H.mle (H.pd.drop ae hyf),a3⟩
theorem Qwg(hF:SeF K)(hS:SeV K w y S st M B)(hM:M<=4096)(hyf:y.length<K.f)(v:V)(hg:K.X.Gp (y++[v]))(hSp:∀ c,c<K.f->S c=true->K.pf c<(y.length:Int)):
  Ret Tryz.prog 99 [.pointer (some ⟨K.sb,0,none⟩),v.val] w λu w'=>u=.tuple #[]/\GrN (λk=>k<B) w w'/\SeV K w' (y++[v]) (λc=>S c || decide (K.pf c=(y.length:Int))) st (M+K.f) w'.heap.size:=by
 have aq:=hF.ip.f32;obtain ⟨yv,m,fm,H,a5⟩:=id hS;obtain ⟨YA,yc,rfl,am,Z⟩:=Jy H.row;refine Jz Tryz.func99 Tryz.ntmps99 rfl kr rfl ?_;refine ρ ?_;refine bx (cs:=v.cells) ?_;intro w1 b1 a6 ap ah;have a1:Ext w1 w1.drew:=(Ext.refl w1).drew;have Hd:=H.ext' (a6.trans a1);have ab:=ah.ext a1;have n1:¬ (Value.slice YA y.length yc).ownBlock=some b1:=λe=>by have:=(Z b1 e).2;omega
 have ns:¬ (Value.slice YA y.length yc).ownBlock=some K.sb:=λe=>(Blk.ne_own Hd.blk Hd.row rfl) e.symm;refine ρ ?_;refine drN (λk=>(Value.slice YA y.length yc).ownBlock=some k) 10 [(0,0),(0,1),(0,2),(0,3),(0,4),(0,5),(1,6),(1,7),(0,8),(0,9),(2,10)] kr ?_;refine ρn ?_;refine nld (Jp (Hd.blk.at (i:=6) rfl) ns) ?_;refine ρn ?_;refine Qe (cs:=v.cells) (λw' hg j u hu=>(Jv ab hg n1).at hu) ?_;refine ρn ?_;refine nop ?_;refine bsl (Jwm v) ?_;intro w2 b2 a2 ao ag;refine ρ ?_;refine Jb (GrN.ext a2) ?_;have H2:=Hd.ext' a2;refine nop ?_;have a7:K.w1.heap.size<=w2.heap.size:=H2.gr.size;refine apb (m':=1) (news:=v.cells) EV H2.row (ag.rd (n:=1) rfl) (V.one _) (by unfold maxLen;omega) om a7 ?_;intro ak O a4 a9 an;obtain ⟨Y3,c3,rfl,aj,ai⟩:=Jy a4;refine ρ ?_;refine Jb (GrN.by a9 λk hk=>hk) ?_;refine ρn ?_;refine Xy ?_;have C:GrN (λk=>(Value.slice YA y.length yc).ownBlock=some k) w2 O:=GrN.by a9 λk hk=>hk
 have J:=Jv H2.blk C ns;refine sto (J.at (i:=6) rfl) (J.frozen 6) ?_;have G:Blk (O.setCell ((⟨K.sb,0,none⟩:Addr).add 6) (.slice Y3 (y.length+1) c3)) K.sb 175 (sCs K (.slice Y3 (y.length+1) c3) st):=J.set 6 _;have o:GrN (λk=>k=K.sb) O (O.setCell ((⟨K.sb,0,none⟩:Addr).add 6) (.slice Y3 (y.length+1) c3)):=GrN.set _ rfl;have af:MapS Tryz.prog 3 O K.mb m fm:=H2.map.gr C (λe=>by have:=(Z _ e).1;have:=hF.m2;omega);have aa:=af.gr o (λe=>hF.nsm e.symm);have a3:=Js a4 o λg eg e=>by rw [e]at eg;exact (Blk.ne_own J a4 rfl) eg.symm
 have U:GrN (λk=>k=K.mb) K.w1 (O.setCell ((⟨K.sb,0,none⟩:Addr).add 6) (.slice Y3 (y.length+1) c3)):=by
  have h1:=((H2.gr.mono λk _ h=>(.inl h:k=K.mb∨K.w1.heap.size<=k)).trans (C.mono λk _ h=>(.inr (Z k h).1:k=K.mb∨K.w1.heap.size<=k))).trans (o.mono λk _ h=>(.inr (by rw [h];exact hF.s1):k=K.mb∨K.w1.heap.size<=k));exact h1.mono λk hk h=>h.elim id λh'=>by omega
 have ac:K.mb<B:=by have:=hF.m2;have:=hF.s1;have:=a5.1;omega
 have a8:GrN (λk=>k<B) w (O.setCell ((⟨K.sb,0,none⟩:Addr).add 6) (.slice Y3 (y.length+1) c3)) :=
  ((GrN.ext ((a6.trans a1).trans a2)).trans (C.mono λk _ h=>a5.2 k h)).trans (o.mono λk _ h=>by rw [h];exact a5.1)
 generalize (O.setCell ((⟨K.sb,0,none⟩:Addr).add 6) (.slice Y3 (y.length+1) c3))=w4 at G o aa a3 U a8
 have ae:SeV K w4 (y++[v]) S st M w4.heap.size:=by
  refine ⟨_,m,fm,⟨U,G,?_,aa,H.mle,H.pd.app hF hSp [v]⟩,G.lt,λg eg=>(Jy a3).elim λ_ h=>h.elim λ_ h=>(h.2.2 g eg).2⟩;rw [List.length_append,List.length_singleton,rowC_app'];have e3:Jm [v]=v.cells:=by simp [Jm]
  rw [e3];exact a3
 refine ω5 ?_;refine Uv ?_;refine ρn ?_;refine ρ ?_;refine ld (G.at (i:=6) rfl) ?_;refine ρ ?_;refine cl (Qwj hF ae hM hg (by simp;omega) (v:=((y.length+1:Nat):Int)-1) (by simp)) ?_;rintro u w5 ⟨rfl,ad,h5⟩;refine ρ ?_;refine Uf ⟨rfl,a8.trans (ad.mono λk _ h=>by rw [h];exact ac),h5.top.same λc hc=>?_⟩;have:((y.length+1:Nat):Int)-1=(y.length:Int):=om
 rw [this]
theorem Qwh(hF:SeF K)(hS:SeV K w y S st M B):
  Ret Tryz.prog 100 [.pointer (some ⟨K.sb,0,none⟩)] w λu w'=>NatV w' u (K.X.prodS S y)/\Fresh w u/\Ext w w':=by
 have b6:=hF.ip.f32;obtain ⟨yv,m,fm,H,b2⟩:=id hS;obtain ⟨g,hg⟩:∃ g:(Lit->Bool)->Nat->Nat,g=λleft c=>if S c=true/\left (.int .i64 (c:Int))=false then K.X.T c y else 1:=⟨_,rfl⟩
 have aq:∀ left c,g left c<=4294967296^20:=λleft c=>by
  rw [hg];simp only;split
  .rw [K.T];exact hF.ip.big _ _
  .exact Nat.pow_pos (by decide)
 have an:∀ left,Nb (Jd K.f (g left)):=λleft=>Nb.pow (k:=K.f) (Iu (Nat.pow_pos (by decide)) λc _=>aq left c) om;refine Jz Tryz.func100 Tryz.ntmps100 rfl kr rfl ?_;refine ρ ?_;refine cl (Jjh 1 (by decide) _) ?_;rintro J w1 ⟨a7,ab,G⟩;refine ρ ?_;refine ld ((H.blk.ext G).at (i:=7) rfl) ?_;refine ρ ?_;refine rngm KI (H.map.ext G) ?_;intro w2 r cnt Z a6 ae;have lr:w.heap.size<=r:=nL G.size a6;refine ρ ?_;refine Xm (fun (left:Lit->Bool) (cnt:Nat) (J:Value)=>[(0,.pointer (some ⟨K.sb,0,none⟩)),(3,J),(11,.pointer (some ⟨r,0,none⟩))])
  (λleft cnt J w'=>Ext w w'/\RgS Tryz.prog 3 w' K.mb r m fm left cnt/\NatX (λk=>k=r) w' J (Jd K.f (g left))/\Fresh w J) (λ_ cnt _=>cnt) _ cnt J sB ⟨G.trans Z,ae,?_,ab⟩ ?_
 .have e:Jd K.f (g λkl=>(fm kl).isSome)=1:=Jfb λc hc=>by
   rw [hg];simp only;rw [if_neg];rintro ⟨h1,h2⟩;obtain ⟨d,p,h3,_⟩:=H.pd.1 c hc h1;rw [h3]at h2;cases h2
  rw [e];exact (NatX.old (N:=λ_=>False) ⟨a7,λ_ _ _ _ _ h=>h⟩ λk hk=>.inr (by rw [hk];exact a6)).ext Z
 clear a7 ab ae Z G J cnt;rintro left cnt J w3 ⟨a3,aw,a1,ar⟩;refine ρ ?_;refine nxtm KI aw (λhl=>?_) (λkey v kl w4 af b1 ap aa ac ao a8 au=>?_)
 .refine ρ ?_;have e:Jd K.f (g left)=K.X.prodS S y:=Ym λc hc=>by
   rw [hg];simp only;rw [hl];simp
  rw [e]at a1;exact Jq ⟨a1.1,ar,a3⟩
 .obtain ⟨c,hc,a5,rfl⟩:=H.pd.2 kl (by rw [aa];simp);obtain ⟨d,p,O,ht,_⟩:=H.pd.1 c hc a5;rw [aa]at O;injection O with O
  subst O;have U:Ext w w4:=a8.old a3 λk hk=>by rw [hk];exact lr
  refine ρ ?_;refine entm au ?_;refine ρ ?_;refine alc Zo ?_;intro w5 b5 ai av ay;refine ρ ?_;refine stW ay ?_;intro w6 ax b3 ah;have o:Ext w4 w6:=ah w4 ai av;refine ρ ?_;refine ldW ax ?_;refine ρ ?_;have a4:Ext K.w0 w6:=(hF.ext H.gr).trans (U.trans o);refine cl (Jcs (ht.ext a4) (by rw [<-K.T];exact Nb.pow (k:=1) (by rw [Nat.pow_one,K.T];exact hF.ip.big _ _) om)) ?_;rintro ut w7 ⟨aj,b4,C⟩;have am:NatV w7 J (Jd K.f (g left)):=(((a1.gr a8).ext o).ext C).1;refine ρ ?_;refine cl (Jxj am aj (an left).len (Nb.len (Nb.pow (k:=1) (by rw [Nat.pow_one];exact hF.ip.big _ _) om))) ?_;rintro ur w8 ⟨ak,a9,a2⟩;refine ρ ?_;refine Qt _ af ur sO ⟨((U.trans o).trans C).trans a2,((ac.ext o).ext C).ext a2,?_,λad m c e=>?_⟩ ao
  .have ag:r<w7.heap.size:=nM (ac.lt) (o.trans C).size;have e:Jd K.f (g λz=>left z && !z.sameKey (.int .i64 (c:Int)))=Jd K.f (g left)*(K.t c y).sum:=by
    rw [Jkh hc,Jkh (g:=g left) hc];have h1:g left c=1:=by rw [hg];simp only;rw [if_neg];rintro ⟨_,h2⟩;rw [ap]at h2;cases h2
    have h2:g (λz=>left z && !z.sameKey (.int .i64 (c:Int))) c=(K.t c y).sum:=by
     rw [hg];simp only;rw [if_pos ⟨a5,by rw [WideAt.sameKey_self (Jyp om)];simp⟩,K.T]
    rw [h1,h2,Nat.one_mul,Nat.mul_comm];congr 1
    refine Ym λj hj=>?_;by_cases ej:j=c
    .rw [if_pos ej,if_pos ej]
    .rw [if_neg ej,if_neg ej,hg];simp only;have:(Lit.int .i64 (j:Int)).sameKey (.int .i64 (c:Int))=false:=Maps.sameKey_ne λe'=>ej (Jyl e');simp only [this,Bool.not_false,Bool.and_true]
   rw [e];exact a9.x ak λk hk=>by rw [hk];exact ag
  .exact nL (((U.trans o).trans C).size) (a9 ad m c e)
end
open Go.RowKit Pl Go.Wk
attribute [local irreducible] WH
variable {B0 c f k m pc:Nat}{pf:Nat->Int}{y z:Row}{x:Value}{w w0:World}
def pS(pf:Nat->Int)(m q:Nat)(c:Nat): Bool:=decide (m<=c) && decide (pf c<(q:Int))
theorem Jsf(K:SeK)(m:Nat)(y:Row): K.X.prodS (pS K.pf m m) y=K.X.pend m y:=Ym λc _=>by
 simp only [pS,Bool.and_eq_true,decide_eq_true_eq];rfl
theorem Jsg(K:SeK)(m:Nat)(y:Row): K.X.prodS (pS K.pf (m+1) m) y=K.X.others m y:=Ym λc _=>by
 simp only [pS,Bool.and_eq_true,decide_eq_true_eq];rfl
theorem Jfh: (pS pf m m c && !decide (c=m))=pS pf (m+1) m c:=by
 unfold pS;by_cases h1:m<=c<;>by_cases h2:c=m<;>by_cases h3:pf c<(m:Int)<;>simp [h1,h2,h3]<;>omega
theorem Jfj(hp:pf c<(c:Int)): (pS pf (m+1) m c || decide (pf c=(m:Int)))=pS pf (m+1) (m+1) c:=by
 unfold pS;rw [Bool.eq_iff_iff];simp only [Bool.or_eq_true,Bool.and_eq_true,decide_eq_true_eq];omega
def hmB(bs:List BkT): Nat:=bs.foldl (λm b=>max m b.2.ht) 0
theorem foldl_max{bs:List BkT}: ∀ {m:Nat},m<=bs.foldl (λm b=>max m b.2.ht) m/\∀ b∈bs,b.2.ht<=bs.foldl (λm b=>max m b.2.ht) m:=by
 induction bs with
 | nil=>intro m;exact ⟨Nat.le_refl _,λb o=>by cases o⟩
 | cons a bs ih=>
  intro m;obtain ⟨u,C⟩:=ih (m:=max m a.2.ht);refine ⟨nL (Nat.le_max_left _ _) u,λb o=>?_⟩;rcases List.mem_cons.1 o with rfl|o
  .exact nL (Nat.le_max_right _ _) u
  .exact C b o
theorem Jnm(bs:List BkT)(k:Row): (trK bs k).ht<=hmB bs:=by
 unfold trK;cases hf:bs.find? λb=>decide (b.1=k) with
 | none=>exact Nat.zero_le _
 | some b=>exact foldl_max.2 b (List.mem_of_find?_eq_some hf)
def wiL(L:List Row)(y:Row): List Row:=L.filter λx=>decide (x.take y.length=y)
theorem Qsm(A B C D E F:Option Addr)(a b c d e f a' b' c' d' e' f':Nat)(mb:Nat)(w:World): (Instr.build 175 #[(0,.agg #[.slice A a a',.slice B b b',.slice C c c',.slice D d d',.slice E e e']),(1,.slice F f f'),(3,.map (some mb))]).run Tryz.prog w=.ok (.agg #[.slice A a a',.slice B b b',.slice C c c',.slice D d d',.slice E e e',.slice F f f',.slice none 0 0,.map (some mb),.int .i64 0]) w:=kr
section
variable {f:Nat} {ds:List Bool} {kf:Nat->Nat} {pf:Nat->Int} {BB:Nat->List BkT} {tot:Nat} {L:List Row}
theorem Xjn(tb:TB B0 w)(ix:IxV w x f ds kf pf BB tot)(ip:IxP f ds kf pf BB tot L)(ne:tot≠0):
  Ret Tryz.prog 96 [x] w λu w'=>∃ K:SeK,(K.w0=w/\K.f=f/\K.ds=ds/\K.kf=kf/\K.pf=pf/\K.BB=BB/\K.tot=tot/\K.L=L)/\u=.pointer (some ⟨K.sb,0,none⟩)/\SeF K/\SeV K w' [] (pS K.pf 0 0) 0 32 w'.heap.size/\Ext w w':=by
 obtain ⟨DA,dc,BA,cb,KA,ck,PA,cp,tv,ah,ag,rfl,aj,ak,hD,hB,hK,hP,a8,ai⟩:=id ix.ex;obtain ⟨TA,tc,rfl,_⟩:=id a8;refine Jz Tryz.func96 Tryz.ntmps96 rfl kr rfl ?_;refine ρ ?_;refine bx ?_;intro w1 b a7 hb ae;have a3:Ext w1 w1.drew:=(Ext.refl w1).drew;have a5:=ae.ext a3;have G:=a7.trans a3;refine ρ ?_;refine drG kr ?_;refine Ke (fuel':=5) [(0,0),(0,1)] #[true,true,false,false,false,false,false] kr kr rfl ?_;refine ρd ?_;refine Qw (cs:=[.slice DA f dc,.slice BA f cb,.slice KA f ck,.slice PA f cp,.slice TA (Jj tot).length tc]) (λj u hu=>a5.at hu) ?_;refine ρd ?_;refine Qw (cs:=[.slice DA f dc,.slice BA f cb,.slice KA f ck,.slice PA f cp,.slice TA (Jj tot).length tc]) (λj u hu=>a5.at hu) ?_;refine ρd ?_;refine Ko ?_;refine gcut 3 #[true,true,true,true,false,false,false] (fun (q:Option Addr×Nat×Nat)=>[(4,.agg #[.slice DA f dc,.slice BA f cb,.slice KA f ck,.slice PA f cp,.slice TA (Jj tot).length tc]),(6,.slice q.1 f q.2.1),(7,.map (some q.2.2))])
  (λq W=>Ext w1.drew W/\f<=q.2.1/\w1.drew.heap.size<=q.2.2/\MapS Tryz.prog 3 W q.2.2 0 (λ_=>none)/\Off (λk=>k=q.2.2) W (λu=>Rd u 3 q.1 f (Ql f (Qd kf pf)))) ?_ ?_
 .rintro ⟨A,c,Z⟩ w2 ⟨C,J,hm,U,O⟩;simp only at J hm U O;refine Ke (fuel':=0) [(1,4),(1,5),(0,6)] #[true,true,true,true,true,true,true] kr kr rfl ?_;refine Uh ?_;refine bld (Qsm _ _ _ _ _ _ _ _ _ _ _ _ _ _ _ _ _ _ _ _) ?_;refine Jg (Ug (Ext.refl _) ?_);refine Uh ?_;refine bx ?_;intro w3 sb o a9 a4;refine Jg (Ug o ?_);refine ρd ?_;refine Ko ?_;refine gend kr ?_;obtain ⟨K,hK⟩:∃ K:SeK,K=⟨B0,w,w2,Z,sb,.slice DA f dc,.slice BA f cb,.slice KA f ck,.slice PA f cp,.slice TA (Jj tot).length tc,A,c,f,ds,kf,pf,BB,tot,L⟩:=⟨_,rfl⟩;have hF:SeF K:=by
   subst hK;exact ⟨tb,ix,ip,ne,G.trans C,Nat.le_trans G.size hm,U.lt,a9,J,O,Jsw⟩
  have hV:SeV K w3 [] (λ_=>false) 0 0 w3.heap.size:=by
   subst hK;exact ⟨.slice none 0 0,0,λ_=>none,⟨GrN.ext o,a4,Xa _ _ _ _,U.ext o,Nat.le_refl _,λc _ h=>(by cases h),λkl h=>absurd rfl h⟩,a4.lt,λg eg=>by simp [Value.ownBlock]at eg⟩
  have a6:K.w0=w/\K.f=f/\K.ds=ds/\K.kf=kf/\K.pf=pf/\K.BB=BB/\K.tot=tot/\K.L=L:=by subst hK;exact ⟨rfl,rfl,rfl,rfl,rfl,rfl,rfl,rfl⟩
  have af:sb=K.sb:=by subst hK;rfl
  have a2:=(G.trans C).trans o;have em:w.heap.size<=K.mb:=by rw [<-a6.1];exact hF.m1
  have am:K.f<=32:=hF.ip.f32;subst af;refine ρ ?_;refine cl (Qwj hF hV om AX.Gp.nil (by simp) (v:=-1) rfl) ?_;rintro u w4 ⟨rfl,ab,ac⟩;refine ρ ?_;refine Jq ⟨K,a6,rfl,hF,(ac.top.same λc J=>?_).more om,ab.old a2 λk hk=>by rw [hk];exact em⟩;have:=hF.ip.par hF.ne J;unfold pS;rw [Bool.eq_iff_iff];simp only [Bool.or_eq_true,Bool.and_eq_true,decide_eq_true_eq];constructor
  .rintro (h|h)
   .cases h
   .exact ⟨Nat.zero_le _,om⟩
  .rintro ⟨_,h⟩;right;omega
 .intro rest;refine gtwo 2 3 kr rfl rfl rfl ?_ ?_
  .refine ρ ?_;refine cl (Jgl (ix.ext G)) ?_;rintro u w2 ⟨⟨A,c,rfl,J,hR,hf⟩,C⟩;refine Jg (Jyq C ?_);refine Ke (fuel':=3) [(1,3)] #[true,true,true,true,false,false,false] kr kr rfl ?_;refine Uh ?_;refine mkm 3 ?_;intro w3 Z o a1 U;refine Jg (Ug o ?_);refine Vb (Ko ?_);refine rest (A,c,Z) _ _ ⟨C.trans o,J,Nat.le_trans C.size a1,U,Jvt (hR.ext o) λh0 ad e (e2:ad.block=Z)=>?_⟩ sB;have e:A=some ad:=e;obtain ⟨an,e',aa⟩:=hR.2 h0;rw [e]at e';injection e' with e'
   have:=aa.1;rw [<-e']at this;omega
  .refine ρ ?_;refine mkm 3 ?_;intro w2 Z C a1 U;refine Jg (Jyq C ?_);refine Ke (fuel':=3) [(1,2)] #[true,true,true,true,false,false,false] kr kr rfl ?_;refine Uh ?_;refine cl (Jgl (ix.ext (G.trans C))) ?_;rintro u w3 ⟨⟨A,c,rfl,J,hR,hf⟩,o⟩;refine Jg (Ug o ?_);refine Vb (Ko ?_);refine rest (A,c,Z) _ _ ⟨C.trans o,J,a1,U.ext o,Jvt hR λh0 ad e (e2:ad.block=Z)=>?_⟩ sB;have:=hf ad e;have:=U.lt;omega
end
section
variable {K:SeK} {w:World} {y:Row} {S:Nat->Bool} {st M B:Nat}
theorem SeV.steps(hF:SeF K)(h:SeV K w y S st M B)(k:Nat): SeV K (w.setCell ((⟨K.sb,0,none⟩:Addr).add 8) (.int .i64 ((st+k:Nat):Int))) y S (st+k) M B/\GrN (λk=>k=K.sb) w (w.setCell ((⟨K.sb,0,none⟩:Addr).add 8) (.int .i64 ((st+k:Nat):Int))):=by
 obtain ⟨yv,m,fm,H,C⟩:=h;have o:GrN (λk=>k=K.sb) w (w.setCell ((⟨K.sb,0,none⟩:Addr).add 8) (.int .i64 ((st+k:Nat):Int))):=GrN.set _ rfl;refine ⟨⟨yv,m,fm,⟨?_,H.blk.set 8 _,Js H.row o λg u e=>?_,H.map.gr o λe=>hF.nsm e.symm,H.mle,H.pd⟩,C⟩,o⟩
 .exact ((H.gr.mono λk _ h=>(.inl h:k=K.mb∨k=K.sb)).trans (o.mono λk _ h=>.inr h)).mono λk G h=>h.elim id λe=>by have:=hF.s1;omega
 .rw [e]at u;exact (Blk.ne_own H.blk H.row rfl) u.symm
theorem SeF.pnb(hF:SeF K)(m:Nat)(z:Row): Nb (K.X.pend m z):=by
 refine Nb.pow (k:=K.f) (Iu (Nat.pow_pos (by decide)) λc _=>?_) hF.ip.f32;split
 .rw [K.T];exact hF.ip.big _ _
 .exact Nat.pow_pos (by decide)
theorem SeV.ext0(h:SeV K w y S st M B)(hF:SeF K): Ext K.w0 w:=by
 obtain ⟨yv,m,fm,H,_⟩:=h;exact hF.ext H.gr
theorem SeF.has(hF:SeF K)(hc:c<K.f){d:Bool}(hd:K.t c z≠.nil->d=K.ds.getD c false)(v:V):
  Tr.hasT d v (K.t c z)=true↔v∈(K.X.E c (K.X.key c z)).map (·.1):=by
 rw [K.E];by_cases h:K.t c z=.nil
 .rw [h];simp [Tr.hasT,Tr.toL]
 .have o:Iv d (K.t c z).toL:=by
   rw [hd h,<-K.E];exact (hF.ip.srt hF.ne).srt c hc _
  exact (Tr.befT_eq o).2
end
def AcR(f:Nat)(BB:Nat->List BkT)(L:List Row)(y:Row)(k:Nat)(u:Value)(w:World): Prop:=match (wiL L y)[k]? with
 | some r=>∃ A c,∃ st:Nat,u=.tuple #[.slice A r.length c,.int .i64 (st:Int),.int .i64 0]/\RdR w A r/\r.length<=c/\r.length=f/\st<=Qc f λv=>hmB (BB v)
 | none=>u=.tuple #[.slice none 0 0,.int .i64 0,.int .i64 3]
def AcRF(w0:World)(f:Nat)(BB:Nat->List BkT)(L:List Row)(y:Row)(k:Nat)(u:Value)(w:World): Prop:=match (wiL L y)[k]? with
 | some r=>∃ A c,∃ st:Nat,u=.tuple #[.slice A r.length c,.int .i64 (st:Int),.int .i64 0]/\RdR w A r/\r.length<=c/\r.length=f/\(st<=Qc f λv=>hmB (BB v))/\(r≠[]->∀ ad,A=some ad->w0.heap.size<=ad.block)
 | none=>u=.tuple #[.slice none 0 0,.int .i64 0,.int .i64 3]
theorem AcRF.none{BB:Nat->List BkT}{L:List Row}(h:(wiL L y)[k]?=none): AcRF w0 f BB L y k (.tuple #[.slice none 0 0,.int .i64 0,.int .i64 3]) w:=by
 unfold AcRF;rw [h]
section
variable {f:Nat} {ds:List Bool} {kf:Nat->Nat} {pf:Nat->Int} {BB:Nat->List BkT} {tot:Nat} {L:List Row}
theorem IxP.wi_none(ip:IxP f ds kf pf BB tot L)(ne:tot≠0)(hg:¬ (Qu f kf pf BB).Gp y): wiL L y=[]:=by
 unfold wiL;rw [ip.ans ne];exact AX.within_none hg
theorem IxP.wi_some(ip:IxP f ds kf pf BB tot L)(ne:tot≠0)(hy:y.length<=f)(hg:(Qu f kf pf BB).Gp y): wiL L y=(Qu f kf pf BB).ext (f-y.length) y:=by
 unfold wiL;rw [ip.ans ne];exact (ip.srt ne).within hy hg
theorem IxP.nbP(ip:IxP f ds kf pf BB tot L)(m:Nat)(z:Row): Nb ((Qu f kf pf BB).pend m z):=by
 refine Nb.pow (k:=f) (Iu (Nat.pow_pos (by decide)) λc _=>?_) ip.f32;split
 .rw [Qkt];exact ip.big _ _
 .exact Nat.pow_pos (by decide)
theorem IxP.nbT(ip:IxP f ds kf pf BB tot L): Nb tot:=by
 by_cases h:tot=0
 .rw [h];exact (ip.nbP 0 []).le (Nat.zero_le _)
 .rw [<-ip.pend0 h];exact ip.nbP 0 []
theorem Xjm{kv:Value}{PA:Option Addr}(tb:TB B0 w)(ix:IxV w x f ds kf pf BB tot)(ip:IxP f ds kf pf BB tot L)(hO:tot≠0->∀ z,(Qu f kf pf BB).Gp z->z.length<f->0<(Qu f kf pf BB).pend z.length z->(Qu f kf pf BB).others z.length z<4294967296)(hy:RdR w PA y)(hk:NatV w kv k):
  Ret Tryz.prog 53 [x,.slice PA y.length pc,kv] w λu w'=>Ext w w'/\(f<y.length->u=.tuple #[.slice none 0 0,.int .i64 0,.int .i64 6])/\(y.length<=f->AcRF w f BB L y k u w'):=by
 obtain ⟨DA,dc,BA,cb,KA,ck,du,cp,tv,f9,f6,rfl,fj,fk,hD,hB,hK,hP,e3,fb⟩:=id ix.ex;obtain ⟨TA,tc,rfl,_⟩:=id e3;obtain ⟨kA,br,rfl,_⟩:=id hk;have fp:=ip.f32;refine Jz Tryz.func53 Tryz.ntmps53 rfl kr rfl ?_;refine ρ ?_;refine bx ?_;intro w1 b an hb ay;refine ρ ?_;refine ldW ay ?_;refine ρ ?_;refine cl (Jyr (ix.ext an)) ?_;rintro u w2 ⟨rfl,a5⟩;refine ρ ?_;refine ci (λh=>?_) (λh=>?_)
 .have fe:f<y.length:=by have:=oT h;omega
  refine ρ ?_;exact Zb ⟨an.trans a5,λ_=>rfl,λh=>om⟩
 have cd:y.length<=f:=by have:=oF h;omega
 clear h;refine ρ ?_;refine ldW (ay.ext a5) ?_;refine ρ ?_;refine cl (Jgj (ix.ext (an.trans a5)) ip.nbT) ?_;rintro u w3 ⟨cr,_,b4⟩;have a1:=(an.trans a5).trans b4;obtain ⟨UA,uc,rfl,_⟩:=id cr;refine ρ ?_;refine ci (λh=>?_) (λh=>?_)
 .have h0:tot=0:=by
   have:=Xd h;rcases Nat.eq_zero_or_pos tot with h'|h'
   .exact h'
   .have:=limbs_pos' (show tot≠0 by omega);omega
  refine ρ ?_;refine Zb ⟨a1,λh=>om,λ_=>AcRF.none ?_⟩;have:L=[]:=List.eq_nil_of_length_eq_zero (by rw [<-ip.len];exact h0);rw [this];rfl
 have ne:tot≠0:=λe=>by
  have:=Xf h;rw [e,limbs_0]at this;exact this rfl
 clear h;refine ρ ?_;refine ldW ((ay.ext a5).ext b4) ?_;refine ρ ?_;refine cl (Xjn (tb.ext a1) (ix.ext a1) ip ne) ?_;rintro u w4 ⟨K,⟨e0,rfl,rfl,rfl,rfl,rfl,rfl,rfl⟩,rfl,C,dg,e2⟩;have Z:Ext w K.w0:=by rw [e0];exact a1
 have en:Blk K.w0 b 31 [.slice DA K.f dc,.slice BA K.f cb,.slice KA K.f ck,.slice du K.f cp,.slice TA (Jj K.tot).length tc]:=by rw [e0];exact (ay.ext a5).ext b4
 clear e0 ay an a5 b4 a1 cr;have b7:∀ c,c<K.f->K.pf c<(c:Int):=λc hc=>(C.ip.par ne hc).2;have b8:K.X.Ok:=C.ip.ok ne;have d6:∀ v z,(K.t v z).ht<=hmB (K.BB v):=λv z=>Jnm _ _;have bg:∀ v z,(K.t v z).ht<=65536:=λv z=>nL (Tr.ht_le _) (C.ip.siz _ _);have aq:∀ v z,Nb (K.t v z).sum:=λv z=>Nb.pow (k:=1) (by rw [Nat.pow_one];exact C.ip.big _ _) om;have cw:∀ v z,(K.t v z).sz<=1000000:=λv z=>nL (C.ip.siz _ _) (by decide);refine ρ ?_;refine Je (fun (i:Nat) (st:Nat)=>[(2,.slice kA (Jj k).length br),(3,.pointer (some ⟨b,0,none⟩)),(6,.slice none 0 0),(7,.int .i64 0),(8,.int .i64 0),(9,.pointer (some ⟨K.sb,0,none⟩)),(35,.slice PA y.length pc),(36,.int .i64 (y.length:Int)),(37,.int .i64 (i:Int))])
  (λi st w'=>i<=y.length/\K.X.Gp (y.take i)/\SeV K w' (y.take i) (pS K.pf i i) st (32*(i+1)) w'.heap.size/\st<=Qc i (λv=>hmB (K.BB v))/\st<=65536*i) (λi _=>y.length-i) 0 0 sB
  ⟨Nat.zero_le _,AX.Gp.nil,dg,Nat.le_refl _,Nat.le_refl _⟩ ?_
 clear dg e2 w4;rintro i st w5 ⟨hi,ar,J,b6,bv⟩;have bs:=Z.trans (J.ext0 C);have af:(y.take i).length=i:=by rw [List.length_take];omega
 refine ρ ?_;refine ci (λh=>?_) (λh=>?_)
 .have li:i<y.length:=by have:=oT h;omega
  have d5:i<K.f:=om
  clear h;have cg:=Rd.ext hy bs;refine ρ ?_;refine ixq 3 i cg li ?_;refine ρ ?_;refine lds (cs:=(y.getD i V0).cells) (λj u' ao=>RdR.cell cg li ao) ?_;refine ρ ?_;refine alc (cs:=V0.cells) Ur ?_;intro w6 dt O de b1;refine ρ ?_;refine stb (cs':=(y.getD i V0).cells) b1 ?_ (V.one _);intro w7 eo c4 a4;have ch:Ext w5 w7:=a4 w5 O de;have ac:Ext w7 w7.drew:=(Ext.refl w7).drew;have a2:=(J.ext ch).ext ac;have bo:=eo.ext ac;have et:K.mb<w5.heap.size:=by obtain ⟨_,_,_,H,_⟩:=J;exact H.map.lt
  have ba:¬ dt=K.mb:=om
  refine ρ ?_;refine drN (λk=>k=K.mb) 10 [(0,0),(0,2),(1,1),(1,3),(0,4),(0,5),(0,6),(0,7),(0,8),(0,9),(0,10)] kr ?_;refine ρn ?_;refine Qe (cs:=(y.getD i V0).cells) (λw' hg j u hu=>(Jv bo hg ba).at hu) ?_;refine ρn ?_;refine nop ?_;refine cl (Qwf C a2 om (by rw [af];unfold pS;simp [b7 i d5])) ?_;rintro u w8 ⟨⟨d,p,rfl,hT,hd⟩,d8,b9⟩;rw [af]at hT hd b9;refine ρ ?_;refine Jb d8 ?_;refine ρn ?_;refine nop ?_;refine cl (Qkj (hT.ext (b9.ext0 C)) (aq _ _) (cw _ _)) ?_;rintro u w9 ⟨sv,q,rfl,hq,fc,ae⟩;refine ρ ?_;refine Jb (GrN.ext ae) ?_;refine ρn ?_;have bi:=C.has d5 (z:=y.take i) hd (y.getD i V0);refine ρ ?_;refine ci (λh=>?_) (λh=>?_)
  .have ea:¬ K.X.Gp y:=λhg=>by
    have h1:=hg i li;have h2:y.getD i K.X.d0=y.getD i V0:=rfl;rw [h2]at h1;have h3:=bi.2 h1;rw [h3]at h;cases h
   refine ρ ?_;refine Zb ⟨Z.trans ((b9.ext ae).ext0 C),λh=>om,λ_=>AcRF.none ?_⟩;rw [C.ip.wi_none ne ea];rfl
  have ce:Tr.hasT d (y.getD i V0) (K.t i (y.take i))=true:=by
   cases hh:Tr.hasT d (y.getD i V0) (K.t i (y.take i)) with
   | true=>rfl
   | false=>rw [hh]at h;cases h
  clear h;have cz:=bi.1 ce;have av:=b9.ext ae;have c6:=(Jv bo d8 ba).ext ae;obtain ⟨yv,mm,fm,H9,d1⟩:=id av;refine ρ ?_;refine ld (H9.blk.at (i:=8) rfl) ?_;have e7:=d6 i (y.take i);have e6:=bg i (y.take i);refine ρ ?_;refine sto (H9.blk.at (i:=8) rfl) (H9.blk.frozen 8) ?_;obtain ⟨bn,bh⟩:=av.steps C q;obtain ⟨ah,bd⟩:∃ ah,ah=w9.setCell ((⟨K.sb,0,none⟩:Addr).add 8) (.int .i64 ((st+q:Nat):Int)):=⟨_,rfl⟩;have bu:w9.setCell ((⟨K.sb,0,none⟩:Addr).add 8) (.int .i64 ((st:Int)+(q:Int)))=ah:=bd.symm;rw [<-bd]at bn bh;have bq:¬ dt=K.sb:=λe=>by have:=d1.1;omega
  have dq:=Jv c6 bh bq;refine Eq.mpr (congrArg _ bu) ?_;refine ρ ?_;refine lds (cs:=(y.getD i V0).cells) (λj u' ao=>dq.at ao) ?_;have cv:y.take (i+1)=y.take i++[y.getD i V0]:=Qb V0 li;have ag:K.X.Gp (y.take i++[y.getD i V0]):=ar.snoc (by rw [af];exact cz);refine cl (Qwg C (bn.same λc _=>Jfh) om om (y.getD i V0) ag (λc _ hs=>by
   rw [af];unfold pS at hs;simp only [Bool.and_eq_true,decide_eq_true_eq]at hs;exact hs.2)) ?_
  rintro u dw ⟨rfl,_,a3⟩;rw [<-cv,af]at a3;rw [<-cv]at ag;refine ρ ?_;refine Jl (i+1) (st+q) sO ⟨li,ag,(a3.same λc hc=>Jfj (b7 c hc)).more om,?_,om⟩ om;rw [Qc];omega
 have eg:i=y.length:=by have:=oF h;omega
 subst eg;clear h;rw [List.take_length]at ar J;refine ρ ?_;refine cl (Qwh C J) ?_;rw [Jsf];rintro u w6 ⟨cq,da,O⟩;refine ρ ?_;refine cl (Jjj (hk.ext (bs.trans O)) cq) ?_;rintro u w7 ⟨rfl,a4⟩;have a2:=(J.ext O).ext a4;have co:=C.ip.wi_some ne cd ar;have cn:(wiL K.L y).length=K.X.pend y.length y:=by
  rw [co];exact b8.ext_len _ y (by show y.length+(K.f-y.length)=K.f;omega)
 refine ρ ?_;refine ci (λh=>?_) (λh=>?_)
 .have eh:K.X.pend y.length y<=k:=by
   have:=oT h;rcases Nat.lt_or_ge k (K.X.pend y.length y) with h'|h'
   .have:=cmpN_lt.2 h';omega
   .exact h'
  refine ρ ?_;exact Zb ⟨Z.trans (a2.ext0 C),λh=>om,λ_=>AcRF.none (List.getElem?_eq_none (by rw [cn];exact eh))⟩
 have c3:k<K.X.pend y.length y:=by
  rcases Nat.lt_or_ge k (K.X.pend y.length y) with h'|h'
  .exact h'
  .exact absurd (Int.not_lt.1 λep=>by have:=cmpN_lt.1 ep;omega) (oF h)
 clear h;obtain ⟨r,hr⟩:∃ r,(wiL K.L y)[k]?=some r:=⟨_,List.getElem?_eq_getElem (by rw [cn];exact c3)⟩;have d4:NatX (λq=>q=K.mb) w7 (.slice kA (Jj k).length br) k:=(NatX.old (N:=λ_=>False) ⟨hk,λ_ _ _ _ _ h=>h⟩ λq hq=>.inr (by rw [hq];exact nL Z.size C.m1)).ext (Z.trans (a2.ext0 C));refine ρ ?_;refine Jqf (fun (z:Row) (st:Nat) (o:Nat) (kv:Value)=>[(2,kv),(3,.pointer (some ⟨b,0,none⟩)),(6,.slice none 0 0),(7,.int .i64 0),(8,.int .i64 0),(9,.pointer (some ⟨K.sb,0,none⟩))])
  (λz st o kv w'=>z.length<=K.f/\K.X.Gp z/\o<K.X.pend z.length z/\(K.X.ext (K.f-z.length) z)[o]?=some r/\SeV K w' z (pS K.pf z.length z.length) st (32*(z.length+1)) w'.heap.size/\NatX (λq=>q=K.mb) w' kv o/\st<=Qc z.length (λv=>hmB (K.BB v))/\st<=65536*z.length) (λz _ _ _=>K.f-z.length) y st k (.slice kA (Jj k).length br) sB
  ⟨cd,ar,c3,by rw [<-hr,co];rfl,a2.top,d4,b6,bv⟩ ?_
 clear d4 c3 a2 a4 O da cq w7 w6 b6 bv bs J w5 st af hi ar;rintro z st o kv w5 ⟨hz,d7,ef,b3,J,d3,b6,bv⟩;have ac:Ext w5 w5.drew:=(Ext.refl w5).drew;have ax:=J.ext ac;obtain ⟨yv,mm,fm,H,ec⟩:=id ax;obtain ⟨YA,yc,rfl,fa,_⟩:=Jy H.row;have ai:=ax.ext0 C;have dj:=en.ext ai;refine ρ ?_;refine dr [(0,0),(0,1),(0,2),(0,3),(0,4),(0,5),(1,6),(0,7)] kr ?_;refine ρd ?_;refine dld (H.blk.at (i:=6) rfl) ?_;refine ρd ?_;refine Qw (cs:=[.slice DA K.f dc,.slice BA K.f cb,.slice KA K.f ck,.slice du K.f cp,.slice TA (Jj K.tot).length tc]) (λj u hu=>dj.at hu) ?_;refine ρd ?_;refine dcl (Jyr (ix.ext (Z.trans ai))) ?_;rintro u w6 ⟨rfl,O⟩;refine ⟨O,?_⟩;have df:=ax.ext O;have d2:=(d3.ext ac).ext O;clear dj ai;refine ρd ?_;refine ρ ?_;refine ci (λh=>?_) (λh=>?_)
 .have lz:z.length<K.f:=by have:=oT h;omega
  clear h;refine ρ ?_;refine cl (Qwf C df lz (by unfold pS;simp [b7 _ lz])) ?_;rintro u w7 ⟨⟨d,p,rfl,hT,hd⟩,c4,a2⟩;refine ρ ?_;refine alc Zo ?_;intro w8 fq e1 dd dm;refine ρ ?_;refine stW dm ?_;intro w9 c6 fg ae;have aj:Ext w7 w9:=ae w7 e1 dd;have av:SeV K w9 z (pS K.pf (z.length+1) z.length) st (32*(z.length+1)) w5.heap.size:=(a2.ext aj).same λc _=>Jfh;refine ρ ?_;refine cl (Qwh C av) ?_;rw [Jsg];rintro uo ah ⟨bf,ei,aa⟩;have ab:=b8.others_le lz (show 0<K.X.pend z.length z by omega);have em:=hO ne z d7 lz (show 0<K.X.pend z.length z by omega);have c2:NatV ah kv o:=(((d2.gr c4).ext aj).ext aa).1;have ap:Nb o:=(C.pnb z.length z).le om;refine ρ ?_;refine cl (Qhn c2 bf ap.len ab.1 em) ?_;rintro u dw ⟨⟨qv,rv,rfl,be,cy⟩,a9⟩;refine ρ ?_;have hq:o / K.X.others z.length z<(K.t z.length z).sum:=by
   rw [Nat.div_lt_iff_lt_mul ab.1,<-K.T,<-b8.pend_split lz];exact ef
  have b1:=(c6.ext aa).ext a9;refine ρ ?_;refine ldW b1 ?_;refine ρ ?_;have a3:=(av.ext aa).ext a9;refine cl (Qnm (hT.ext (a3.ext0 C)) be hq (aq _ _) (cw _ _)) ?_;rintro u bp ⟨sv,n,rfl,hn,cx,am⟩;refine ρ ?_;refine alc (cs:=V0.cells) Ur ?_;intro f4 er cm db dk;refine ρ ?_;refine stb (cs':=(Tr.findT (o / K.X.others z.length z) (K.t z.length z)).1.cells) dk ?_ (V.one _);intro dv dn ew cj;have G:Ext bp dv:=cj bp cm db;obtain ⟨l1,l2,yy,hL,bz,ee,ed⟩:=Tr.findT_eq hq;have fd:=aq z.length z;have e9:Nb (o / K.X.others z.length z):=ap.le (Nat.div_le_self _ _);have e5:o / K.X.others z.length z-(Tr.findT (o / K.X.others z.length z) (K.t z.length z)).2<=o:=nL (Nat.sub_le _ _) (Nat.div_le_self _ _);refine ρ ?_;refine cl (Jth (be.ext (am.trans G)) (cx.ext G) e9.len) ?_;rintro u f3 ⟨⟨ov,rfl,e8,fh⟩,ak⟩;rw [if_neg (show ¬ o / K.X.others z.length z<(Tr.findT (o / K.X.others z.length z) (K.t z.length z)).2 by omega)]
  refine ρ ?_;have U:=(am.trans G).trans ak;refine cl (Jxj e8 (bf.ext (a9.trans U)) (ap.le e5).len (Nb.len ((C.pnb z.length z).le ab.2))) ?_;rintro mv f2 ⟨eb,fi,a8⟩;have ff:(o / K.X.others z.length z-(Tr.findT (o / K.X.others z.length z) (K.t z.length z)).2)*K.X.others z.length z+o % K.X.others z.length z<=o:=by
   have h1:=Nat.div_add_mod o (K.X.others z.length z);have h2:=nO (K.X.others z.length z) (Nat.sub_le (o / K.X.others z.length z) (Tr.findT (o / K.X.others z.length z) (K.t z.length z)).2);rw [Nat.mul_comm (o / K.X.others z.length z)]at h2;omega
  refine ρ ?_;refine cl (Km eb (cy.ext (U.trans a8)) (ap.le om).len (ap.le (Nat.mod_le _ _)).len) ?_;rintro ca c9 ⟨c1,c5,bb⟩;have b5:=(U.trans a8).trans bb;have bm:=a3.ext b5;obtain ⟨ez,f8,fo,c8,bw⟩:=id bm;have e7:=d6 z.length z;have e6:=bg z.length z;refine ρ ?_;refine ld (c8.blk.at (i:=8) rfl) ?_;refine ρ ?_;refine sto (c8.blk.at (i:=8) rfl) (c8.blk.frozen 8) ?_;obtain ⟨bj,au⟩:=bm.steps C n;obtain ⟨b2,bc⟩:∃ b2,b2=c9.setCell ((⟨K.sb,0,none⟩:Addr).add 8) (.int .i64 ((st+n:Nat):Int)):=⟨_,rfl⟩;have bt:c9.setCell ((⟨K.sb,0,none⟩:Addr).add 8) (.int .i64 ((st:Int)+(n:Int)))=b2:=bc.symm;rw [<-bc]at bj au;have f5:w5.heap.size<=bp.heap.size:=nL (nL ac.size (O.size)) (nL c4.size (((aj.trans aa).trans a9).trans am).size);have bq:¬ er=K.sb:=λe=>by have:=bw.1;omega
  have dl:=Jv (dn.ext ((ak.trans a8).trans bb)) au bq;refine Eq.mpr (congrArg _ bt) ?_;refine ρ ?_;refine lds (cs:=(Tr.findT (o / K.X.others z.length z) (K.t z.length z)).1.cells) (λj u' ao=>dl.at ao) ?_;have di:K.X.E z.length (K.X.key z.length z)=l1++((Tr.findT (o / K.X.others z.length z) (K.t z.length z)).1,yy)::l2:=by rw [K.E];exact hL
  have a6:=b8.ext_at (n:=K.f-(z.length+1)) (y:=z) (by show z.length+(K.f-(z.length+1)+1)=K.f;omega) di ab.1 (by rw [bz];exact ee) (by rw [bz];exact ed);rw [bz]at a6;have ag:K.X.Gp (z++[(Tr.findT (o / K.X.others z.length z) (K.t z.length z)).1]):=d7.snoc (by rw [di];simp);have a7:(z++[(Tr.findT (o / K.X.others z.length z) (K.t z.length z)).1]).length=z.length+1:=by simp
  refine cl (Qwg C bj om lz _ ag (λc _ hs=>by
   unfold pS at hs;simp only [Bool.and_eq_true,decide_eq_true_eq]at hs;exact hs.2)) ?_
  rintro u f0 ⟨rfl,d9,dh⟩;refine ρ ?_;have c0:NatX (λq=>q=K.mb∨q<w5.heap.size) b2 ca _:=(c5.x (N:=λq=>q=K.mb∨q<w5.heap.size∨q=K.sb) c1 λq hq=>by
   have h1:=(G.trans (ak.trans a8)).size;have h2:=ec.1;rcases hq with h|h|h
   .rw [h];have:=J.ext0 C;obtain ⟨_,_,_,H5,_⟩:=J;have:=H5.map.lt;omega
   .omega
   .omega) |>.gr (au.mono λq _ h=>.inr (.inr h)) |>.old λq hq=>.inl (by rcases hq with h|h;exact .inl h;exact .inr (.inl h))
  refine Gg (z++[(Tr.findT (o / K.X.others z.length z) (K.t z.length z)).1]) (st+n) ((o / K.X.others z.length z-(Tr.findT (o / K.X.others z.length z) (K.t z.length z)).2)*K.X.others z.length z+o % K.X.others z.length z) ca sO
   ⟨by rw [a7];omega,ag,by rw [a7];exact a6.2,?_,?_,(c0.gr (d9.mono λq _ h=>.inr h)).old λq hq=>.inl (.inl hq),?_,?_⟩ (by rw [a7];omega)
  .rw [a7,<-a6.1,<-b3];congr 2;omega
  .rw [a7];exact (dh.same λc hc=>Jfj (b7 c hc)).more om
  .rw [a7,Qc];omega
  .rw [a7];omega
 .have cc:z.length=K.f:=by have:=oF h;omega
  clear h;have dz:Ext w6 w6.drew:=(Ext.refl w6).drew;have aw:=df.ext dz;obtain ⟨ey,f7,fl,H3,eu⟩:=id aw;obtain ⟨YB,yd,rfl,dx,_⟩:=Jy H3.row;refine ρ ?_;refine dr [(0,0),(0,1),(0,2),(0,3),(0,5),(0,6),(0,7),(0,8),(1,4),(0,9),(0,10),(0,11)] kr ?_;refine ρd ?_;refine dld (H3.blk.at (i:=6) rfl) ?_;refine ρd ?_;refine dld (H3.blk.at (i:=8) rfl) ?_;refine ρd ?_;refine dcl (Jzf (r:=z) ⟨YB,yd,rfl,dx,om,Rd.own H3.row⟩ (λq=>q<w.heap.size) (λq hq=>nM hq (Z.trans (aw.ext0 C)).size)) ?_;rintro u w7 ⟨⟨A7,c7,rfl,ek,_,el,ej⟩,a4⟩;refine ⟨a4,?_⟩;refine ρd ?_;refine ρ ?_;refine Zb ⟨Z.trans ((aw.ext a4).ext0 C),λh=>om,λ_=>?_⟩;have e4:r=z:=by
   have e:K.f-z.length=0:=om
   rw [e,AX.ext]at b3;cases o with
   | zero=>simpa using b3.symm
   | succ o=>simp at b3
  unfold AcRF;rw [hr,e4];exact ⟨A7,c7,st,rfl,el,ek,cc,by rw [<-cc];exact b6,λh0 ad e=>Nat.le_of_not_lt (ej h0 ad e)⟩
end
open Go.RowKit Pl Go.Wk
variable {k pc:Nat}
structure IxA(w:World)(x:Value)(f:Nat)(ds:List Bool)(kf:Nat->Nat)(pf:Nat->Int)(BB:Nat->List BkT)(tot:Nat)(L:List Row): Prop where
 tb:∃ B0,TB B0 w
 ix:IxV w x f ds kf pf BB tot
 ip:IxP f ds kf pf BB tot L
 ho:tot≠0->∀ z,(Qu f kf pf BB).Gp z->z.length<f->0<(Qu f kf pf BB).pend z.length z->(Qu f kf pf BB).others z.length z<4294967296
 hb:∀ v b,b∈BB v->b.2.ht<=65536
section
variable {w:World} {x:Value} {f:Nat} {ds:List Bool} {kf:Nat->Nat} {pf:Nat->Int} {BB:Nat->List BkT} {tot:Nat} {L:List Row}
theorem IxA.ext(h:IxA w x f ds kf pf BB tot L){w':World}(hx:Ext w w'): IxA w' x f ds kf pf BB tot L:=by
 obtain ⟨o,ht⟩:=h.tb;exact ⟨⟨o,ht.ext hx⟩,h.ix.ext hx,h.ip,h.ho,h.hb⟩
def AtR(f:Nat)(BB:Nat->List BkT)(L:List Row)(k:Nat)(u:Value)(w:World): Prop:=match L[k]? with
 | some r=>∃ A c,∃ st:Nat,u=.tuple #[.slice A r.length c,.int .i64 (st:Int),.int .i64 0]/\RdR w A r/\r.length<=c/\r.length=f/\st<=Qc f λv=>hmB (BB v)
 | none=>u=.tuple #[.slice none 0 0,.int .i64 0,.int .i64 3]
theorem Qvp(L:List Row): wiL L []=L:=by simp [wiL]
theorem Qvm(h:IxA w x f ds kf pf BB tot L){y:Row}{PA:Option Addr}{kv:Value}(hy:RdR w PA y)(hk:NatV w kv k):
  Ret Tryz.prog 53 [x,.slice PA y.length pc,kv] w λu w'=>Ext w w'/\(f<y.length->u=.tuple #[.slice none 0 0,.int .i64 0,.int .i64 6])/\(y.length<=f->AcRF w f BB L y k u w'):=by
 obtain ⟨o,ht⟩:=h.tb;exact Xjm ht h.ix h.ip h.ho hy hk
def AtRF(w0:World)(f:Nat)(BB:Nat->List BkT)(L:List Row)(k:Nat)(u:Value)(w:World): Prop:=match L[k]? with
 | some r=>∃ A c,∃ st:Nat,u=.tuple #[.slice A r.length c,.int .i64 (st:Int),.int .i64 0]/\RdR w A r/\r.length<=c/\r.length=f/\(st<=Qc f λv=>hmB (BB v))/\(r≠[]->∀ ad,A=some ad->w0.heap.size<=ad.block)
 | none=>u=.tuple #[.slice none 0 0,.int .i64 0,.int .i64 3]
theorem AtRF.weak{w0:World}{u:Value}(h:AtRF w0 f BB L k u w): AtR f BB L k u w:=by
 unfold AtRF at h;unfold AtR;cases hr:L[k]? with
 | none=>rw [hr]at h;exact h
 | some r=>rw [hr]at h;obtain ⟨A,c,st,O,J,G,C,o,_⟩:=h;exact ⟨A,c,st,O,J,G,C,o⟩
theorem Qtx(h:IxA w x f ds kf pf BB tot L){kv:Value}(hk:NatV w kv k):
  Ret Tryz.prog 17 [x,kv] w λu w'=>Ext w w'/\AtRF w f BB L k u w':=by
 obtain ⟨DA,dc,BA,cb,KA,ck,PA,cp,tv,Z,U,rfl,a2,a3,hD,hB,hK,hP,J,a1⟩:=id h.ix.ex;obtain ⟨TA,tc,rfl,_⟩:=id J;refine Jz Tryz.func17 Tryz.ntmps17 rfl kr rfl ?_;refine ρ ?_;refine bx ?_;intro w1 b o hb O;refine ρ ?_;refine ldW O ?_;refine ρ ?_;refine cl (Qvm (y:=[]) (PA:=none) (pc:=0) (h.ext o) Rd.nil (hk.ext o)) ?_;rintro u w2 ⟨G,_,h2⟩;have C:=h2 (Nat.zero_le _);unfold AcRF at C;rw [Qvp]at C;cases hr:L[k]? with
 | none=>
  rw [hr]at C;simp only at C;subst C;refine ρ ?_;refine Zb ⟨o.trans G,?_⟩;unfold AtRF;rw [hr]
 | some r=>
  rw [hr]at C;simp only at C;obtain ⟨A,c,st,rfl,h5,h6,h7,h8,h9⟩:=C;refine ρ ?_;refine Zb ⟨o.trans G,?_⟩;unfold AtRF;rw [hr];exact ⟨A,c,st,rfl,h5,h6,h7,h8,λh0 ad e=>nL o.size (h9 h0 ad e)⟩
theorem Qtw(h:IxA w x f ds kf pf BB tot L){kv:Value}(hk:NatV w kv k):
  Ret Tryz.prog 17 [x,kv] w λu w'=>Ext w w'/\AtR f BB L k u w':=(Qtx h hk).mono λu w' ⟨C,o⟩=>⟨C,o.weak⟩
end
end Go.Proofs.YtebcagekopgdhaaGreatDoor
namespace Go.Proofs.YtebcagekopgdhaaGreatDoor
open Go.RowKit Pl Go.Wk
attribute [local irreducible] WC WL QX WD WDB WP
variable {a b:Row}{va vb vd:Value}{w:World}
theorem Qzm: ∀ (x y:List UInt8),(Lib.compareBytes x y<0)↔Op.bytesLess x y=true
 | [],[]=>by simp [Lib.compareBytes,Op.bytesLess]
 | [],_::_=>by simp [Lib.compareBytes,Op.bytesLess]
 | _::_,[]=>by simp [Lib.compareBytes,Op.bytesLess]
 | a::x,b::y=>by
  have ih:=Qzm x y;simp only [Lib.compareBytes,Op.bytesLess];by_cases h:a<b
  .rw [if_pos h];simp [h]
  .rw [if_neg h];by_cases h2:b<a
   .rw [if_pos h2];have:a≠b:=by intro e;subst e;exact h h2
    simp [h,this]
   .rw [if_neg h2,ih];have:a=b:=by
     apply UInt8.toNat_inj.1
     have h3:¬ a.toNat<b.toNat:=λh'=>h (UInt8.lt_iff_toNat_lt.2 h');have h4:¬ b.toNat<a.toNat:=λh'=>h2 (UInt8.lt_iff_toNat_lt.2 h');omega
    simp [this]
def eqv(a b:V): Bool:=(a.kind == b.kind) && (a.num == b.num) && (a.str.toList == b.str.toList)
theorem V.bytes_eq(a:V): a.str.toList=a.bytes:=by rw [V.bytes,ByteArray.toList_eq]
theorem Qqv(a b:V): eqv a b=true↔a=b:=by
 unfold eqv;simp only [Bool.and_eq_true,beq_iff_eq];constructor
 .rintro ⟨⟨C,u⟩,o⟩;exact V.ext C u (by rw [<-V.bytes_eq,<-V.bytes_eq,o])
 .rintro rfl;exact ⟨⟨rfl,rfl⟩,rfl⟩
theorem eqV(a b:V)(w:World): (binOp .eql 47 a.val b.val).run Tryz.prog w=.ok (.bool (eqv a b)) w:=by
 rw [V.val,V.val,run_eql_struct,run_equalIn_agg w 9999 47 _ _ kr kr];have e:∃ f1 u o:Field,(Tryz.prog.fieldsOf 47).toList=[f1,u,o]/\(f1.name≠"_"/\f1.type=3/\f1.offset=0)/\(u.name≠"_"/\u.type=2/\u.offset=1)/\(o.name≠"_"/\o.type=9/\o.offset=2) :=
  ⟨_,_,_,rfl,⟨by decide,rfl,rfl⟩,⟨by decide,rfl,rfl⟩,⟨by decide,rfl,rfl⟩⟩
 obtain ⟨f1,u,o,h0,⟨n1,Z,o1⟩,⟨n2,U,o2⟩,⟨n3,O,o3⟩⟩:=e;rw [h0];simp only [Op.eqFields,if_pos n1,if_pos n2,if_pos n3,Z,U,O,o1,o2,o3,Sem.run_bind];have J:∀ v:V,(part 3 #[.int .i64 v.kind,.int .i64 v.num,.string v.str] 0).run Tryz.prog w=.ok (.int .i64 v.kind) w:=λv=>run_part_plain w kr rfl;have G:∀ v:V,(part 2 #[.int .i64 v.kind,.int .i64 v.num,.string v.str] 1).run Tryz.prog w=.ok (.int .i64 v.num) w:=λv=>run_part_plain w kr rfl;have C:∀ v:V,(part 9 #[.int .i64 v.kind,.int .i64 v.num,.string v.str] 2).run Tryz.prog w=.ok (.string v.str) w:=λv=>run_part_plain w kr rfl;rw [J a];simp only [Result.andThen_ok];rw [J b];simp only [Result.andThen_ok];rw [run_equalIn_int w 9998 3 .i64 .i64 _ _ kr];simp only [Result.andThen_ok];unfold eqv;cases h1:(a.kind == b.kind) with
 | false=>simp
 | true=>
  simp only [Bool.not_true,Bool.false_eq_true,if_false,Bool.true_and,Sem.run_bind];rw [G a];simp only [Result.andThen_ok];rw [G b];simp only [Result.andThen_ok];rw [run_equalIn_int w 9998 2 .i64 .i64 _ _ kr];simp only [Result.andThen_ok];cases h2:(a.num == b.num) with
  | false=>simp
  | true=>
   simp only [Bool.not_true,Bool.false_eq_true,if_false,Bool.true_and,Sem.run_bind];rw [C a];simp only [Result.andThen_ok];rw [C b];simp only [Result.andThen_ok];rw [run_equalIn_string w 9998 9 _ _ kr];simp only [Result.andThen_ok];cases h3:(a.str.toList == b.str.toList)<;>simp
theorem Jpq(a b:Int): sgn a b<0↔a<b:=by
 unfold sgn;by_cases h:a<b
 .rw [if_pos h];omega
 .rw [if_neg h];by_cases h2:b<a
  .rw [if_pos h2];omega
  .rw [if_neg h2];omega
def Kn(a b:V): Bool:=decide (a.kind<b.kind) || ((a.kind == b.kind) && (decide (a.num<b.num) || ((a.num == b.num) && Op.bytesLess a.str.toList b.str.toList)))
theorem Qjf(a b:V): Kn a b=true↔cmpV a b<0:=by
 unfold Kn cmpV;by_cases h:a.kind=b.kind
 .rw [if_neg (not_not_intro h)];by_cases h2:a.num=b.num
  .rw [if_neg (not_not_intro h2),Qzm,<-V.bytes_eq,<-V.bytes_eq];simp [h,h2]
  .rw [if_pos h2,Jpq];simp only [h,beq_self_eq_true,Bool.true_and,Int.lt_irrefl,decide_false,Bool.false_or];have:(a.num == b.num)=false:=Jzl h2;rw [this,Bool.false_and,Bool.or_false,decide_eq_true_iff]
 .rw [if_pos h,Jpq];have:(a.kind == b.kind)=false:=Jzl h;rw [this,Bool.false_and,Bool.or_false,decide_eq_true_iff]
theorem Qdp(a b:V)(w:World): Ret Tryz.prog 68 [a.val,b.val] w λr w'=>r=.int .i64 (cmpV a b)/\Ext w w':=by
 refine Jz Tryz.func68 Tryz.ntmps68 rfl kr rfl ?_;refine ρ ?_;refine bx ?_;intro w1 b1 Z a3 o;refine ρ ?_;refine bx ?_;intro w2 b2 J a2 C;have o:=o.ext J;have hx:=Z.trans J;refine ρ ?_;refine lds (cs:=a.cells) (λj u hu=>o.at hu) ?_;refine ρ ?_;refine lds (cs:=b.cells) (λj u hu=>C.at hu) ?_;refine ρ ?_;refine weqs kr (eqV a b w2) ?_;refine ρ ?_;refine ci (λh=>?_) (λh=>?_)
 .refine ρ ?_;have:=(Qqv a b).1 h;subst this;exact Jq ⟨by rw [Xe],hx⟩
 have a1:cmpV a b≠0:=λe=>by
  have:=(Qqv a b).2 (cmp_V.zero _ _ e);rw [h]at this;cases this
 refine ρ ?_;refine Vg (fun (t:Bool)=>[(40,.bool t)]) (λt w3=>t=Kn a b/\w3=w2) ?_ ?_
 .refine ld (o.at (i:=0) rfl) ?_;refine ρ ?_;refine ld (C.at (i:=0) rfl) ?_;refine ρ ?_;refine ki 13 (λG=>?_) (λG=>?_)
  .refine ρ ?_;exact Jf true sB ⟨by unfold Kn;rw [G];rfl,rfl⟩
  refine ρ ?_;refine ld (o.at (i:=0) rfl) ?_;refine ρ ?_;refine ld (C.at (i:=0) rfl) ?_;refine ρ ?_;refine ki 19 (λU=>?_) (λU=>?_)
  .refine ρ ?_;refine ld (o.at (i:=1) rfl) ?_;refine ρ ?_;refine ld (C.at (i:=1) rfl) ?_;refine ρ ?_;refine ki 25 (λO=>?_) (λO=>?_)
   .refine ρ ?_;exact Jf true sB ⟨by unfold Kn;rw [G,U,O];rfl,rfl⟩
   refine ρ ?_;refine ld (o.at (i:=1) rfl) ?_;refine ρ ?_;refine ld (C.at (i:=1) rfl) ?_;refine ρ ?_;refine ki 31 (λh4=>?_) (λh4=>?_)
   .refine ρ ?_;refine ld (o.at (i:=2) rfl) ?_;refine ρ ?_;refine ld (C.at (i:=2) rfl) ?_;refine ρ ?_;exact Jf _ sB ⟨by unfold Kn;rw [G,U,O,h4];rfl,rfl⟩
   .refine ρ ?_;exact Jf false sB ⟨by unfold Kn;rw [G,U,O,h4];rfl,rfl⟩
  .refine ρ ?_;exact Jf false sB ⟨by unfold Kn;rw [G,U];rfl,rfl⟩
 rintro t w3 ⟨rfl,rfl⟩;refine ρ ?_;have O:=Qxt a b;refine ci (λh=>?_) (λh=>?_)
 .have:=(Qjf a b).1 h;refine ρ ?_;refine Jq ⟨?_,hx⟩;rw [show cmpV a b = -1 by omega]
 .have:¬ cmpV a b<0:=λh'=>by rw [(Qjf a b).2 h']at h;cases h
  refine ρ ?_;refine Jq ⟨?_,hx⟩;rw [show cmpV a b=1 by omega]
theorem Jrs{ds:List Bool}(ha:RowV w va a)(hb:RowV w vb b)(hd:BoolsV w vd ds):
  Ret Tryz.prog 30 [va,vb,vd] w λr w'=>(∃ c:Int,r=.int .i64 c/\(c<0↔Jw a b ds<0)/\(c=0↔a=b))/\Ext w w':=by
 obtain ⟨A,ac,rfl,ai,ah,ha⟩:=ha;obtain ⟨B,bc,rfl,ag,af,hb⟩:=hb;obtain ⟨D,dc,rfl,ae,ad,hd⟩:=hd;refine Jz Tryz.func30 Tryz.ntmps30 rfl kr rfl ?_;refine ρ ?_;refine Qh (λk=>[(0,.slice A a.length ac),(1,.slice B b.length bc),(2,.slice D ds.length dc),(7,.int .i64 ((k:Nat):Int))])
  (λk w'=>Ext w w'/\k<=a.length/\k<=b.length/\Jw a b ds=Jw (a.drop k) (b.drop k) (ds.drop k)) (λk=>a.length-k) 0 sB ⟨Ext.refl w,Nat.zero_le _,Nat.zero_le _,rfl⟩ ?_
 rintro k w1 ⟨hx,a9,a8,he⟩;have ab:=ha.ext hx;have aa:=hb.ext hx;have Z:∀ c:Int,c=Jw a b ds->(c<0↔Jw a b ds<0)/\(c=0↔a=b):=λc hc=>by
  subst hc;exact ⟨Iff.rfl,λh=>Jzd _ _ _ h,λh=>by rw [h];exact Va _ _⟩
 have a1:(a.length<=k∨b.length<=k)->(((a.length:Int)-(b.length:Int)<0↔Jw a b ds<0)/\((a.length:Int)-(b.length:Int)=0↔a=b)):=λh=>by
  have e:=Qxz (ds:=ds) h a9 a8;rw [<-he]at e;have hz:Jw a b ds=0↔a=b:=⟨Jzd _ _ _,λh=>by rw [h];exact Va _ _⟩;rw [<-hz,e];rcases Nat.lt_trichotomy a.length b.length with C|C|C
  .rw [if_pos C];omega
  .rw [if_neg om,if_neg om];omega
  .rw [if_neg om,if_pos C];omega
 refine ρ ?_;refine ki 13 (λh=>?_) (λh=>?_)
 .have O:k<a.length:=by have:=oT h;omega
  refine ρ ?_;refine ci (λh=>?_) (λh=>?_)
  .have J:k<b.length:=by have:=oT h;omega
   refine ρ ?_;refine dr [(0,0),(0,1),(0,2),(0,3),(0,4),(0,5),(0,6),(0,7),(1,8),(0,9)] kr ?_;have G:Ext w1 w1.drew:=(Ext.refl w1).drew;have a7:=ab.ext G;have a6:=aa.ext G;refine ρd ?_;refine Kj 3 k a7 O ?_;refine ρd ?_;refine Qw (λj u hu=>RdR.cell a7 O hu) ?_;refine ρd ?_;refine Kj 3 k a6 J ?_;refine ρd ?_;refine Qw (λj u hu=>RdR.cell a6 J hu) ?_;refine ρd ?_;refine dcl (Qdp (a.getD k V0) (b.getD k V0) _) ?_;rintro x w2 ⟨rfl,a3⟩;refine ⟨a3,?_⟩;have o:Ext w w2:=(hx.trans G).trans a3;have a5:=hd.ext o;refine ρd ?_;refine ρ ?_;have step:=Qzc (ds:=ds) O J;have a2:∀ d,neg d (cmpV (a.getD k V0) (b.getD k V0))=0↔cmpV (a.getD k V0) (b.getD k V0)=0:=λd=>by cases d<;>simp [neg]
   refine Vg (fun (t:Bool)=>[(0,.slice A a.length ac),(1,.slice B b.length bc),(2,.slice D ds.length dc),(7,.int .i64 ((k:Nat):Int)),(8,.int .i64 (cmpV (a.getD k V0) (b.getD k V0))),(39,.bool t)]) (λt w3=>t=ds.getD k false/\w3=w2) ?_ ?_
   .refine ki 34 (λh=>?_) (λh=>?_)
    .have a4:k<ds.length:=by have:=oT h;omega
     refine ρ ?_;refine ix k a5 a4 ?_;refine ρ ?_;refine ld (RdB.cell a5 a4) ?_;refine ρ ?_;exact Jf _ sB ⟨rfl,rfl⟩
    .have C:ds.getD k false=false:=by
      have:=oF h;simp [List.getD,List.getElem?_eq_none (show ds.length<=k by omega)]
     refine ρ ?_;exact Jf false sB ⟨C.symm,rfl⟩
   rintro t w3 ⟨rfl,rfl⟩;refine ρ ?_;have more:∀ c:Int,c=neg (ds.getD k false) (cmpV (a.getD k V0) (b.getD k V0))->c≠0->c=Jw a b ds:=λc hc h0=>by
    rw [he,step,if_neg (λe=>h0 (by rw [hc,e,Jtd]))];exact hc
   refine ci (λC=>?_) (λC=>?_)
   .refine ρ ?_;rw [Jlw];rw [C]at more;refine ci (λh=>?_) (λh=>?_)
    .refine ρ ?_;exact Jq ⟨⟨_,rfl,Z _ (more _ rfl (Gn h))⟩,o⟩
    .refine ρ ?_;refine Qv (k+1) sB ⟨o,om,om,?_⟩ om;rw [he,step,if_pos ((a2 true).1 (Gr h))]
   .refine ρ ?_;rw [C]at more;refine ci (λh=>?_) (λh=>?_)
    .refine ρ ?_;exact Jq ⟨⟨_,rfl,Z _ (more _ rfl (Gn h))⟩,o⟩
    .refine ρ ?_;refine Qv (k+1) sB ⟨o,om,om,?_⟩ om;rw [he,step,if_pos (Gr h)]
  .have U:=a1 (by have:=oF h;omega);refine ρ ?_;exact Jq ⟨⟨_,rfl,U⟩,hx⟩
 .have U:=a1 (by have:=oF h;omega);refine ρ ?_;exact Jq ⟨⟨_,rfl,U⟩,hx⟩
theorem Jvn(ha:RowV w va a)(hb:RowV w vb b):
  Ret Tryz.prog 29 [va,vb] w λr w'=>r=.bool (decide (a=b))/\Ext w w':=by
 obtain ⟨A,ac,rfl,O,J,_⟩:=id ha;obtain ⟨B,Z,rfl,G,C,_⟩:=id hb;refine Jz Tryz.func29 Tryz.ntmps29 rfl kr rfl ?_;refine ρ ?_;refine ki 10 (λh=>?_) (λh=>?_)
 .refine ρ ?_;refine cl (Jrs ha hb (BoolsV.nil w none 0)) ?_;rintro x U ⟨⟨c,rfl,_,o⟩,u⟩;refine ρ ?_;refine Jq ⟨?_,u⟩;rw [show (c == 0)=decide (a=b) by rw [Bool.eq_iff_iff,beq_iff_eq,decide_eq_true_iff,o]]
 .refine ρ ?_;refine Jq ⟨?_,Ext.refl w⟩;rw [decide_eq_false (λe=>by subst e;exact (Xf h) rfl)]
open Go.RowKit Pl Go.Wk
variable {v vd vr:Value}{w w0:World}
theorem RowV.ones{ps:List Pr}(h:∀ p∈ps,RowV w p.1 p.2): ∀ u∈ps.map (·.1),u.oneCell'=true:=by
 intro u o;obtain ⟨p,C,rfl⟩:=List.mem_map.1 o;exact (h p C).one
theorem Qgm{e sz m:Nat}{xs:List Value}(h:w.ownsRow w0.heap.size e sz v m xs): Fresh w0 v:=λu n c e=>by
 rcases h.2 with ⟨o,_⟩|⟨g,cap,cur,o,hb,_⟩
 .rw [o]at e;cases e
 .rw [o]at e;injection e with e _ _;injection e with e;subst e;exact hb
theorem Jrr{l:List Row}{r:Row}{ds:List Bool}(hl:RowsV w v l)(hr:RowV w vr r)(hd:BoolsV w vd ds)(hlt:Lt ds l)(hlen:l.length<=1000000):
  Ret Tryz.prog 107 [v,vr,vd] w λx w'=>RowsV w' x (Zx ds l r)/\Ext w w'/\(x=v∨Fresh w x):=by
 obtain ⟨ps,A,c,rfl,rfl,h3,h4,h5,h6⟩:=id hl;have hn:ps.length<=1000000:=by simpa using hlen
 obtain ⟨B,bc,ad,an,am,ak⟩:=id hr;refine Jz Tryz.func107 Tryz.ntmps107 rfl kr rfl ?_;refine ρ ?_;refine Qh (λk=>[(0,.slice A ps.length c),(1,vr),(2,vd),(7,.int .i64 ((k:Nat):Int))])
  (λk w'=>Ext w w'/\k<=ps.length/\∀ i,i<k->Jw ((ps.map (·.2)).getD i []) r ds<0) (λk=>ps.length-k) 0 sB ⟨Ext.refl w,Nat.zero_le _,λi hi=>om⟩ ?_
 rintro k w1 ⟨G,hk,J⟩;refine ρ ?_;refine Vg (fun (t:Bool)=>[(0,.slice A ps.length c),(1,vr),(2,vd),(7,.int .i64 ((k:Nat):Int)),(22,.bool t)])
  (λt w2=>Ext w1 w2/\t=decide (k<ps.length/\Jw ((ps.map (·.2)).getD k []) r ds<0)) ?_ ?_
 .refine ki 13 (λh=>?_) (λh=>?_)
  .have hlt:k<ps.length:=by have:=oT h;omega
   refine ρ ?_;refine ix k (h5.ext G) hlt ?_;refine ρ ?_;refine ld ((h5.ext G).cell (Io hlt)) ?_;refine ρ ?_;refine cl (Jrs ((h6 _ (getD_mem' z0 ps hlt)).ext G) (hr.ext G) (hd.ext G)) ?_;rintro x w2 ⟨⟨cc,rfl,ai,aj⟩,a4⟩;refine ρ ?_;refine Jf _ sB ⟨a4,?_⟩;rw [Bool.eq_iff_iff,decide_eq_true_iff,decide_eq_true_iff,ai,Jxn];exact ⟨λh=>⟨hlt,h⟩,λh=>h.2⟩
  .have hlt:¬ k<ps.length:=by have:=oF h;omega
   refine ρ ?_;exact Jf false sB ⟨Ext.refl _,(dF (λh=>hlt h.1)).symm⟩
 rintro t w2 ⟨a4,rfl⟩;have o:=G.trans a4;refine ρ ?_;refine ci (λh=>?_) (λh=>?_)
 .obtain ⟨hlt,hc⟩:=oT h;refine ρ ?_;refine Qv (k+1) sB ⟨o,om,λi hi=>?_⟩ om;by_cases e:i=k
  .rw [e];exact hc
  .exact J i om
 have a5:=oF h;obtain ⟨aa,a2⟩:=Qdr hlt (r:=r) (k:=k) (by simpa using hk) (by
  by_cases h0:k=0
  .exact .inl h0
  .exact .inr (J (k-1) om)) (by
  by_cases h0:k<ps.length
  .exact .inr (λh'=>a5 ⟨h0,h'⟩)
  .exact .inl (by simp;omega))
 refine ρ ?_;refine Vg (fun (t:Bool)=>[(0,.slice A ps.length c),(1,vr),(7,.int .i64 ((k:Nat):Int)),(36,.bool t)])
  (λt w3=>Ext w2 w3/\t=decide (r∈ps.map (·.2))) ?_ ?_
 .refine ki 29 (λh=>?_) (λh=>?_)
  .have hlt:k<ps.length:=by have:=oT h;omega
   refine ρ ?_;refine ix k (h5.ext o) hlt ?_;refine ρ ?_;refine ld ((h5.ext o).cell (Io hlt)) ?_;refine ρ ?_;refine cl (Jvn ((h6 _ (getD_mem' z0 ps hlt)).ext o) (hr.ext o)) ?_;rintro x w3 ⟨rfl,a3⟩;refine ρ ?_;refine Jf _ sB ⟨a3,?_⟩;rw [Bool.eq_iff_iff,decide_eq_true_iff,decide_eq_true_iff,a2,Jxn];exact ⟨λh=>⟨by simpa using hlt,h⟩,λh=>h.2⟩
  .have hlt:¬ k<ps.length:=by have:=oF h;omega
   refine ρ ?_;refine Jf false sB ⟨Ext.refl _,(dF (λh=>?_)).symm⟩;have:=(a2.1 h).1;simp at this;omega
 rintro t w3 ⟨a3,rfl⟩;have C:=o.trans a3;refine ρ ?_;refine ci (λh=>?_) (λh=>?_)
 .have a6:=oT h;refine ρ ?_;refine Jq ⟨?_,C,.inl rfl⟩;unfold Zx;rw [if_pos a6];exact hl.ext C
 have a6:=oF h;have a1:=RowV.ones h6;refine ρ ?_;refine bsl Qzs ?_;intro w4 b ac ap ag;have Z:=C.trans ac;refine ρ ?_;refine slh k ?_;refine ρ ?_;refine apo (a:=w) Z ER (ag.own (n:=0) (by have:=C.size;omega) rfl (Nat.zero_le _)) ((h5.ext Z).take (m:=k) hk) (λu hu=>a1 u (List.mem_of_mem_take hu)) (by unfold maxLen;omega) om ?_;intro v5 w5 a9 ab _ _;rw [Nat.mul_one]at a9;refine ρ ?_;refine bsl (λw=>Jbp vr w B _ bc ad) ?_;intro w6 b6 a8 ao af;refine ρ ?_;refine apo (a:=w) (ab.trans a8) ER (Jk a9 a8) af.one (λu hu=>by rw [List.mem_singleton.1 hu];exact hr.one) (by unfold maxLen;omega) om ?_;intro v7 w7 ae a7 _ _;refine ρ ?_;refine sll k ?_;refine ρ ?_;refine apo (a:=w) a7 ER ae ((h5.ext a7).drop (k:=k) (c:=c) hk h3) (λu hu=>a1 u (List.mem_of_mem_drop hu)) (by unfold maxLen;omega) om ?_;intro v8 w8 U O _ _;rw [Nat.mul_one]at U;refine ρ ?_;refine Jq ⟨?_,O,.inr (Qgm U)⟩
 have e0:Zx ds (ps.map (·.2)) r=(ps.take k++[(vr,r)]++ps.drop k).map (·.2):=by
  unfold Zx;rw [if_neg a6,aa];simp
 have el:(ps.take k++[(vr,r)]++ps.drop k).length=0+k+1+(ps.length-k):=by simp;omega
 have ec:(ps.take k++[(vr,r)]++ps.drop k).map (·.1)=[]++(ps.map (·.1)).take k++[vr]++(ps.map (·.1)).drop k:=by simp
 rw [e0];obtain ⟨A8,c8,rfl,ah,_⟩:=Jy U;refine ⟨_,A8,c8,rfl,by rw [el],by rw [el];exact ah,by rw [el];omega,by rw [el,ec];exact Rd.own U,λp J=>?_⟩;simp only [List.mem_append,List.mem_singleton]at J;rcases J with (J|J)|J
 .exact (h6 p (List.mem_of_mem_take J)).ext O
 .rw [J];exact hr.ext O
 .exact (h6 p (List.mem_of_mem_drop J)).ext O
end Go.Proofs.YtebcagekopgdhaaGreatDoor
