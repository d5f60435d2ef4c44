/- Part 39 of the proof: Ac2. -/
import Derived.Test.YtefpailelagbkaaGreatDoorJ38
set_option linter.unusedVariables false
set_option maxRecDepth 100000
set_option maxHeartbeats 40000000
namespace Go.Wk
open Go.RowKit
open Go.Maps (Keyed)
section
variable {P:Program} {n:Nat} {al:AL} {w:World} {Q:Exit->Act->World->Prop} {ops:Array Oper} {rest:List Oper} {d ty:Nat} {op:Op} {pos:String} {aft:Array Edge} {tt:TT}
theorem wopv{v:Value}{w':World}(h:∀ a,Fr n al a->(execOp a.eval ⟨none,op,ty,pos,aft,none⟩).run P w=.ok (.value v) w')(k:WL P n ops Q rest al w'):
  WL P n ops Q (⟨none,op,ty,pos,aft,none⟩::rest) al w:=λa ha=>
 wpList_plain rfl λK hK=>by
  unfold Oper.wp;rw [h a ha,Oper.upon_value];exact hK _ _ (k _ ha)
theorem mdn[hT:Tab P tt]{t k e b m:Nat}{kd:TK}{f:Lit->Option Value}{x y:Operand}{key:Value}{kl:Lit}(K:Keyed P k)(hM:MapS P k w b m f)(hkey:keyOf P k key=some kl)(kk:∀ w1,MapS P k w1 b m (upL f kl none)->w.grownBy w1 (some b)->WL P n ops Q rest al w1)(ht:tk tt t=some kd:=by rfl)(hk:kd.desc=.map k e:=by rfl)(hx:ev al x=some (.map (some b)):=by rfl)(hy:ev al y=some key:=by rfl):
  WL P n ops Q (⟨none,.call { callee:=.builtin .delete,args:=#[x,y],argTypes:=#[t,k] },ty,pos,aft,none⟩::rest) al w:=by
 obtain ⟨w',hr,hS,hg⟩:=hM.drop K (Jcr hT.ok ht hk rfl) hkey ty;exact wopv (v:=.tuple #[]) (w':=w') (λa ha=>by simp [execOp,resolve,invoke,builtin,ha.ev hx,ha.ev hy,hr]) (kk w' hS hg)
end
end Go.Wk
namespace Go.Proofs.YtefpailelagbkaaGreatDoor
open Go.RowKit Pl Go.Wk
attribute [local irreducible] WC WL QX WD WDB WP WN WG
theorem KI: Maps.Keyed Tryz.prog 3:=Maps.int_keyed Tryz.underlying3
theorem keyI{c:Nat}(hc:c<=1000000): keyOf Tryz.prog 3 (.int .i64 (c:Int))=some (.int .i64 (c:Int)):=Maps.keyOf_int_mk Tryz.underlying3 (by
 have h1:IntKind.i64.min = -9223372036854775808:=by decide
 have h2:IntKind.i64.max=9223372036854775807:=by decide
 simp only [Lit.wf,Bool.and_eq_true,decide_eq_true_eq,h1,h2];omega)
structure SeK where
 B0: Nat
 w0:World
 w1:World
 mb:Nat
 sb:Nat
 x0:Value
 x1:Value
 x2:Value
 x3:Value
 x4:Value
 BA:Option Addr
 bc:Nat
 f:Nat
 ds:List Bool
 kf:Nat->Nat
 pf:Nat->Int
 BB:Nat->List BkT
 tot:Nat
 L:List Row
def SeK.x(K:SeK): Value:=.agg #[K.x0,K.x1,K.x2,K.x3,K.x4]
def SeK.X(K:SeK): IX:=Jhw K.f K.kf K.pf K.BB
def SeK.t(K:SeK)(c:Nat)(y:Row): Tr:=trK (K.BB c) (pmR (bk (K.kf c) 32) y)
theorem SeK.T(K:SeK)(c:Nat)(y:Row): K.X.T c y=(K.t c y).sum:=Xqd c y
theorem SeK.E(K:SeK)(c:Nat)(y:Row): K.X.E c (K.X.key c y)=(K.t c y).toL:=Xqf c _
def PdF(K:SeK)(y:Row)(S:Nat->Bool)(fm:Lit->Option Value): Prop :=
 (∀ c,c<K.f->S c=true->∃ d p,fm (.int .i64 (c:Int))=some (.agg #[.bool d,.pointer p])/\TrV (λ_=>False) K.w0 (K.t c y) (.pointer p)/\(K.t c y≠.nil->d=K.ds.getD c false)) /\
 ∀ kl,fm kl≠none->∃ c:Nat,c<K.f/\S c=true/\kl=.int .i64 (c:Int)
structure SeF(K:SeK): Prop where
 tb:TB K.B0 K.w0
 ix:IxV K.w0 K.x K.f K.ds K.kf K.pf K.BB K.tot
 ip:IxP K.f K.ds K.kf K.pf K.BB K.tot K.L
 ne:K.tot≠0
 e01:Ext K.w0 K.w1
 m1:K.w0.heap.size<=K.mb
 m2:K.mb<K.w1.heap.size
 s1:K.w1.heap.size<=K.sb
 bcl:K.f<=K.bc
 bg:Off (λk=>k=K.mb) K.w1 (λu=>Rd u 3 K.BA K.f (Jxt K.f (Jyh K.kf K.pf)))
 one:∀ u∈[K.x0,K.x1,K.x2,K.x3,K.x4],u.oneCell'=true
def sCs(K:SeK)(yv:Value)(st:Nat): List Value:=[K.x0,K.x1,K.x2,K.x3,K.x4,.slice K.BA K.f K.bc,yv,.map (some K.mb),.int .i64 (st:Int)]
structure SeM(K:SeK)(w:World)(y:Row)(S:Nat->Bool)(st M:Nat)(yv:Value)(m:Nat)(fm:Lit->Option Value): Prop where
 gr:GrN (λk=>k=K.mb) K.w1 w
 blk:Blk w K.sb 131 (sCs K yv st)
 row:w.ownsRow K.w1.heap.size 71 3 yv y.length (Jxs y)
 map:MapS Tryz.prog 3 w K.mb m fm
 mle:m<=M
 pd:PdF K y S fm
def LoB(K:SeK)(B:Nat)(yv:Value): Prop:=K.sb<B/\∀ g,yv.ownBlock=some g->g<B
def SeV(K:SeK)(w:World)(y:Row)(S:Nat->Bool)(st M B:Nat): Prop:=∃ yv m fm,SeM K w y S st M yv m fm/\LoB K B yv
section
variable {K:SeK} {w w':World} {y:Row} {S:Nat->Bool} {st M m B:Nat} {yv:Value} {fm:Lit->Option Value}
theorem SeF.nsm(hF:SeF K): ¬ K.sb=K.mb:=λe=>by have:=hF.m2;have:=hF.s1;omega
theorem SeF.ext(hF:SeF K)(h:GrN (λk=>k=K.mb) K.w1 w): Ext K.w0 w:=h.old hF.e01 λk hk=>by rw [hk];exact hF.m1
theorem SeM.ext'(h:SeM K w y S st M yv m fm)(hx:Ext w w'): SeM K w' y S st M yv m fm :=
 ⟨h.gr.trans (GrN.ext hx),h.blk.ext hx,Jjc h.row hx,h.map.ext hx,h.mle,h.pd⟩
theorem SeM.x5(h:SeM K w y S st M yv m fm)(j:Nat)(u:Value)(hu:[K.x0,K.x1,K.x2,K.x3,K.x4][j]?=some u): w.cell? ((⟨K.sb,0,none⟩:Addr).add j)=some u :=
 Blk.pre (cs:=[K.x0,K.x1,K.x2,K.x3,K.x4]) (ds:=[.slice K.BA K.f K.bc,yv,.map (some K.mb),.int .i64 (st:Int)]) h.blk j u hu
theorem SeV.ext(h:SeV K w y S st M B)(hx:Ext w w'): SeV K w' y S st M B:=by
 obtain ⟨yv,m,fm,h,hb⟩:=h;exact ⟨yv,m,fm,h.ext' hx,hb⟩
theorem SeV.top(h:SeV K w y S st M B): SeV K w y S st M w.heap.size:=by
 obtain ⟨yv,m,fm,h,hb⟩:=h;obtain ⟨_,_,_,_,h3⟩:=Jjd h.row;exact ⟨yv,m,fm,h,h.blk.lt,λg eg=>(h3 g eg).2⟩
theorem SeM.to(hF:SeF K)(h:SeM K w y S st M yv m fm)(hg:GrN (λk=>k=K.mb) w w'){S':Nat->Bool}{M' m':Nat}{fm':Lit->Option Value}(hM:MapS Tryz.prog 3 w' K.mb m' fm')(hm:m'<=M')(hp:PdF K y S' fm'): SeM K w' y S' st M' yv m' fm':=by
 refine ⟨h.gr.trans hg,Jqb h.blk hg hF.nsm,Jjr h.row hg λg eg e=>?_,hM,hm,hp⟩;obtain ⟨_,_,_,_,h3⟩:=Jjd h.row;have:=(h3 g eg).1;have:=hF.m2;omega
theorem SeV.same{S':Nat->Bool}(h:SeV K w y S st M B)(e:∀ c,c<K.f->S c=S' c): SeV K w y S' st M B:=by
 obtain ⟨yv,m,fm,h,hb⟩:=h;refine ⟨yv,m,fm,⟨h.gr,h.blk,h.row,h.map,h.mle,λc hc hs=>h.pd.1 c hc ((e c hc).trans hs),λkl hk=>?_⟩,hb⟩;obtain ⟨c,h1,h2,h3⟩:=h.pd.2 kl hk;exact ⟨c,h1,by rw [<-e c h1];exact h2,h3⟩
theorem SeV.more{M':Nat}(h:SeV K w y S st M B)(hM:M<=M'): SeV K w y S st M' B:=by
 obtain ⟨yv,m,fm,h,hb⟩:=h;exact ⟨yv,m,fm,⟨h.gr,h.blk,h.row,h.map,Nat.le_trans h.mle hM,h.pd⟩,hb⟩
theorem Qkv{c:Nat}(hc:c<=1000000): WideAt.IsKeyLit (.int .i64 (c:Int)):=KI.key (keyI hc)
theorem Jsx{c c':Nat}(h:Lit.int .i64 (c:Int)=.int .i64 (c':Int)): c=c':=by injection h with _ h;omega
theorem PdF.put(h:PdF K y S fm)(hf:K.f<=32){c:Nat}(hc:c<K.f){d:Bool}{p:Option Addr}(ht:TrV (λ_=>False) K.w0 (K.t c y) (.pointer p))(hd:K.t c y≠.nil->d=K.ds.getD c false):
  PdF K y (λj=>S j || decide (j=c)) (upL fm (.int .i64 (c:Int)) (some (.agg #[.bool d,.pointer p]))):=by
 constructor
 ·intro j hj hs;by_cases e:j=c
  ·subst e;rw [Jdj (Qkv (by omega))];exact ⟨d,p,rfl,ht,hd⟩
  ·rw [Jyl λe'=>e (Jsx e')];exact h.1 j hj (by simpa [e] using hs)
 ·intro kl hk;by_cases e:kl=.int .i64 (c:Int)
  ·exact ⟨c,hc,by simp,e⟩
  ·rw [Jyl e]at hk;obtain ⟨j,h1,h2,h3⟩:=h.2 kl hk;exact ⟨j,h1,by simp [h2],h3⟩
theorem PdF.drop(h:PdF K y S fm)(hf:K.f<=32){c:Nat}(hc:c<K.f): PdF K y (λj=>S j && !decide (j=c)) (upL fm (.int .i64 (c:Int)) none):=by
 constructor
 ·intro j hj hs;simp only [Bool.and_eq_true,Bool.not_eq_true',decide_eq_false_iff_not]at hs;rw [Jyl λe'=>hs.2 (Jsx e')];exact h.1 j hj hs.1
 ·intro kl hk;by_cases e:kl=.int .i64 (c:Int)
  ·rw [e,Jdj (Qkv (by omega))]at hk;exact absurd rfl hk
  ·rw [Jyl e]at hk;obtain ⟨j,h1,h2,h3⟩:=h.2 kl hk;refine ⟨j,h1,?_,h3⟩;have:j≠c:=λe'=>e (by rw [h3,e']);simp [h2,this]
theorem SeK.t_app(hF:SeF K){c:Nat}(hc:c<K.f)(hp:K.pf c<(y.length:Int))(z:Row): K.t c (y++z)=K.t c y:=by
 have:=(hF.ip.ok hF.ne).key_pre (y:=y) (z:=z) hc hp;unfold SeK.t;exact congrArg (trK (K.BB c)) this
theorem PdF.app(h:PdF K y S fm)(hF:SeF K)(hS:∀ c,c<K.f->S c=true->K.pf c<(y.length:Int))(z:Row): PdF K (y++z) S fm:=by
 refine ⟨λc hc hs=>?_,h.2⟩;rw [SeK.t_app hF hc (hS c hc hs)];exact h.1 c hc hs
theorem Qtj{kf:Nat->Nat}{pf:Nat->Int}{f:Nat}{BA:Option Addr}(hR:Rd w 3 BA f (Jxt f (Jyh kf pf))){c:Nat}(hc:c<f): ∀ j u,(Jyh kf pf c)[j]?=some u->w.cell? ((adr BA (c*3)).add j)=some u:=λj u hu=>by
 have hj:j<3:=by
  rcases Nat.lt_or_ge j 3 with h'|h'
  ·exact h'
  ·rw [List.getElem?_eq_none (by simp [Jyh];omega)]at hu;cases hu
 rw [Jqw];exact hR.cell ((Jwr (sz:=3) (λ_ _=>rfl) hc hj).trans hu)
theorem Qzh(hF:SeF K)(hS:SeV K w y S st M B)(hM:M<=4096)(hg:K.X.Gp y)(hyf:y.length<=K.f){v:Int}(hv:v+1=(y.length:Int)):
  Ret Tryz.prog 96 [.pointer (some ⟨K.sb,0,none⟩),.int .i64 v] w λu w'=>u=.tuple #[]/\GrN (λk=>k=K.mb) w w'/\SeV K w' y (λc=>S c || decide (K.pf c=v)) st (M+K.f) B:=by
 have f32:=hF.ip.f32;obtain ⟨yv0,m0,fm0,H0,hlo0⟩:=id hS;refine Jjb Tryz.func96 Tryz.ntmps96 rfl (by kernel_rfl) rfl ?_;refine ρ ?_;refine ld (H0.blk.at (i:=5) rfl) ?_;refine ρ ?_;refine Jqn (fun (c:Nat)=>[(0,.pointer (some ⟨K.sb,0,none⟩)),(1,.int .i64 v),(11,.slice K.BA K.f K.bc),(12,.int .i64 (K.f:Int)),(13,.int .i64 (c:Int))])
  (λc w'=>c<=K.f/\GrN (λk=>k=K.mb) w w'/\SeV K w' y (λj=>S j || (decide (j<c) && decide (K.pf j=v))) st (M+c) B) (λc=>K.f-c) 0 sB
  ⟨Nat.zero_le _,GrN.refl _ _,hS.same λc _=>by simp⟩ ?_
 clear hlo0 H0 yv0 m0 fm0;rintro c w1 ⟨hc,hg1,hS1⟩;refine ρ ?_;refine ci (λh=>?_) (λh=>?_)
 ·have lc:c<K.f:=by have:=of_decide_eq_true h;omega
  clear h;obtain ⟨yv,m,fm,H,hlo⟩:=id hS1;have hbg:=hF.bg w1 H.gr;refine ρ ?_;refine ixq 3 c hbg lc ?_;refine ρ ?_;refine lds (cs:=Jyh K.kf K.pf c) (Qtj hbg lc) ?_;refine ρ ?_;refine alc (cs:=[.int .i64 0,.int .u32 0,.int .i64 0]) zBag ?_;intro w2 bb hx2 hbb hBB;refine ρ ?_;refine stb (cs':=Jyh K.kf K.pf c) hBB ?_ Jfx;intro w3 hBB3 hg3 hx3;have hx13:Ext w1 w3:=hx3 w1 hx2 hbb;refine ρ ?_;refine ld (hBB3.at (i:=2) rfl) ?_;refine ρ ?_;refine ci (λh=>?_) (λh=>?_)
  ·have hp:K.pf c=v:=Jql h;clear h;have H3:=H.ext' hx13;have hx03:=hF.ext H3.gr;have hxd:Ext w3 w3.drew:=(Ext.refl w3).drew;have Hd:=H3.ext' hxd;have hx0d:=hx03.trans hxd;obtain ⟨YA,yc,rfl,hyc,_⟩:=Jjd Hd.row;have hkb:=hF.ip.keyb hF.ne lc (m:=y.length) (by rw [hp];omega);have hfit:=hF.ip.fitK hg c;refine ρ ?_;refine drH (λi=>Nat.ble 20 i) ?_;refine Jtj (fuel':=8) 10 [(0,0),(0,1),(0,2),(0,3),(0,4),(0,5),(0,6),(0,7),(0,8),(0,9),(0,10),(0,11),(0,12),(0,13)] (lst 22 14) (by kernel_rfl) (by kernel_rfl) rfl ?_;refine ρd ?_;refine Jwv (cs:=[K.x0,K.x1,K.x2,K.x3,K.x4]) (λj u hu=>Hd.x5 j u hu) ?_;refine ρd ?_;refine Jwv (cs:=[K.x0,K.x1,K.x2,K.x3,K.x4]) (λj u hu=>Hd.x5 j u hu) ?_;refine ρd ?_;refine dld (Hd.blk.at (i:=6) rfl) ?_;refine ρd ?_;refine Jzz ?_;refine hcut 2 (lst 22 20) (fun (q:Bool×Option Addr×Bool×Nat)=>[(39,.agg #[.bool q.1,.pointer q.2.1]),(40,.bool q.2.2.1),(6,.pointer (some ⟨q.2.2.2,0,none⟩)),(4,.int .i64 (c:Int)),(0,.pointer (some ⟨K.sb,0,none⟩)),(1,.int .i64 v),(11,.slice K.BA K.f K.bc),(12,.int .i64 (K.f:Int)),(13,.int .i64 (c:Int))])
    (λq W=>Ext w3.drew W/\Blk W q.2.2.2 126 [.bool false,.pointer none]/\w3.drew.heap.size<=q.2.2.2/\TrV (λ_=>False) K.w0 (K.t c y) (.pointer q.2.1)/\(K.t c y≠.nil->q.1=K.ds.getD c false)) ?_ ?_
   ·rintro ⟨d,p,e,b6⟩ W ⟨hxW,hBW,hbW,hT,hd⟩;simp only at hBW hbW hT hd;refine Jtj (fuel':=0) 10 [(2,20),(2,21)] (lst 22 22) (by kernel_rfl) (by kernel_rfl) rfl ?_;refine Jqz ?_;refine stb (cs':=[.bool d,.pointer p]) hBW ?_ Jzv;intro W2 hBW2 hgW2 hxW2;refine Jxz (Jxx ?_);refine Jqz ?_;refine ρ ?_;refine Jxx ?_;refine Qxq (Jzz ?_);refine hend (by kernel_rfl) ?_;have hx3W:Ext w3 W2:=hxW2 w3 (hxd.trans hxW) (Nat.le_trans hxd.size hbW);have HW:=H3.ext' (hx3W.trans ((Ext.refl W2).drew));have hBWd:=hBW2.ext ((Ext.refl W2).drew);refine ρ ?_;refine drN (λ_=>False) 10 [(0,0),(0,1),(0,2),(0,3),(0,4),(0,5),(2,6)] (by kernel_rfl) ?_;refine ρn ?_;refine nld (Jjg (HW.blk.at (i:=7) rfl) (λe=>e)) ?_;refine ρn ?_;refine Jfd (cs:=[.bool d,.pointer p]) (λw' hg j u hu=>(Jqb hBWd hg (λe=>e)).at hu) ?_;refine ρn ?_;refine Jkj ?_;refine mup KI HW.map (by have:=HW.mle;unfold maxLen;omega) (keyI (c:=c) (by omega)) ?_
    intro W3 hM3 hg3;have hgW3:GrN (λk=>k=K.mb) W2.drew W3:=GrN.by hg3 λk hk=>by injection hk with hk;exact hk.symm
    have hS3:=HW.to hF hgW3 hM3 (M':=M+(c+1)) (by have:=HW.mle;omega) (HW.pd.put f32 lc hT hd);refine ρ ?_;refine Jjt (c+1) sO ⟨lc,((hg1.trans (GrN.ext hx13)).trans (GrN.ext (hx3W.trans (Ext.refl W2).drew))).trans hgW3,SeV.same ⟨_,_,_,hS3,hlo⟩ λj _=>?_⟩ (by omega);by_cases e:j=c
    ·subst e;simp [hp]
    ·have:(decide (j<c+1))=decide (j<c):=by by_cases h1:j<c<;>simp [h1]<;>omega
     rw [this];simp [e]
   intro rest;have hdir:∀ {d:Bool},((Qkz (K.BB c) (pmR (bk (K.kf c) 32) y)).isSome=true->d=K.ds.getD c false)->K.t c y≠.nil->d=K.ds.getD c false:=fun {d} h hne=>h (by
    cases hi:Qkz (K.BB c) (pmR (bk (K.kf c) 32) y) with
    | none=>exact absurd (Qxk hi) hne
    | some i=>rfl)
   have hrow:=Rd.own Hd.row;refine htwo 14 19 (by kernel_rfl) rfl rfl rfl ?_ ?_
   ·refine ρ ?_;refine cl (Qxb (hF.ix.ext hx0d) lc hrow hyc (by omega) hkb) ?_;rintro uk W1 ⟨⟨KA,kc,rfl,hkc,hkm,hkR,_⟩,hy1⟩;refine Jxz (Jgw hy1 ?_);refine htwo 15 19 (by kernel_rfl) rfl rfl rfl ?_ ?_
    ·refine ρ ?_;refine cl (Jyv (hF.tb.ext (hx0d.trans hy1)) (hx0d.trans hy1) hF.ix lc hkR hfit) ?_;rintro u W2 ⟨d,p,rfl,hT,hd,hy2⟩;refine Jxz (Jgw hy2 ?_);refine Jtj (fuel':=4) 10 [(0,16),(0,17)] (lst 22 18) (by kernel_rfl) (by kernel_rfl) rfl ?_;refine ρd ?_;refine Jzz ?_;refine Qfr (fuel':=3) 18 (by kernel_rfl) (by kernel_rfl) rfl rfl ?_;refine ρp ?_;refine ρd ?_;refine Jzz ?_;refine Jtj (fuel':=2) 10 [(1,19)] (lst 22 20) (by kernel_rfl) (by kernel_rfl) rfl ?_;refine dalc' (cs:=[.bool false,.pointer none]) Jff ?_;intro W3 b6 hy3 hb6 hB6;refine Qxq (Jzz ?_);exact rest (d,p,_,b6) _ _ ⟨(hy1.trans hy2).trans hy3,hB6,Nat.le_trans (hy1.trans hy2).size hb6,hT,hdir hd⟩ sB
    ·refine ρ ?_;refine alc (cs:=[.bool false,.pointer none]) Jff ?_;intro W2 b6 hy2 hb6 hB6;refine Jxz (Jgw hy2 ?_);refine Jtj (fuel':=3) 10 [(1,15),(0,16),(0,17)] ((lst 22 18).setIfInBounds 19 true) (by kernel_rfl) (by kernel_rfl) rfl ?_;refine ρd ?_;refine dcl (Jyv (hF.tb.ext ((hx0d.trans hy1).trans hy2)) ((hx0d.trans hy1).trans hy2) hF.ix lc (hkR.ext hy2) hfit) ?_;rintro u W3 ⟨d,p,rfl,hT,hd,hy3⟩;refine ⟨hy3,?_⟩;refine ρd ?_;refine Jzz ?_;refine Qfr (fuel':=2) 18 (by kernel_rfl) (by kernel_rfl) rfl rfl ?_;refine ρp ?_;refine ρd ?_;refine Jzz ?_;refine hlist (listed':=lst 22 20) (by kernel_rfl) ?_;exact rest (d,p,_,b6) _ _ ⟨(hy1.trans hy2).trans hy3,hB6.ext hy3,Nat.le_trans hy1.size hb6,hT,hdir hd⟩ sB
   ·refine ρ ?_;refine alc (cs:=[.bool false,.pointer none]) Jff ?_;intro W1 b6 hy1 hb6 hB6;refine Jxz (Jgw hy1 ?_);refine Jtj (fuel':=3) 10 [(1,14),(1,15),(0,16),(0,17)] ((lst 22 18).setIfInBounds 19 true) (by kernel_rfl) (by kernel_rfl) rfl ?_;refine ρd ?_;refine dcl (Qxb (hF.ix.ext (hx0d.trans hy1)) lc (Rd.ext hrow hy1) hyc (by omega) hkb) ?_;rintro uk W2 ⟨⟨KA,kc,rfl,hkc,hkm,hkR,_⟩,hy2⟩;refine ⟨hy2,?_⟩;refine ρd ?_;refine dcl (Jyv (hF.tb.ext ((hx0d.trans hy1).trans hy2)) ((hx0d.trans hy1).trans hy2) hF.ix lc hkR hfit) ?_;rintro u W3 ⟨d,p,rfl,hT,hd,hy3⟩;refine ⟨hy3,?_⟩;refine ρd ?_;refine Jzz ?_;refine Qfr (fuel':=2) 18 (by kernel_rfl) (by kernel_rfl) rfl rfl ?_;refine ρp ?_;refine ρd ?_;refine Jzz ?_;refine hlist (listed':=lst 22 20) (by kernel_rfl) ?_;exact rest (d,p,_,b6) _ _ ⟨(hy1.trans hy2).trans hy3,(hB6.ext hy2).ext hy3,hb6,hT,hdir hd⟩ sB
  ·have hp:¬ K.pf c=v:=Jqh h;clear h;refine ρ ?_;refine Jjt (c+1) sO ⟨lc,hg1.trans (GrN.ext hx13),((hS1.ext hx13).same λj _=>?_).more (by omega)⟩ (by omega);by_cases e:j=c
   ·subst e;simp [hp]
   ·have:(decide (j<c+1))=decide (j<c):=by by_cases h1:j<c<;>simp [h1]<;>omega
    rw [this]
 ·have hc':c=K.f:=by have:=of_decide_eq_false h;omega
  subst hc';clear h;refine ρ ?_;refine Qmk ⟨rfl,hg1,hS1.same λj hj=>?_⟩;simp [hj]
theorem Jrt(hF:SeF K)(hS:SeV K w y S st M B)(hyf:y.length<K.f)(hs:S y.length=true):
  Ret Tryz.prog 62 [.pointer (some ⟨K.sb,0,none⟩)] w λu w'=>(∃ d p,u=.agg #[.bool d,.pointer p]/\TrV (λ_=>False) K.w0 (K.t y.length y) (.pointer p)/\(K.t y.length y≠.nil->d=K.ds.getD y.length false))/\GrN (λk=>k=K.mb) w w'/\SeV K w' y (λc=>S c && !decide (c=y.length)) st M B:=by
 have f32:=hF.ip.f32;obtain ⟨yv,m,fm,H,hlo⟩:=id hS;obtain ⟨d,p,hfm,ht,hd⟩:=H.pd.1 y.length hyf hs;obtain ⟨YA,yc,rfl,hyc,_⟩:=Jjd H.row;refine Jjb Tryz.func62 Tryz.ntmps62 rfl (by kernel_rfl) rfl ?_;refine ρ ?_;refine alc (cs:=[.bool false,.pointer none]) Jff ?_;intro w1 b1 hx1 hb1 hB1;have H1:=H.ext' hx1;refine ρ ?_;refine ld (H1.blk.at (i:=6) rfl) ?_;refine ρ ?_;refine ld (H1.blk.at (i:=7) rfl) ?_;refine ρ ?_;refine mlk KI H1.map Jff (keyI (c:=y.length) (by omega)) ?_;rw [hfm];refine ρ ?_;refine alc (cs:=[.bool false,.pointer none]) Jff ?_;intro w2 b2 hx2 hb2 hB2;refine ρ ?_;refine stb (cs':=[.bool d,.pointer p]) hB2 ?_ Jzv;intro w3 hB3 hg3 hx3;have hx13:Ext w1 w3:=hx3 w1 hx2 hb2;have H3:=H1.ext' hx13;refine ρ ?_;refine ld (H3.blk.at (i:=7) rfl) ?_;refine ρ ?_;refine mdn KI H3.map (keyI (c:=y.length) (by omega)) ?_;intro w4 hM4 hg4;have hg34:GrN (λk=>k=K.mb) w3 w4:=GrN.by hg4 λk hk=>by injection hk with hk;exact hk.symm
 have lmb:K.mb<w.heap.size:=H.map.lt;have l1:=hx1.size;have l2:=hx2.size;have n1:¬ b1=K.mb:=by omega
 have n2:¬ b2=K.mb:=by omega
 have hB34:=Jqb hB3 hg34 n2;refine ρ ?_;refine lds (cs:=[.bool d,.pointer p]) (λj u hu=>hB34.at hu) ?_;refine ρ ?_;refine stb (cs':=[.bool d,.pointer p]) (Jqb (hB1.ext hx13) hg34 n1) ?_ Jzv;intro w5 hB5 hg5 hx5;have hgl:GrN (λk=>k=K.mb) w w4:=((GrN.ext hx1).trans (GrN.ext hx13)).trans hg34;have hg45:GrN (λk=>k=b1) w4 w5:=GrN.by hg5 λk hk=>by injection hk with hk;exact hk.symm
 have hgw5:GrN (λk=>k=K.mb) w w5:=((hgl.mono λk _ hk=>(.inl hk:k=K.mb∨k=b1)).trans (hg45.mono λk _ hk=>.inr hk)).mono λk hk h=>h.elim id λe=>by omega
 refine ρ ?_;refine Qwd hB5 ⟨⟨d,p,rfl,ht,hd⟩,hgw5,_,m,_,H.to hF hgw5 (hM4.gr hg45 (λe=>n1 e.symm)) H.mle (H.pd.drop f32 hyf),hlo⟩
theorem Jhg(hF:SeF K)(hS:SeV K w y S st M B)(hM:M<=4096)(hyf:y.length<K.f)(v:V)(hg:K.X.Gp (y++[v]))(hSp:∀ c,c<K.f->S c=true->K.pf c<(y.length:Int)):
  Ret Tryz.prog 64 [.pointer (some ⟨K.sb,0,none⟩),v.val] w λu w'=>u=.tuple #[]/\GrN (λk=>k<B) w w'/\SeV K w' (y++[v]) (λc=>S c || decide (K.pf c=(y.length:Int))) st (M+K.f) w'.heap.size:=by
 have f32:=hF.ip.f32;obtain ⟨yv,m,fm,H,hlo⟩:=id hS;obtain ⟨YA,yc,rfl,hyc,hyg⟩:=Jjd H.row;refine Jjb Tryz.func64 Tryz.ntmps64 rfl (by kernel_rfl) rfl ?_;refine ρ ?_;refine bx (cs:=v.cells) ?_;intro w1 b1 hx1 hb1 hB1;have hxd:Ext w1 w1.drew:=(Ext.refl w1).drew;have Hd:=H.ext' (hx1.trans hxd);have hB1d:=hB1.ext hxd;have n1:¬ (Value.slice YA y.length yc).ownBlock=some b1:=λe=>by have:=(hyg b1 e).2;omega
 have ns:¬ (Value.slice YA y.length yc).ownBlock=some K.sb:=λe=>(Blk.ne_own Hd.blk Hd.row rfl) e.symm;refine ρ ?_;refine drN (λk=>(Value.slice YA y.length yc).ownBlock=some k) 10 [(0,0),(0,1),(0,2),(0,3),(0,4),(0,5),(1,6),(1,7),(0,8),(0,9),(2,10)] (by kernel_rfl) ?_;refine ρn ?_;refine nld (Jjg (Hd.blk.at (i:=6) rfl) ns) ?_;refine ρn ?_;refine Jfd (cs:=v.cells) (λw' hg j u hu=>(Jqb hB1d hg n1).at hu) ?_;refine ρn ?_;refine nop ?_;refine bsl (Jns v) ?_;intro w2 b2 hx2 hb2 hB2;refine ρ ?_;refine Jqm (GrN.ext hx2) ?_;have H2:=Hd.ext' hx2;refine nop ?_;have hw12:K.w1.heap.size<=w2.heap.size:=H2.gr.size;refine apb (m':=1) (news:=v.cells) EV H2.row (hB2.rd (n:=1) rfl) (V.one _) (by unfold maxLen;omega) (by omega) hw12 ?_;intro yv3 w3 ho3 hg3 hn3;obtain ⟨Y3,c3,rfl,hyc3,hyg3⟩:=Jjd ho3;refine ρ ?_;refine Jqm (GrN.by hg3 λk hk=>hk) ?_;refine ρn ?_;refine Jkj ?_;have hg23:GrN (λk=>(Value.slice YA y.length yc).ownBlock=some k) w2 w3:=GrN.by hg3 λk hk=>hk
 have hB3:=Jqb H2.blk hg23 ns;refine sto (hB3.at (i:=6) rfl) (hB3.frozen 6) ?_;have hB4:Blk (w3.setCell ((⟨K.sb,0,none⟩:Addr).add 6) (.slice Y3 (y.length+1) c3)) K.sb 131 (sCs K (.slice Y3 (y.length+1) c3) st):=hB3.set 6 _;have hg34:GrN (λk=>k=K.sb) w3 (w3.setCell ((⟨K.sb,0,none⟩:Addr).add 6) (.slice Y3 (y.length+1) c3)):=GrN.set _ rfl;have hM3:MapS Tryz.prog 3 w3 K.mb m fm:=H2.map.gr hg23 (λe=>by have:=(hyg _ e).1;have:=hF.m2;omega);have hM4:=hM3.gr hg34 (λe=>hF.nsm e.symm);have ho4:=Jjr ho3 hg34 λg eg e=>by rw [e]at eg;exact (Blk.ne_own hB3 ho3 rfl) eg.symm
 have hgr4:GrN (λk=>k=K.mb) K.w1 (w3.setCell ((⟨K.sb,0,none⟩:Addr).add 6) (.slice Y3 (y.length+1) c3)):=by
  have h1:=((H2.gr.mono λk _ h=>(.inl h:k=K.mb∨K.w1.heap.size<=k)).trans (hg23.mono λk _ h=>(.inr (hyg k h).1:k=K.mb∨K.w1.heap.size<=k))).trans (hg34.mono λk _ h=>(.inr (by rw [h];exact hF.s1):k=K.mb∨K.w1.heap.size<=k));exact h1.mono λk hk h=>h.elim id λh'=>by omega
 have hlm:K.mb<B:=by have:=hF.m2;have:=hF.s1;have:=hlo.1;omega
 have hgB:GrN (λk=>k<B) w (w3.setCell ((⟨K.sb,0,none⟩:Addr).add 6) (.slice Y3 (y.length+1) c3)) :=
  ((GrN.ext ((hx1.trans hxd).trans hx2)).trans (hg23.mono λk _ h=>hlo.2 k h)).trans (hg34.mono λk _ h=>by rw [h];exact hlo.1)
 generalize (w3.setCell ((⟨K.sb,0,none⟩:Addr).add 6) (.slice Y3 (y.length+1) c3))=w4 at hB4 hg34 hM4 ho4 hgr4 hgB
 have hS4:SeV K w4 (y++[v]) S st M w4.heap.size:=by
  refine ⟨_,m,fm,⟨hgr4,hB4,?_,hM4,H.mle,H.pd.app hF hSp [v]⟩,hB4.lt,λg eg=>(Jjd ho4).elim λ_ h=>h.elim λ_ h=>(h.2.2 g eg).2⟩;rw [List.length_append,List.length_singleton,rowC_app'];have e3:Jxs [v]=v.cells:=by simp [Jxs]
  rw [e3];exact ho4
 refine ω5 ?_;refine Jch ?_;refine ρn ?_;refine ρ ?_;refine ld (hB4.at (i:=6) rfl) ?_;refine ρ ?_;refine cl (Qzh hF hS4 hM hg (by simp;omega) (v:=((y.length+1:Nat):Int)-1) (by simp)) ?_;rintro u w5 ⟨rfl,hg5,h5⟩;refine ρ ?_;refine Qmk ⟨rfl,hgB.trans (hg5.mono λk _ h=>by rw [h];exact hlm),h5.top.same λc hc=>?_⟩;have:((y.length+1:Nat):Int)-1=(y.length:Int):=by omega
 rw [this]
theorem Jpd(hF:SeF K)(hS:SeV K w y S st M B):
  Ret Tryz.prog 65 [.pointer (some ⟨K.sb,0,none⟩)] w λu w'=>NatV w' u (K.X.prodS S y)/\Fresh w u/\Ext w w':=by
 have f32:=hF.ip.f32;obtain ⟨yv,m,fm,H,hlo⟩:=id hS;obtain ⟨g,hg⟩:∃ g:(Lit->Bool)->Nat->Nat,g=λleft c=>if S c=true/\left (.int .i64 (c:Int))=false then K.X.T c y else 1:=⟨_,rfl⟩
 have hgS:∀ left c,g left c<=4294967296^20:=λleft c=>by
  rw [hg];simp only;split
  ·rw [K.T];exact hF.ip.big _ _
  ·exact Nat.pow_pos (by decide)
 have hnb:∀ left,Nb (Jjz K.f (g left)):=λleft=>Nb.pow (k:=K.f) (Jkr (Nat.pow_pos (by decide)) λc _=>hgS left c) (by omega);refine Jjb Tryz.func65 Tryz.ntmps65 rfl (by kernel_rfl) rfl ?_;refine ρ ?_;refine cl (Jzf 1 (by decide) _) ?_;rintro vp w1 ⟨hp1,hf1,hx1⟩;refine ρ ?_;refine ld ((H.blk.ext hx1).at (i:=7) rfl) ?_;refine ρ ?_;refine rngm KI (H.map.ext hx1) ?_;intro w2 r cnt hx2 hr2 hR2;have lr:w.heap.size<=r:=Nat.le_trans hx1.size hr2;refine ρ ?_;refine Jzk (fun (left:Lit->Bool) (cnt:Nat) (vp:Value)=>[(0,.pointer (some ⟨K.sb,0,none⟩)),(3,vp),(11,.pointer (some ⟨r,0,none⟩))])
  (λleft cnt vp w'=>Ext w w'/\RgS Tryz.prog 3 w' K.mb r m fm left cnt/\NatX (λk=>k=r) w' vp (Jjz K.f (g left))/\Fresh w vp) (λ_ cnt _=>cnt) _ cnt vp sB ⟨hx1.trans hx2,hR2,?_,hf1⟩ ?_
 ·have e:Jjz K.f (g λkl=>(fm kl).isSome)=1:=Qqk λc hc=>by
   rw [hg];simp only;rw [if_neg];rintro ⟨h1,h2⟩;obtain ⟨d,p,h3,_⟩:=H.pd.1 c hc h1;rw [h3]at h2;cases h2
  rw [e];exact (NatX.old (N:=λ_=>False) ⟨hp1,λ_ _ _ _ _ h=>h⟩ λk hk=>.inr (by rw [hk];exact hr2)).ext hx2
 clear hp1 hf1 hR2 hx2 hx1 vp cnt;rintro left cnt vp w3 ⟨hx3,hR3,hp3,hf3⟩;refine ρ ?_;refine nxtm KI hR3 (λhl=>?_) (λkey v kl w4 cnt' hkey hlk hfk hR4 hlt hg4 hen=>?_)
 ·refine ρ ?_;have e:Jjz K.f (g left)=K.X.prodS S y:=Jxn λc hc=>by
   rw [hg];simp only;rw [hl];simp
  rw [e]at hp3;exact Jjq ⟨hp3.1,hf3,hx3⟩
 ·obtain ⟨c,hc,hsc,rfl⟩:=H.pd.2 kl (by rw [hfk];simp);obtain ⟨d,p,hfc,ht,_⟩:=H.pd.1 c hc hsc;rw [hfk]at hfc;injection hfc with hfc
  subst hfc;have hx4:Ext w w4:=hg4.old hx3 λk hk=>by rw [hk];exact lr
  refine ρ ?_;refine entm hen ?_;refine ρ ?_;refine alc (cs:=[.bool false,.pointer none]) Jff ?_;intro w5 b5 hx5 hb5 hB5;refine ρ ?_;refine stb (cs':=[.bool d,.pointer p]) hB5 ?_ Jzv;intro w6 hB6 hg6 hx6;have hx46:Ext w4 w6:=hx6 w4 hx5 hb5;refine ρ ?_;refine lds (cs:=[.bool d,.pointer p]) (λj u hu=>hB6.at hu) ?_;refine ρ ?_;have hx06:Ext K.w0 w6:=(hF.ext H.gr).trans (hx4.trans hx46);refine cl (Jbz (ht.ext hx06) (by rw [<-K.T];exact Nb.pow (k:=1) (by rw [Nat.pow_one,K.T];exact hF.ip.big _ _) (by omega))) ?_;rintro ut w7 ⟨hut,hft,hx7⟩;have hp7:NatV w7 vp (Jjz K.f (g left)):=(((hp3.gr hg4).ext hx46).ext hx7).1;refine ρ ?_;refine cl (Jbn hp7 hut (hnb left).len (Nb.len (Nb.pow (k:=1) (by rw [Nat.pow_one];exact hF.ip.big _ _) (by omega)))) ?_;rintro ur w8 ⟨hur,hfr,hx8⟩;refine ρ ?_;refine Jqf _ cnt' ur sO ⟨((hx4.trans hx46).trans hx7).trans hx8,((hR4.ext hx46).ext hx7).ext hx8,?_,λad m c e=>?_⟩ hlt
  ·have lr7:r<w7.heap.size:=Nat.lt_of_lt_of_le (hR4.lt) (hx46.trans hx7).size;have e:Jjz K.f (g λz=>left z && !z.sameKey (.int .i64 (c:Int)))=Jjz K.f (g left)*(K.t c y).sum:=by
    rw [Jmb hc,Jmb (g:=g left) hc];have h1:g left c=1:=by rw [hg];simp only;rw [if_neg];rintro ⟨_,h2⟩;rw [hlk]at h2;cases h2
    have h2:g (λz=>left z && !z.sameKey (.int .i64 (c:Int))) c=(K.t c y).sum:=by
     rw [hg];simp only;rw [if_pos ⟨hsc,by rw [WideAt.sameKey_self (Qkv (by omega))];simp⟩,K.T]
    rw [h1,h2,Nat.one_mul,Nat.mul_comm];congr 1
    refine Jxn λj hj=>?_;by_cases ej:j=c
    ·rw [if_pos ej,if_pos ej]
    ·rw [if_neg ej,if_neg ej,hg];simp only;have:(Lit.int .i64 (j:Int)).sameKey (.int .i64 (c:Int))=false:=Maps.sameKey_ne λe'=>ej (Jsx e');simp only [this,Bool.not_false,Bool.and_true]
   rw [e];exact hfr.x hur λk hk=>by rw [hk];exact lr7
  ·exact Nat.le_trans (((hx4.trans hx46).trans hx7).size) (hfr ad m c e)
end
end Go.Proofs.YtefpailelagbkaaGreatDoor
