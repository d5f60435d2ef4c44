/- Part 8. -/
import Derived.Test.YtgobkbeokaaplaaGreatDoorA07
import Derived.OpenShut
set_option linter.unusedVariables false
set_option maxRecDepth 100000
set_option maxHeartbeats 40000000
namespace Go.Proofs.YtgobkbeokaaplaaGreatDoor
open Go.RowKit Pl Go.Wk
attribute [local irreducible] WC WL QX WD WDB WP WN WG WH WM
variable {M' b b2 b3 b5 b6 k pc:Nat}{PA:Option Addr}{q:Row}
structure RkM(K:SeK)(w:World)(y:Row)(S:Nat->Bool)(M m:Nat)(fm:Lit->Option Value): Prop where
 gr:GrN (λk=>k=K.mb) K.w1 w
 map:MapS Tryz.prog 3 w K.mb m fm
 mle:m<=M
 pd:PdF K y S fm
def RkV(K:SeK)(w:World)(y:Row)(S:Nat->Bool)(M:Nat): Prop:=∃ m fm,RkM K w y S M m fm
structure RkB(K:SeK)(b2 b3 b5 b6:Nat)(PA:Option Addr)(pc:Nat)(q:Row): Prop where
 x:Blk K.w1 b2 55 [K.x0,K.x1,K.x2,K.x3,K.x4]
 p:Blk K.w1 b3 59 [.slice PA q.length pc]
 b:Blk K.w1 b5 51 [.slice K.BA K.f K.bc]
 m:Blk K.w1 b6 239 [.map (some K.mb)]
 n2:b2≠K.mb
 n3:b3≠K.mb
 n5:b5≠K.mb
 n6:b6≠K.mb
 row:RdR K.w0 PA q
 le:q.length<=pc
section
variable {K:SeK} {w w':World} {y:Row} {S:Nat->Bool} {M m:Nat} {fm:Lit->Option Value}
theorem RkM.ext(h:RkM K w y S M m fm)(hx:Ext w w'): RkM K w' y S M m fm:=⟨h.gr.trans (GrN.ext hx),h.map.ext hx,h.mle,h.pd⟩
theorem RkV.ext(h:RkV K w y S M)(hx:Ext w w'): RkV K w' y S M:=by obtain⟨m,fm,h⟩:=h;exact⟨m,fm,h.ext hx⟩
theorem RkV.same{S':Nat->Bool}(h:RkV K w y S M)(e:∀ c,c<K.f->S c=S' c): RkV K w y S' M:=by
 obtain⟨m,fm,h⟩:=h;refine⟨m,fm,⟨h.gr,h.map,h.mle,λc i o=>h.pd.1 c i ((e c i).trans o),λj u=>?_⟩⟩;obtain⟨c,G,D,C⟩:=h.pd.2 j u;grind
theorem RkV.more(h:RkV K w y S M)(hM:M<=M'): RkV K w y S M':=by
 obtain⟨m,fm,h⟩:=h;exact⟨m,fm,h.gr,h.map,Nat.le_trans h.mle hM,h.pd⟩
theorem RkV.gr(h:RkV K w y S M): GrN (λk=>k=K.mb) K.w1 w:=by obtain⟨m,fm,h⟩:=h;exact h.gr
theorem RkV.off(h:RkV K w y S M)(hg:GrN (λk=>k=b) w w')(hb:K.w1.heap.size<=b)(hF:SeF K): RkV K w' y S M:=by
 obtain⟨m,fm,h⟩:=h;refine⟨m,fm,?_,h.map.gr hg λe=>by have:=hF.m2;omega,h.mle,h.pd⟩;exact((h.gr.mono λk _ h=>(.inl h:k=K.mb∨k=b)).trans (hg.mono λk _ h=>.inr h)).mono λk i h=>h.elim id λe=>by omega
theorem RkV.app(h:RkV K w y S M)(hF:SeF K)(hS:∀ c,c<K.f->S c=true->K.pf c<(y.length:Int))(z:Row): RkV K w (y++z) S M:=by
 obtain⟨m,fm,h⟩:=h;exact⟨m,fm,h.gr,h.map,h.mle,h.pd.app hF hS z⟩
theorem Qqt(hq:k<=q.length): (q.take k).length=k:=by grind
def SF.key(K:SeK)(c:Nat)(y:Row): SF:=⟨λv w=>RowV w v (pmR (bk (K.kf c) 32) y),λh hx=>h.ext hx⟩
def SF.tr(K:SeK)(c:Nat)(y:Row): SF:=⟨λv _=>∃ d p,v=.tuple #[.agg #[.bool d,.pointer p],.bool (Ze (K.BB c) (pmR (bk (K.kf c) 32) y)).isSome]/\TrV (λ_=>False) K.w0 (K.t c y) (.pointer p)/\(K.t c y≠.nil->d=K.ds.getD c false),λh _=>h⟩
def SF.tr2(K:SeK)(c:Nat)(y:Row): SF:=⟨λv _=>∃ d p,v=.agg #[.bool d,.pointer p]/\TrV (λ_=>False) K.w0 (K.t c y) (.pointer p)/\(K.t c y≠.nil->d=K.ds.getD c false),λh _=>h⟩
def SF.tbox(s:Nat): SF:=⟨λv w=>∃ b,v=.pointer (some ⟨b,0,none⟩)/\s<=b/\Blk w b 76 [.bool false,.pointer none],λ⟨b,e,h1,h2⟩ hx=>⟨b,e,h1,h2.ext hx⟩⟩
theorem Jtb(hF:SeF K)(hb:RkB K b2 b3 b5 b6 PA pc q)(hV:RkV K w (q.take k) S M)(hM:M<=4096)(hg:K.X.Gp (q.take k))(hkq:k<=q.length)(hkf:k<=K.f){v:Int}(hv:v+1=(k:Int)):
  Ret Tryz.prog 148 [.int .i64 v,.pointer (some ⟨b5,0,none⟩),.pointer (some ⟨b2,0,none⟩),.pointer (some ⟨b3,0,none⟩),.pointer (some ⟨b6,0,none⟩)] w λu w'=>u=.tuple #[]/\GrN (λk=>k=K.mb) w w'/\RkV K w' (q.take k) (λc=>S c || decide (K.pf c=v)) (M+K.f):=by
 have be:=hF.ip.f32;have a6:=Qqt hkq;refine enE Tryz.func148 Tryz.ntmps148 ?_;refine ldR ((Jy hb.b hV.gr hb.n5).at (i:=0) rfl) ?_;refine ρ ?_;refine Qv (fun (c:Nat)=>[(0,.int .i64 v),(2,.pointer (some ⟨b2,0,none⟩)),(3,.pointer (some ⟨b3,0,none⟩)),(4,.pointer (some ⟨b6,0,none⟩)),(10,.slice K.BA K.f K.bc),(11,.int .i64 (K.f:Int)),(12,.int .i64 (c:Int))])
  (λc w'=>c<=K.f/\GrN (λk=>k=K.mb) w w'/\RkV K w' (q.take k) (λj=>S j || (decide (j<c) && decide (K.pf j=v))) (M+c)) (λc=>K.f-c) 0 sB
  ⟨Nat.zero_le _,GrN.refl _ _,hV.same λc _=>by simp⟩ ?_
 rintro c w1 ⟨hc,a9,a2⟩;refine ciR (λh=>?_) (λh=>?_)
 .have lc:c<K.f:=by have:=oT h;omega
  clear h;have am:=hF.bg w1 a2.gr;refine Qs 3 c am lc ?_;refine Jt (cs:=Qp K.kf K.pf c) (Qwx am lc) ?_;refine Jb Jkm ?_;intro w2 bb ax b1 bd;refine Qb (cs':=Qp K.kf K.pf c) bd ?_ Jzc;intro w3 au ai aw;have G:Ext w1 w3:=aw w1 ax b1;refine ldR (au.at (i:=2) rfl) ?_;refine ciR (λh=>?_) (λh=>?_)
  .have hp:K.pf c=v:=Zx h;clear h;have a7:Ext w3 w3.drew:=(Ext.refl w3).drew;have ap:=a2.ext G;have aa:=ap.ext a7;have J:=hF.ext aa.gr;have a3:=Jy hb.x aa.gr hb.n2;have ba:=Jy hb.p aa.gr hb.n3;have ae:RdR w3.drew PA (q.take k):=by
    have:=(Rd.ext hb.row J).take (m:=k) hkq;rw[Jfn q hkq]at this;show Rd _ 3 PA (q.take k).length _;rw[a6];exact this
   have ay:=hF.ip.keyb hF.ne lc (m:=k) (by rw[hp];omega);have aj:=hF.ip.fitK hg c;have ak:∀ {d:Bool},((Ze (K.BB c) (pmR (bk (K.kf c) 32) (q.take k))).isSome=true->d=K.ds.getD c false)->K.t c (q.take k)≠.nil->d=K.ds.getD c false:=fun {d} h hne=>h (by
    cases hi:Ze (K.BB c) (pmR (bk (K.kf c) 32) (q.take k)) with
    | none=>exact absurd (Jhz hi) hne
    | some i=>rfl)
   refine ρ ?_;refine drH (λi=>Nat.ble 14 i) ?_;refine Jwz 2 (lst 16 14) (fun (y:Bool×Option Addr×Nat)=>[(32,.agg #[.bool y.1,.pointer y.2.1]),(33,.bool (Ze (K.BB c) (pmR (bk (K.kf c) 32) (q.take k))).isSome),(8,.pointer (some ⟨y.2.2,0,none⟩)),(0,.int .i64 v),(2,.pointer (some ⟨b2,0,none⟩)),(3,.pointer (some ⟨b3,0,none⟩)),(4,.pointer (some ⟨b6,0,none⟩)),(6,.int .i64 (c:Int)),(10,.slice K.BA K.f K.bc),(11,.int .i64 (K.f:Int)),(12,.int .i64 (c:Int))])
    (λy W=>Ext w3.drew W/\Blk W y.2.2 76 [.bool false,.pointer none]/\w3.drew.heap.size<=y.2.2/\TrV (λ_=>False) K.w0 (K.t c (q.take k)) (.pointer y.2.1)/\(K.t c (q.take k)≠.nil->y.1=K.ds.getD c false)) ?_ ?_
   rotate_left
   .intro rest;refine hmkSq 17 12 2 _ (lst 16 14) [0,1,2,3,4,5,6,7,8,9,10,11,12,13] [22,23,24,25,26,27,28,29,30,31,21,32,33,8] [SF.bk a3,SF.eq (.int .i64 (c:Int)),SF.bk a3,SF.eq (.int .i64 (c:Int)),SF.eq (.slice PA q.length pc),SF.eq (.int .i64 v),SF.eq (.int .i64 (k:Int)),SF.eq (.slice PA k pc),SF.key K c (q.take k),SF.tr K c (q.take k),SF.tr K c (q.take k),SF.tr2 K c (q.take k),SF.eq (.bool (Ze (K.BB c) (pmR (bk (K.kf c) 32) (q.take k))).isSome),SF.tbox w3.drew.heap.size] kr (by rfl) ?_ ?_ ?_
    .refine gsc (λvs O o C=>?_) ?_
     .simp only[slM];refine ldW (a3.ext o) ?_;refine ρ ?_;exact Yo (Ext.refl _) rfl
     refine gsc (λvs O o C=>?_) ?_
     .simp only[slM];refine ρ ?_;exact Yo (Ext.refl _) rfl
     refine gsc (λvs O o C=>?_) ?_
     .simp only[slM];refine ldW (a3.ext o) ?_;refine ρ ?_;exact Yo (Ext.refl _) rfl
     refine gsc (λvs O o C=>?_) ?_
     .simp only[slM];refine ρ ?_;exact Yo (Ext.refl _) rfl
     refine gsc (λvs O o C=>?_) ?_
     .simp only[slM];refine ld ((ba.ext o).at (i:=0) rfl) ?_;refine ρ ?_;exact Yo (Ext.refl _) rfl
     refine gsc (λvs O o C=>?_) ?_
     .simp only[slM];refine ρ ?_;exact Yo (Ext.refl _) rfl
     refine gsc (λvs O o C=>?_) ?_
     .have e5:vs 5=_:=C 5;simp only[slM,e5];refine ρ ?_;exact Yo (Ext.refl _) (congrArg (Value.int .i64) hv)
     refine gsc (λvs O o C=>?_) ?_
     .have e4:vs 4=_:=C 4;have e6:vs 6=_:=C 6;have:=hb.le;simp only[slM,e4,e6];refine slh k ?_;refine ρ ?_;exact Yo (Ext.refl _) rfl
     refine gsc (λvs O o C=>?_) ?_
     .have e2:vs 2=_:=C 2;have e3:vs 3=_:=C 3;have e7:vs 7=_:=C 7;simp only[slM,e2,e3,e7];have ah:=Jhn (hF.ix.ext (J.trans o)) lc (c:=pc) (Rd.ext ae o) (by have:=hb.le;omega) om (by rw[a6];exact ay);rw[a6]at ah;refine cl ah ?_;rintro uk W ⟨⟨KA,kc,rfl,ag,af,a8,_⟩,hy⟩;exact Jf (Yo hy ⟨KA,kc,rfl,ag,af,a8⟩)
     refine gsc (λvs O o C=>?_) ?_
     .have e0:vs 0=_:=C 0;have e1:vs 1=_:=C 1;obtain⟨KA,kc,e8,ag,af,a8⟩:=C 8;simp only[slM,e0,e1,e8];refine cl (Jbw (hF.tb.ext (J.trans o)) (J.trans o) hF.ix lc a8 aj) ?_;rintro u W ⟨d,p,rfl,U,D,hy⟩;exact Jf (Yo hy ⟨d,p,rfl,U,ak D⟩)
     refine gsc (λvs O o C=>?_) ?_
     .obtain⟨d,p,e9,U,D⟩:=C 9;simp only[slM,e9];refine ρ ?_;exact Yo (Ext.refl _) ⟨d,p,rfl,U,D⟩
     refine gsc (λvs O o C=>?_) ?_
     .obtain⟨d,p,a1,U,D⟩:=C 10;simp only[slM,a1];refine ρ ?_;exact Yo (Ext.refl _) ⟨d,p,rfl,U,D⟩
     refine gsc (λvs O o C=>?_) ?_
     .obtain⟨d,p,a1,U,D⟩:=C 10;simp only[slM,a1];refine ρ ?_;exact Yo (Ext.refl _) rfl
     refine gsc (λvs O o C=>?_) gse
     simp only[slM];refine alc Vn ?_;intro W b9 hy b4 Z;exact Jf (Yo hy ⟨b9,rfl,Nat.le_trans o.size b4,Z⟩)
    .intro vs W hy hf;obtain⟨b9,ab,h9,Z⟩:=hf 13;obtain⟨d,p,ac,U,D⟩:=hf 11;have bf:vs 12=_:=hf 12;simp only[slM,ab,bf,ac];exact rest (d,p,b9) _ _ ⟨hy,Z,h9,U,D⟩ sB
    intro _ vs W hy hf;obtain⟨b9,ab,h9,Z⟩:=hf 13;obtain⟨d,p,ac,U,D⟩:=hf 11;obtain⟨d2,p2,a1,_,_⟩:=hf 10;simp only[slM,ab,ac,a1];refine Ud (fuel':=2) 12 kr kr rfl rfl ?_;refine ρp ?_;refine ρd ?_;refine Xy ?_;refine hlist (listed':=lst 16 14) kr ?_;exact rest (d,p,b9) _ _ ⟨hy,Z,h9,U,D⟩ sB
   rintro⟨d,p,b9⟩ W ⟨av,ar,an,U,C⟩;simp only at ar an U C;refine Zo (fuel':=0) 17 [(2,14),(2,15)] (lst 16 16) kr kr rfl ?_;refine Qj ?_;refine stW ar ?_;intro W2 aq bh ad;refine Jf (Qo ?_);refine Qj ?_;refine ρ ?_;refine Qo ?_;refine Zf (Xy ?_);refine Uf kr ?_;have a4:Ext w3 W2:=ad w3 (a7.trans av) (nL a7.size an);have b7:=ap.ext a4;obtain⟨m,fm,HW⟩:=id b7;refine ldR ((Jy hb.m HW.gr hb.n6).at (i:=0) rfl) ?_;refine Qy aq ?_;refine ρ ?_;refine mup KI HW.map (by have:=HW.mle;unfold maxLen;omega) (Jqp (c:=c) om) ?_;intro W3 b8 ai;have a5:GrN (λk=>k=K.mb) W2 W3:=GrN.by ai λk hk=>by injection hk with hk;exact hk.symm
   have ao:RkV K W3 (q.take k) (λj=>(S j || (decide (j<c) && decide (K.pf j=v))) || decide (j=c)) (M+(c+1)):=⟨_,_,HW.gr.trans a5,b8,by have:=HW.mle;omega,HW.pd.put be lc U C⟩;refine ρ ?_;refine Qw (c+1) sO ⟨lc,(a9.trans (GrN.ext (G.trans a4))).trans a5,ao.same λj _=>?_⟩ om;by_cases e:j=c
   .subst e;simp[hp]
   have:(decide (j<c+1))=decide (j<c):=by by_cases h1:j<c<;>simp[h1]<;>omega
   rw[this];simp[e]
  have hp:¬ K.pf c=v:=Xu h;clear h;refine ρ ?_;refine Qw (c+1) sO ⟨lc,a9.trans (GrN.ext G),((a2.ext G).same λj _=>?_).more om⟩ om;by_cases e:j=c
  .subst e;simp[hp]
  have:(decide (j<c+1))=decide (j<c):=by by_cases h1:j<c<;>simp[h1]<;>omega
  rw[this]
 have az:c=K.f:=by have:=oF h;omega
 subst az;clear h;refine ρ ?_;refine Uj ⟨rfl,a9,a2.same λj hj=>?_⟩;simp[hj]
theorem Jsz(hF:SeF K)(hb:RkB K b2 b3 b5 b6 PA pc q)(hV:RkV K w y S M):
  Ret Tryz.prog 149 [.pointer (some ⟨b6,0,none⟩)] w λu w'=>NatV w' u (K.X.prodS S y)/\Fresh w u/\Ext w w':=by
 have b4:=hF.ip.f32;obtain⟨m,fm,H⟩:=id hV;have a1:=Jy hb.m H.gr hb.n6;obtain⟨g,hg⟩:∃ g:(Lit->Bool)->Nat->Nat,g=λleft c=>if S c=true/\left (.int .i64 (c:Int))=false then K.X.T c y else 1:=⟨_,rfl⟩
 have ap:∀ left c,g left c<=4294967296^20:=λleft c=>by
  rw[hg];simp only;split
  .rw[K.T];exact hF.ip.big _ _
  repeat grind
 have an:∀ left,Nb (Jh K.f (g left)):=λleft=>Nb.pow (k:=K.f) (Jjz (Nat.pow_pos (by decide)) λc _=>ap left c) om;refine enE Tryz.func149 Tryz.ntmps149 ?_;refine clR (Jbm 1 (by decide) _) ?_;rintro G w1 ⟨a7,ab,D⟩;refine ldR ((a1.ext D).at (i:=0) rfl) ?_;refine ρ ?_;refine rngm KI (H.map.ext D) ?_;intro w2 r cnt U a6 ae;have lr:w.heap.size<=r:=nL D.size a6;refine ρ ?_;refine Zq (fun (left:Lit->Bool) (cnt:Nat) (G:Value)=>[(2,G),(7,.pointer (some ⟨r,0,none⟩))])
  (λleft cnt G w'=>Ext w w'/\RgS Tryz.prog 3 w' K.mb r m fm left cnt/\NatX (λk=>k=r) w' G (Jh K.f (g left))/\Fresh w G) (λ_ cnt _=>cnt) _ cnt G sB ⟨D.trans U,ae,?_,ab⟩ ?_
 .have e:Jh K.f (g λkl=>(fm kl).isSome)=1:=Jfz λc hc=>by
   rw[hg];simp only;rw[if_neg];rintro⟨h1,h2⟩;obtain⟨d,p,h3,_⟩:=H.pd.1 c hc h1;rw[h3]at h2;cases h2
  rw[e];exact(NatX.old (N:=λ_=>False) ⟨a7,λ_ _ _ _ _ h=>h⟩ λk hk=>.inr (by rw[hk];exact a6)).ext U
 clear a7 ab ae U D G cnt;rintro left cnt G w3 ⟨a3,av,Z,aq⟩;refine ρ ?_;refine nxtm KI av (λhl=>?_) (λkey v kl w4 af ax ay aa ac ao a8 ar=>?_)
 .refine ρ ?_;have e:Jh K.f (g left)=K.X.prodS S y:=Gv λc hc=>by grind
  rw[e]at Z;exact Jj ⟨Z.1,aq,a3⟩
 obtain⟨c,hc,a5,rfl⟩:=H.pd.2 kl (by rw[aa];simp);obtain⟨d,p,J,ht,_⟩:=H.pd.1 c hc a5;rw[aa]at J;injection J with J
 subst J;have O:Ext w w4:=a8.old a3 λk hk=>by rw[hk];exact lr
 refine ρ ?_;refine entm ar ?_;refine Jb Vn ?_;intro w5 b5 ai au aw;refine Xa aw ?_;intro w6 a1 az ah;have o:Ext w4 w6:=ah w4 ai au;refine Qy a1 ?_;refine ρ ?_;have a4:Ext K.w0 w6:=(hF.ext H.gr).trans (O.trans o);refine cl (Jdm (ht.ext a4) (by rw[<-K.T];exact Nb.pow (k:=1) (by rw[Nat.pow_one,K.T];exact hF.ip.big _ _) om)) ?_;rintro ut w7 ⟨aj,b1,C⟩;have am:NatV w7 G (Jh K.f (g left)):=(((Z.gr a8).ext o).ext C).1;refine clR (Jzj am aj (an left).len (Nb.len (Nb.pow (k:=1) (by rw[Nat.pow_one];exact hF.ip.big _ _) om))) ?_;rintro ur w8 ⟨ak,a9,a2⟩;refine ρ ?_;refine Xj _ af ur sO ⟨((O.trans o).trans C).trans a2,((ac.ext o).ext C).ext a2,?_,λad m c e=>?_⟩ ao
 .have ag:r<w7.heap.size:=nM (ac.lt) (o.trans C).size;have e:Jh K.f (g λz=>left z && !z.sameKey (.int .i64 (c:Int)))=Jh K.f (g left)*(K.t c y).sum:=by
   rw[Jwj hc,Jwj (g:=g left) hc];have h1:g left c=1:=by grind
   have h2:g (λz=>left z && !z.sameKey (.int .i64 (c:Int))) c=(K.t c y).sum:=by
    rw[hg];simp only;rw[if_pos ⟨a5,by rw[WideAt.sameKey_self (Jbv om)];simp⟩,K.T]
   rw[h1,h2,Nat.one_mul,Nat.mul_comm];congr 1
   refine Gv λj hj=>?_;by_cases ej:j=c
   .rw[if_pos ej,if_pos ej]
   rw[if_neg ej,if_neg ej,hg];simp only;have:(Lit.int .i64 (j:Int)).sameKey (.int .i64 (c:Int))=false:=Maps.sameKey_ne λe'=>ej (Jbq e');grind
  rw[e];exact a9.x ak λk hk=>by rw[hk];exact ag
 exact nL (((O.trans o).trans C).size) (a9 ad m c e)
end
open Go.RowKit Pl Go.Wk
variable {B0 c m n pc:Nat}{q z:Row}{K:SeK}
def tt2: TT:=(173,{ desc:=.invalid,size:=4,offs:=[0,1,2,3] })::tt
theorem Qcm: TOk Tryz.prog tt2:=⟨⟨_,Tryz.underlying173,kr,kr⟩,Jjm⟩
instance:Tab Tryz.prog tt2:=⟨Qcm,mixed⟩
theorem Jcx: Qt Tryz.prog 173=some (.agg #[.slice none 0 0,.slice none 0 0,.bool false,.int .i64 0]):=kr
theorem zBags: Qt Tryz.prog 51=some (.slice none 0 0):=kr
theorem zMapT: Qt Tryz.prog 239=some (.map none):=kr
theorem Jrj{g:Nat->Nat}(h:n<=m): Qd n g<=Qd m g:=by
 induction h with
 | refl=>exact nR _
 | step h ih=>rw[Qd];omega
theorem Jcn(d:Bool)(v:V): ∀ t:Tr,Tr.befT d v t<=t.sum
 | .nil=>nR _
 | .node l a y r=>by
  have h1:=Jcn d v l;have h2:=Jcn d v r;rw[Tr.befT,Tr.sum];grind
theorem SeF.bef(hF:SeF K)(hc:c<K.f){d:Bool}(hd:K.t c z≠.nil->d=K.ds.getD c false)(v:V):
  Tr.befT d v (K.t c z)=bef (K.ds.getD c false) v (K.X.E c (K.X.key c z)):=by
 rw[K.E];by_cases h:K.t c z=.nil
 .rw[h];rfl
 have i:Jjj d (K.t c z).toL:=by
  rw[hd h,<-K.E];exact(hF.ip.srt hF.ne).srt c hc _
 rw[(Tr.befT_eq i).1,hd h]
theorem SeF.onb(hF:SeF K)(m:Nat)(z:Row): Nb (K.X.others m z):=by
 refine Nb.pow (k:=K.f) (Jjz (Nat.pow_pos (by decide)) λc _=>?_) hF.ip.f32;split
 .rw[K.T];exact hF.ip.big _ _
 repeat grind
theorem SeF.rk_le(hF:SeF K)(hq:q.length<=K.f)(hm:m<=q.length)(hg:K.X.Gp (q.take m)): Nb (rkS K.X K.ds q m) :=
 hF.ip.nbT.le (by have:=hF.ip.rk_inv hF.ne hq hm hg;rw[hF.ip.len];exact this)
section
variable {f:Nat} {ds:List Bool} {kf:Nat->Nat} {pf:Nat->Int} {BB:Nat->List BkT} {tot:Nat} {L:List Row}
theorem Xqj{w:World}{x:Value}{PA:Option Addr}(tb:TB B0 w)(ix:IxV w x f ds kf pf BB tot)(ip:IxP f ds kf pf BB tot L)(ne:tot≠0)(hq:RdR w PA q)(hqc:q.length<=pc)(hqf:q.length<=f):
  Ret Tryz.prog 92 [x,.slice PA q.length pc] w λu w'=>∃(bv cv:Value) (st:Nat),u=.agg #[bv,cv,.bool (decide (0<(wiL L q).length)),.int .i64 (st:Int)]/\NatV w' bv (Zj ds L q)/\NatV w' cv (wiL L q).length/\(st<=Qd f λv=>hmB (BB v))/\Ext w w':=by
 obtain⟨DA,dc,BA,cb,KA,ck,fz,cp,tv,gf,ga,rfl,gm,gn,hD,hB,hK,hP,ez,gg⟩:=id ix.ex;obtain⟨TA,tc,rfl,_⟩:=id ez;have gu:=ip.f32;refine enE Tryz.func92 Tryz.ntmps92 ?_;refine bxR ?_;intro w1 b2 ew gt co;refine bxR ?_;intro w2 b3 b7 gs ee;refine Jb Jcx ?_;intro w3 b4 ae gq ec;have d4:=ew.trans b7;have aj:=d4.trans ae;refine Qy ((co.ext b7).ext ae) ?_;refine clR (Jhq (ix.ext aj)) ?_;rintro u w4 ⟨⟨A,c,rfl,hc,hR,hf⟩,a4⟩;refine Jb zBags ?_;intro w5 b5 eu fh fu;refine ρ ?_;refine Kc fu ?_ rfl;intro w6 br gj et;have O:Ext w4 w6:=et w4 eu fh;refine ρ ?_;refine mkm 3 ?_;intro w7 mb d2 gi hM;refine Jb zMapT ?_;intro w8 b6 er fg ft;refine ρ ?_;refine Kc ft ?_ rfl;intro w9 e9 dj ep;have ah:Ext w7 w9:=ep w7 er fg;have bd:=d2.trans ah;have a3:=O.trans bd;have be:=aj.trans (a4.trans a3);have e5:=hM.ext ah;have ef:=((co.ext b7).ext ae).ext (a4.trans a3);have ed:=(ee.ext ae).ext (a4.trans a3)
 have eb:=ec.ext (a4.trans a3);have ea:=br.ext bd;have gb:=hM.lt;have l1:=co.lt;have l2:=ee.lt;have l3:=ec.lt;have l5:=br.lt;have z1:=(b7.trans (ae.trans (a4.trans O))).size;have z2:=(ae.trans (a4.trans O)).size;have z3:=(a4.trans O).size;have z4:=O.size;have z7:=d2.size;have g1:=ah.size;have z0:=(aj.trans (a4.trans O)).size;have g3:=be.size;obtain⟨K,ax⟩:∃ K:SeK,K=⟨B0,w,w9,mb,w9.heap.size,.slice DA f dc,.slice BA f cb,.slice KA f ck,.slice fz f cp,.slice TA (Jq tot).length tc,A,c,f,ds,kf,pf,BB,tot,L⟩:=⟨_,rfl⟩;have dv:Off (λk=>k=mb) w9 (λu=>Rd u 3 A f (Qe f (Qp kf pf))):=Jwg (hR.ext a3) λh0 ad e (e2:ad.block=mb)=>by
  obtain⟨gw,e',f6⟩:=hR.2 h0;rw[e]at e';injection e' with e'
  have:=f6.1;rw[<-e']at this;omega
 have o:SeF K:=by
  subst ax;exact⟨tb,ix,ip,ne,be,by show w.heap.size<=mb;omega,e5.lt,Nat.le_refl _,hc,dv,Qjk⟩
 have G:RkB K b2 b3 b5 b6 PA pc q:=by
  subst ax;exact⟨ef,ed,ea,e9,by show b2≠mb;omega,by show b3≠mb;omega,by show b5≠mb;omega,by show b6≠mb;omega,hq,hqc⟩
 have fl:RkV K w9 (q.take 0) (λ_=>false) 0:=by
  subst ax;exact⟨0,λ_=>none,GrN.refl _ _,e5,Nat.le_refl _,λc _ h=>(by cases h),λkl h=>absurd rfl h⟩
 have fw:K.f=f/\K.ds=ds/\K.kf=kf/\K.pf=pf/\K.BB=BB/\K.tot=tot/\K.L=L/\K.w1=w9/\K.w0=w/\K.mb=mb:=by subst ax;exact⟨rfl,rfl,rfl,rfl,rfl,rfl,rfl,rfl,rfl,rfl⟩
 obtain⟨rfl,rfl,rfl,rfl,rfl,rfl,rfl,ey,c3,bi⟩:=fw;clear ax;have db:∀ c,c<K.f->K.pf c<(c:Int):=λc hc=>(o.ip.par ne hc).2;have f9:K.X.Ok:=o.ip.ok ne;have f8:∀ v z,(K.t v z).ht<=hmB (K.BB v):=λv z=>Jrb _ _;have dg:∀ v z,(K.t v z).ht<=65536:=λv z=>nL (Tr.ht_le _) (o.ip.siz _ _);have bg:∀ v z,Nb (K.t v z).sum:=λv z=>Nb.pow (k:=1) (by rw[Nat.pow_one];exact o.ip.big _ _) om;have d7:∀ v z,(K.t v z).sz<=1000000:=λv z=>nL (o.ip.siz _ _) (by decide);refine Jb Jcx ?_;intro g7 C ai ff e8;refine ρ ?_;refine clv (Jtb (k:=0) o G (fl.ext ai) om (AX.Gp.nil) (Nat.zero_le _) (Nat.zero_le _) (v:=-1) rfl) ?_;rintro u g6 ⟨rfl,au,aw⟩;have l9:=e8.lt;have g2:=ai.size;have n9:¬ C=K.mb:=by rw[bi];omega
 have n4:¬ b4=K.mb:=by rw[bi];omega
 have az:=Jy e8 au n9;have b1:=Jy (eb.ext ai) au n4;have cw:b4≠C:=om
 have cr:K.w1.heap.size<=C:=by rw[ey];exact ff
 refine ldR ((Jy G.p aw.gr G.n3).at (i:=0) rfl) ?_;refine ρ ?_;refine Zq (fun (i:Nat) (bv:Value) (st:Nat)=>[(4,.pointer (some ⟨b4,0,none⟩)),(6,.pointer (some ⟨b6,0,none⟩)),(7,.func (.func 148) #[] #[.pointer (some ⟨b5,0,none⟩),.pointer (some ⟨b2,0,none⟩),.pointer (some ⟨b3,0,none⟩),.pointer (some ⟨b6,0,none⟩)]),(8,.func (.func 149) #[] #[.pointer (some ⟨b6,0,none⟩)]),(9,.pointer (some ⟨C,0,none⟩)),(23,.slice PA q.length pc),(24,.int .i64 (q.length:Int)),(25,.int .i64 (i:Int))])
  (λi bv st w'=>i<=q.length/\K.X.Gp (q.take i)/\RkV K w' (q.take i) (pS K.pf i i) (32*(i+1))/\Blk w' C 173 [bv,.slice none 0 0,.bool false,.int .i64 (st:Int)]/\Blk w' b4 173 [.slice none 0 0,.slice none 0 0,.bool false,.int .i64 0]/\NatX (λk=>k=K.mb∨k=C∨k=b4) w' bv (rkS K.X K.ds q i)/\(st<=Qd i λv=>hmB (K.BB v))/\st<=65536*i) (λi _ _=>q.length-i) 0 (.slice none 0 0) 0 sB
  ⟨Nat.zero_le _,AX.Gp.nil,?_,az,b1,NatX.nil _,Nat.le_refl _,Nat.le_refl _⟩ ?_
 .refine(aw.same λc hc=>?_).more om;have:=o.ip.par ne hc;unfold pS;rw[Bool.eq_iff_iff];simp only[Bool.or_eq_true,Bool.and_eq_true,decide_eq_true_eq];constructor
  .rintro(h|h)
   .cases h
   exact⟨Nat.zero_le _,om⟩
  rintro⟨_,h⟩;right;omega
 clear az b1 aw au;rintro i bv st v5 ⟨hi,af,a8,cn,ch,av,f3,gh⟩;have c9:(q.take i).length=i:=Qqt hi;have d3:=o.ext a8.gr;refine ciR (λh=>?_) (λh=>?_)
 .have li:i<q.length:=by have:=oT h;omega
  have a7:i<K.f:=om
  clear h;have da:=Rd.ext hq (c3 ▸ d3);refine Qs 3 i da li ?_;refine Jt (cs:=(q.getD i V0).cells) (λj u' c7=>RdR.cell da li c7) ?_;refine Jb (cs:=V0.cells) Gj ?_;intro v6 fy ac dx bt;refine Qb (cs':=(q.getD i V0).cells) bt ?_ (V.one _);intro v7 fr dk eo;have ag:Ext v5 v7:=eo v5 ac dx;have fj:=a8.ext ag;obtain⟨m0,fm,H⟩:=id fj;obtain⟨d,p,fc,hT,hd⟩:=H.pd.1 i a7 (by unfold pS;simp[db i a7]);refine ldR ((Jy G.m H.gr G.n6).at (i:=0) rfl) ?_;refine ρ ?_;refine mlk KI H.map Qyn (Jqp (c:=i) om) ?_;rw[fc];refine Jb Vn ?_;intro v8 fx en dw bs;refine Xa bs ?_;intro v9 cq bl c0;have a9:Ext v7 v9:=c0 v7 en dw;have H9:=H.ext a9;refine ldR ((Jy G.m H9.gr G.n6).at (i:=0) rfl) ?_;refine ρ ?_;refine mdn KI H9.map (Jqp (c:=i) om) ?_;intro bw e6 dl;have Z:GrN (λk=>k=K.mb) v9 bw:=GrN.by dl λk hk=>by injection hk with hk;exact hk.symm
  have g0:K.mb<v7.heap.size:=H.map.lt;have bj:K.mb<v5.heap.size:=nM o.m2 a8.gr.size;have ge:=bt.lt;have g5:=ag.size;have g4:=a9.size;have gd:=bs.lt;have el:¬ fy=K.mb:=om
  have ek:¬ fx=K.mb:=om
  have bn:RkV K bw (q.take i) (pS K.pf (i+1) i) (32*(i+1)):=RkV.same ⟨_,_,H9.gr.trans Z,e6,H9.mle,H9.pd.drop o.ip.f32 a7⟩ λc _=>Jgg;have bb:=Jy (fr.ext a9) Z el;have ba:=Jy cq Z ek;have a1:GrN (λk=>k=K.mb) v5 bw:=((GrN.ext ag).trans (GrN.ext a9)).trans Z;have e7:=Jy cn a1 n9;have bp:=Jy ch a1 n4;have ce:=av.gr (a1.mono λk _ h=>.inl h);refine Qy ba ?_;refine Jt (cs:=(q.getD i V0).cells) (λj u' c7=>bb.at c7) ?_;refine ρ ?_;have c2:=o.ext bn.gr;refine cl (Qwr (hT.ext c2) (bg _ _) (d7 _ _)) ?_;rintro u bu ⟨sv,e,rfl,he,f2,d1⟩;have bz:Ext bu bu.drew:=(Ext.refl bu).drew;have J:=d1.trans bz;have dz:=bn.ext J;have cj:=e7.ext J;have dq:=ce.ext J;have gl:=f8 i (q.take i);have gk:=dg i (q.take i);refine ρ ?_;refine drN (λ_=>False) 10 (scq 9 [4,5,6,108]) kr ?_;refine ρn ?_;refine nld (λw' hg=>(cj.ext hg.toExt).at (i:=0) rfl) ?_;refine ρn ?_;refine nop ?_;refine clv (Jsz o G dz) ?_
  rw[Jtr];rintro pv ej ⟨f5,_,D⟩;refine ρ ?_;refine Je (GrN.ext D) ?_;refine ρn ?_;refine nop ?_;have d8:=(f2.ext bz).ext D;refine cl (Jzj d8 f5 ((bg i (q.take i)).le (Jcn _ _ _)).len (o.onb _ _).len) ?_;rintro mv g8 ⟨df,_,aa⟩;rw[o.bef a7 hd]at df;refine ρ ?_;refine Je (GrN.ext aa) ?_;refine ρn ?_;refine nop ?_;have cd:=((dq.ext D).ext aa).1;have c8:Nb (bef (K.ds.getD i false) (q.getD i V0) (K.X.E i (K.X.key i (q.take i)))*K.X.others i (q.take i)):=by
   refine(o.pnb i (q.take i)).le ?_;have h1:=f9.pend_split (y:=q.take i) (by rw[c9];exact a7);rw[c9]at h1;rw[h1,<-o.bef a7 hd,K.T];exact nO _ (Jcn _ _ _)
  refine cl (Ih cd df (o.rk_le hqf hi af).len c8.len) ?_;rintro g9 cy ⟨an,dm,bc⟩;have f4:rkS K.X K.ds q i+bef (K.ds.getD i false) (q.getD i V0) (K.X.E i (K.X.key i (q.take i)))*K.X.others i (q.take i)=rkS K.X K.ds q (i+1):=rfl;rw[f4]at an;obtain⟨ZA,zc,rfl,_⟩:=id an;refine ρ ?_;refine Je (GrN.ext bc) ?_;refine ρn ?_;have U:=(D.trans aa).trans bc;have ei:=bz.trans U;have ay:=cj.ext U;refine Xh ?_;refine sto (ay.at (i:=0) rfl) (ay.frozen 0) ?_;obtain⟨a2,am⟩:∃ a2,a2=cy.setCell ((⟨C,0,none⟩:Addr).add 0) (.slice ZA (Jq (rkS K.X K.ds q (i+1))).length zc):=⟨_,rfl⟩;rw[<-am];have ar:GrN (λk=>k=C) cy a2:=by rw[am];exact GrN.set _ rfl
  have ab:Blk a2 C 173 [.slice ZA (Jq (rkS K.X K.ds q (i+1))).length zc,.slice none 0 0,.bool false,.int .i64 (st:Int)]:=by rw[am];exact ay.set 0 _
  have e1:=(dz.ext U).off ar cr o;have e4:=Jy ((bp.ext J).ext U) ar cw;have em:C<ej.heap.size:=(cj.ext D).lt;have de:NatX (λk=>k=K.mb∨k=C∨k=b4) a2 (.slice ZA (Jq (rkS K.X K.ds q (i+1))).length zc) (rkS K.X K.ds q (i+1)):=by
   refine NatX.gr (N:=λk=>k=K.mb∨k=C∨k=b4) ⟨an,λh0 ad m c e=>?_⟩ (ar.mono λk _ h=>.inr (.inl h));have h1:=dm ad m c e;have h2:=aa.size;have h3:=(bp.ext (J.trans D)).lt;rintro(h|h|h)
   .have:=nM bj (a1.size);have:=(J.trans D).size;omega
   .omega
   omega
  refine ω5 ?_;refine Gy ?_;refine ρn ?_;refine ldR (ab.at (i:=3) rfl) ?_;refine Xk (ab.at (i:=3) rfl) (ab.frozen 3) ?_;obtain⟨a6,ak⟩:∃ a6,a6=a2.setCell ((⟨C,0,none⟩:Addr).add 3) (.int .i64 ((st+e:Nat):Int)):=⟨_,rfl⟩;have c6:a2.setCell ((⟨C,0,none⟩:Addr).add 3) (.int .i64 ((st:Int)+(e:Int)))=a6:=ak.symm;refine Eq.mpr (congrArg _ c6) ?_;have aq:GrN (λk=>k=C) a2 a6:=by rw[ak];exact GrN.set _ rfl
  have bq:Blk a6 C 173 [.slice ZA (Jq (rkS K.X K.ds q (i+1))).length zc,.slice none 0 0,.bool false,.int .i64 ((st+e:Nat):Int)]:=by rw[ak];exact ab.set 3 _
  have bm:=e1.off aq cr o;have bo:=Jy e4 aq cw;have bh:=de.gr (aq.mono λk _ h=>.inr (.inl h));have du:=o.has a7 (z:=q.take i) hd (q.getD i V0);have d9:(st+e<=Qd (i+1) λv=>hmB (K.BB v)):=by rw[Qd];omega
  have di:K.X.Gp (q.take (i+1))↔Tr.hasT d (q.getD i V0) (K.t i (q.take i))=true:=(Jfs (o.ip.srt ne) li af).trans du.symm;refine ciR (λh=>?_) (λh=>?_)
  .have dd:¬ K.X.Gp (q.take (i+1)):=λhg=>by
    rw[di.1 hg]at h;cases h
   clear h;have bf:wiL K.L q=[]:=o.ip.wi_none ne λhg=>dd (hg.pre (i+1));refine Qy bq ?_;refine Xa bo ?_;intro cx e3 a5 d0;refine ρ ?_;have c1:=d0 w (c3 ▸ o.ext bm.gr) om;have ca:GrN (λk=>k=b4) a6 cx:=GrN.by a5 λk hk=>by injection hk with hk;exact hk.symm
   refine Kx e3 ⟨_,_,st+e,by rw[bf];rfl,?_,?_,Nat.le_trans d9 (Jrj om),c1⟩
   .rw[o.ip.rk_stop ne hqf li af dd];exact(bh.gr (ca.mono λk _ h=>.inr (.inr h))).1
   rw[bf];exact NatV.nil _
  have cz:Tr.hasT d (q.getD i V0) (K.t i (q.take i))=true:=by
   cases hh:Tr.hasT d (q.getD i V0) (K.t i (q.take i)) with
   | true=>rfl
   | false=>rw[hh]at h;cases h
  clear h;have dh:=di.2 cz;have f0:q.take (i+1)=q.take i++[q.getD i V0]:=Qr V0 li;have cg:RkV K a6 (q.take (i+1)) (pS K.pf (i+1) i) (32*(i+1)):=by
   rw[f0];exact bm.app o (λc _ hs=>by
    rw[c9];unfold pS at hs;simp only[Bool.and_eq_true,decide_eq_true_eq]at hs;exact hs.2) _
  refine ρ ?_;refine clv (Jtb (k:=i+1) o G cg om dh om om (v:=(i:Int)) om) ?_;rintro u cx ⟨rfl,a5,e0⟩;refine ρ ?_;exact Xj (i+1) _ (st+e) sO ⟨li,dh,(e0.same λc hc=>Jgh (db c hc)).more om,Jy bq a5 n9,Jy bo a5 n4,bh.gr (a5.mono λk _ h=>.inl h),d9,om⟩ om
 have f7:i=q.length:=by have:=oF h;omega
 clear h;subst f7;rw[List.take_length]at af a8;refine ρ ?_;refine clv (Jsz o G a8) ?_;rw[Jtq];rintro cv v6 ⟨dn,fd,ac⟩;obtain⟨eh,eg,rfl,_⟩:=id av.1;obtain⟨CA,cc,rfl,_⟩:=id dn;have cm:=cn.ext ac;have fp:=ch.ext ac;have fk:=a8.ext ac;have dt:=av.ext ac;have em:=cn.lt;have gc:=ch.lt;have bj:K.mb<v5.heap.size:=nM o.m2 a8.gr.size;have fe:NatX (λk=>k=K.mb∨k=C∨k=b4) v6 (.slice CA (Jq (K.X.pend q.length q)).length cc) (K.X.pend q.length q):=⟨dn,λ_ ad m c e=>by
  have:=fd ad m c e;rintro(h|h|h)<;>omega⟩
 refine Xk (cm.at (i:=1) rfl) (cm.frozen 1) ?_;obtain⟨v7,c5⟩:∃ v7,v7=v6.setCell ((⟨C,0,none⟩:Addr).add 1) (.slice CA (Jq (K.X.pend q.length q)).length cc):=⟨_,rfl⟩;rw[<-c5];have dk:GrN (λk=>k=C) v6 v7:=by rw[c5];exact GrN.set _ rfl
 have b8:Blk v7 C 173 [.slice eh (Jq (rkS K.X K.ds q q.length)).length eg,.slice CA (Jq (K.X.pend q.length q)).length cc,.bool false,.int .i64 (st:Int)]:=by rw[c5];exact cm.set 1 _
 refine ldR (b8.at (i:=1) rfl) ?_;refine Xk (b8.at (i:=2) rfl) (b8.frozen 2) ?_;have d5:=o.ip.wi_len ne hqf af;have fb:decide (0<((Jq (K.X.pend q.length q)).length:Int))=decide (0<(wiL K.L q).length):=by
  rw[d5];show decide _=decide (0<K.X.pend q.length q);rcases Nat.eq_zero_or_pos (K.X.pend q.length q) with h0|h0
  .rw[h0,limbs_0];rfl
  rw[decide_eq_true h0,decide_eq_true (by have:=limbs_pos' (show K.X.pend q.length q≠0 by omega);omega)]
 obtain⟨v8,c4⟩:∃ v8,v8=v7.setCell ((⟨C,0,none⟩:Addr).add 2) (.bool (decide (0<(wiL K.L q).length))):=⟨_,rfl⟩;have d6:v7.setCell ((⟨C,0,none⟩:Addr).add 2) (.bool (decide (0<((Jq (K.X.pend q.length q)).length:Int))))=v8:=by rw[fb];exact c4.symm
 refine Eq.mpr (congrArg _ d6) ?_;have fa:GrN (λk=>k=C) v7 v8:=by rw[c4];exact GrN.set _ rfl
 have fq:Blk v8 C 173 [.slice eh (Jq (rkS K.X K.ds q q.length)).length eg,.slice CA (Jq (K.X.pend q.length q)).length cc,.bool (decide (0<(wiL K.L q).length)),.int .i64 (st:Int)]:=by rw[c4];exact b8.set 2 _
 have ap:=dk.trans fa;have fi:=fk.off ap cr o;have fo:=Jy fp ap cw;refine Qy fq ?_;refine Xa fo ?_;intro v9 fn bl c0;have c1:=c0 w (c3 ▸ o.ext fi.gr) om;have dj:GrN (λk=>k=b4) v8 v9:=GrN.by bl λk hk=>by injection hk with hk;exact hk.symm
 have ao:GrN (λk=>k=K.mb∨k=C∨k=b4) v6 v9:=(ap.mono λk _ h=>.inr (.inl h)).trans (dj.mono λk _ h=>.inr (.inr h));refine ρ ?_;refine Kx fn ⟨_,_,st,rfl,?_,?_,Nat.le_trans f3 (Jrj hqf),c1⟩
 .rw[o.ip.rk_end ne hqf af];exact(dt.gr ao).1
 rw[d5];exact(fe.gr ao).1
end
open Go.RowKit Pl Go.Wk
variable {B0 f pc:Nat}
theorem Qhj{w:World}{x:Value}{ds:List Bool}{kf:Nat->Nat}{pf:Nat->Int}{BB:Nat->List BkT}{tot:Nat}{L:List Row}(tb:TB B0 w)(h:IxA w x f ds kf pf BB tot L){PA:Option Addr}{q:Row}(hq:RdR w PA q)(hqc:q.length<=pc):
  Ret Tryz.prog 40 [x,.slice PA q.length pc] w λu w'=>Ext w w'/\(q.length≠f->u=.tuple #[.slice none 0 0,.bool false,.int .i64 0,.int .i64 6]) /\
   (q.length=f->∃(kv:Value) (st:Nat),u=.tuple #[kv,.bool (decide (0<(wiL L q).length)),.int .i64 (st:Int),.int .i64 0]/\NatV w' kv (Zj ds L q)/\st<=Qd f λv=>hmB (BB v)):=by
 have ix:=h.ix;have ip:=h.ip;obtain⟨DA,dc,BA,cb,KA,ck,aj,cp,tv,ae,ad,rfl,ah,ai,hD,hB,hK,hP,a6,af⟩:=id ix.ex;obtain⟨TA,tc,rfl,_⟩:=id a6;refine enE Tryz.func40 Tryz.ntmps40 ?_;refine bxR ?_;intro w1 b D hb O;refine Qy O ?_;refine clR (Jhp (ix.ext D)) ?_;rintro u w2 ⟨rfl,o⟩;refine ciR (λh=>?_) (λh=>?_)
 .have a8:q.length≠f:=λe=>by rw[e]at h;simp at h
  refine ρ ?_;exact Kt ⟨D.trans o,λ_=>rfl,λh=>absurd h a8⟩
 have Z:q.length=f:=by grind
 clear h;refine Qy (O.ext o) ?_;refine clR (Jhm (ix.ext (D.trans o)) ip.nbT) ?_;rintro u w3 ⟨a5,_,U⟩;have j:=(D.trans o).trans U;obtain⟨UA,uc,rfl,_⟩:=id a5;refine ciR (λh=>?_) (λh=>?_)
 .have h0:tot=0:=by
   have:=Zx h;grind [Nat.eq_zero_or_pos,tot,limbs_pos']
  have hL:L=[]:=List.eq_nil_of_length_eq_zero (by rw[<-ip.len];exact h0);refine ρ ?_;refine Kt ⟨j,λh=>absurd Z h,λ_=>⟨.slice none 0 0,0,by subst hL;rfl,?_,Nat.zero_le _⟩⟩;rw[hL];exact NatV.nil _
 have ne:tot≠0:=λe=>by
  have:=Xu h;grind [limbs_0]
 clear h;refine Qy ((O.ext o).ext U) ?_;refine clR (Xqj (tb.ext j) (ix.ext j) ip ne (Rd.ext hq j) hqc om) ?_;rintro u w4 ⟨bv,cv,st,rfl,a1,a9,a7,a4⟩;obtain⟨XA,xc,rfl,_⟩:=id a1;obtain⟨YA,yc,rfl,_⟩:=id a9;refine Jb Jcx ?_;intro w5 b8 a3 aa ab;refine Xa ab ?_;intro w6 ac ag a2;have G:Ext w4 w6:=a2 w4 a3 aa;have J:Ext w6 w6.drew:=(Ext.refl w6).drew;have C:=ac.ext J;refine ρ ?_;refine drN (λ_=>False) 11 (scq 10 []) kr ?_;refine ρn ?_;refine nld (λw' hg=>(C.ext hg.toExt).at (i:=0) rfl) ?_;refine ρn ?_;refine nld (λw' hg=>(C.ext hg.toExt).at (i:=2) rfl) ?_;refine ρn ?_;refine nld (λw' hg=>(C.ext hg.toExt).at (i:=3) rfl) ?_;refine ρn ?_;refine ρ ?_;exact Kt ⟨((j.trans a4).trans G).trans J,λh=>absurd Z h,λ_=>⟨_,st,rfl,(a1.ext G).ext J,a7⟩⟩
open Go.RowKit Pl Go.Wk _root_.Go.Proofs.Tryz
variable {ls:List (List V)}{ds:List Bool}{ps:List Pr}{base c g n:Nat}{A:Option Addr}{fv v va vb vd:Value}{w:World}
theorem Qhb(h:RowsV w v ls):
  Ret prog 155 [v] w λv' w'=>(∃(ps:List Pr) (A:Option Addr),v'=.slice A ps.length ps.length/\ps.map (·.2)=ls/\ps.length<=1100000/\Dat w' w.heap.size (.slice A ps.length ps.length) ps/\∀ p∈ps,RowX w' (one (Value.slice A ps.length ps.length).ownBlock) p.1 p.2)/\Ext w w':=by
 obtain⟨ps,A,c,rfl,rfl,h3,h4,h5,h6⟩:=h;generalize hn:ps.length=n at *
 refine enE func155 ntmps155 ?_;refine ρ ?_;refine mkn ER n om (by unfold maxLen;omega) ?_;intro w1 O a7 U hO;have a5:∀ k,(Value.slice O n n).ownBlock=some k->w.heap.size<=k/\k<w1.heap.size:=by
  obtain⟨_,_,e,_,hf⟩:=Jv U;exact hf
 have a9:Dat w1 w.heap.size (.slice O n n) ([]++List.replicate n (.slice none 0 0,[])):=by
  refine⟨?_,λp hp=>?_⟩
  .rw[List.nil_append,List.length_replicate,Pr.rep];have e:(madeCells (Value.slice none 0 0).cells (n*1)).toList=List.replicate n (.slice none 0 0):=by rw[Nat.mul_one];exact Yu _ _
   rw[e]at U;exact U
  rw[List.nil_append]at hp;rw[(List.mem_replicate.1 hp).2];rfl
 refine ρ ?_;refine Jo (fun (k:Nat) (i:List Pr)=>[(0,.slice A n c),(3,.slice O n n),(9,.int .i64 (n:Int)),(10,.int .i64 (k:Int))])
  (λk i w2=>k<=n/\i.length=k/\i.map (·.2)=(ps.take k).map (·.2)/\Ext w w2/\Dat w2 w.heap.size (.slice O n n) (i++List.replicate (n-k) (.slice none 0 0,[]))/\(∀ p∈i,RowX w2 (one (Value.slice O n n).ownBlock) p.1 p.2)/\w1.heap.size<=w2.heap.size) (λk _=>n-k) 0 [] sB
  ⟨Nat.zero_le _,rfl,rfl,a7,a9,λp hp=>(by cases hp),Nat.le_refl _⟩ ?_
 rintro k i w2 ⟨hk,J,a4,o,a2,a6,a3⟩;refine ciR (λh=>?_) (λh=>?_)
 .have D:k<n:=by have:=oT h;omega
  have C:k<ps.length:=om
  refine ixR k (h5.ext o) D ?_;refine ldR ((h5.ext o).cell (Kh C)) ?_;refine clR (Ua ((h6 _ (getD_mem' z0 ps C)).ext o) (one (Value.slice O n n).ownBlock) (λj hj=>by have:=a5 j hj;omega)) ?_;rintro v3 w3 ⟨G,u⟩;have a1:=a2.ext u;have Z:(i++List.replicate (n-k) ((.slice none 0 0,[]):Pr)).length=n:=by simp;omega
  obtain⟨s1,s2,s3⟩:=a1.store Z D (p:=(v3,(ps.getD k z0).2)) G.v.one;refine ixR k (a1.rd Z) D ?_;refine Xk (a1.cell Z D) s1 ?_ (hv:=G.v.one);refine ρ ?_;have e:(i++List.replicate (n-k) ((.slice none 0 0,[]):Pr)).set k (v3,(ps.getD k z0).2)=(i++[(v3,(ps.getD k z0).2)])++List.replicate (n-(k+1)) (.slice none 0 0,[]):=by
   rw[show n-k=(n-(k+1))+1 by omega,List.replicate_succ,List.set_append_right _ _ om,J,Nat.sub_self,List.set_cons_zero,List.append_assoc];rfl
  rw[e]at s2;refine Jl (k+1) (i++[(v3,(ps.getD k z0).2)]) sB ⟨om,by simp[J],?_,Qh (o.trans u) s3 (λj hj=>(a5 j hj).1),s2,λp hp=>?_,?_⟩ om
  .rw[List.map_append,a4,List.take_succ_eq_append_getElem C,List.map_append,Qq z0 ps C];rfl
  .rcases List.mem_append.1 hp with h'|h'
   .exact((a6 p h').ext u).grown s3 (λ_ e=>e)
   rw[List.mem_singleton.1 h'];exact G.grown s3 (λ_ e=>e)
  exact nL a3 (nL u.size s3.size)
 have a8:k=n:=by have:=oF h;omega
 subst a8;rw[Nat.sub_self,List.replicate_zero,List.append_nil]at a2;refine ρ ?_;subst J;exact Jj ⟨⟨i,O,rfl,by rw[a4,<-hn,List.take_length],h4,a2,a6⟩,o⟩
theorem Qfl{a b:List V}(ha:RowV w va a)(hb:RowV w vb b)(hd:BoolsV w vd ds)(hk:Blk w g 25 [vd]):
  Ret prog 157 [va,vb,.pointer (some ⟨g,0,none⟩)] w λr w'=>r=.int .i64 (Jw a b ds)/\Ext w w':=by
 refine enE func157 ntmps157 ?_;refine ldR (hk.at (i:=0) rfl) ?_;refine clR (Jls ha hb hd) ?_;rintro v o ⟨rfl,j⟩;refine ρ ?_;exact Jj ⟨rfl,j⟩
theorem Qfd(hD:Dat w base (.slice A n c) ps)(hn:ps.length=n)(hmx:n<20)(hC:CmpF w (Value.slice A n c).ownBlock fv ps ds):
  Ret prog 188 [.slice A n c,.int .i64 (n:Int),fv] w λv w'=>∃ ps',Dat w' base (.slice A n c) ps'/\Seg z0 0 n ps ps'/\SOn z0 (fP ds) ps' 0 n/\w.grownBy w' (Value.slice A n c).ownBlock:=by
 refine enE func188 ntmps188 ?_;refine ρ ?_;refine Qv (fun (_:Unit)=>[(0,.slice A n c),(1,.int .i64 (n:Int)),(2,fv),(6,.int .i64 20),(7,.int .i64 0),(8,.int .i64 20)]) (λ_ w'=>w'=w) (λ_=>0) () sB rfl ?_;rintro _ w' rfl;refine ciR (λh=>?_) (λh=>?_)
 .exfalso
  have:=oT h;omega
 clear h;refine clR (Jhx (a:=0) (b:=n) hD hn rfl rfl (nR _) (Nat.zero_le _) om hC) ?_;rintro v i ⟨ps',C,u,o,j⟩;refine ρ ?_;refine Qv (fun (_:Unit)=>[(1,.int .i64 (n:Int)),(6,.int .i64 20)]) (λ_ w'=>w'=i) (λ_=>0) () sB rfl ?_;rintro _ D rfl;refine ciR (λh=>?_) (λh=>?_)
 .exfalso
  have:=oT h;omega
 clear h;refine ρ ?_;exact Uj ⟨ps',C,u,o,j⟩
theorem Qfh(hD:Dat w base (.slice A n c) ps)(hn:ps.length=n)(hmx:n<20)(hC:CmpF w (Value.slice A n c).ownBlock fv ps ds):
  Ret prog 156 [.slice A n c,fv] w λv w'=>∃ ps',Dat w' base (.slice A n c) ps'/\Seg z0 0 n ps ps'/\SOn z0 (fP ds) ps' 0 n/\w.grownBy w' (Value.slice A n c).ownBlock:=by
 refine enE func156 ntmps156 ?_;refine clR (Qfd (ds:=ds) hD hn hmx hC) ?_;rintro v j i;refine ρ ?_;exact Uj i
theorem Qgv(h:RowsV w v ls)(hd:BoolsV w vd ds)(hl:ls.length<20):
  Ret prog 106 [v,vd] w λv' w'=>(∃ ls',RowsV w' v' ls'/\ls'.Perm ls/\Srt ds ls')/\Ext w w':=by
 obtain⟨D,dc,rfl,a8,a7,a6⟩:=id hd;refine enE func106 ntmps106 ?_;refine bxR ?_;intro w1 b o a9 a2;refine clR (Qhb (h.ext o)) ?_;rintro v2 w2 ⟨⟨ps,A,rfl,O,a5,Z,C⟩,G⟩;refine ρ ?_;have j:∀ k,(Value.slice A ps.length ps.length).ownBlock=some k->w1.heap.size<=k:=λk hk=>by
  obtain⟨_,_,_,_,hf⟩:=Jv Z.1;exact(hf k hk).1
 have a1:ps.length<20:=by rw[<-O,List.length_map]at hl;exact hl
 refine cl (Qfh (fv:=.func (.func 157) #[] #[.pointer (some ⟨b,0,none⟩)]) (ds:=ds) Z rfl a1 ⟨_,_,_,rfl,λw' hg p q hp hq=>?_⟩) ?_
 .have J:Ext w1 w':=Qh G hg j;exact Qfl ((C p hp).grown hg (λ_ e=>e)).v ((C q hq).grown hg (λ_ e=>e)).v (hd.ext (o.trans J)) (a2.ext J)
 rintro v3 w3 ⟨qs,a4,u,a3,U⟩;have i:qs.length=ps.length:=u.len;refine ρ ?_;refine Jj ⟨⟨qs.map (·.2),⟨qs,A,ps.length,rfl,by rw[i],om,om,?_,λp hp=>?_⟩,?_,?_⟩,o.trans (Qh G U j)⟩
 .exact i ▸ a4.rd i
 .exact((C p (u.perm.mem_iff.1 hp)).grown U (λ_ e=>e)).v
 .rw[<-O];exact u.perm.map _
 exact Jdt (by rw[i];exact a3)
open Go.RowKit Pl Go.Wk _root_.Go.Proofs.Tryz
variable {ds:List Bool}{L ls m:List Row}{B B' hi i k lo n:Nat}{u v vd vh vk vl vr x:Value}{w w':World}
def tt7: TT:=(125,{ desc:=.invalid,size:=2,offs:=[0,1] })::(107,{ desc:=.interface #[("At",61),("Len",50),("Rank",63)] }) ::
 (179,{ desc:=.invalid,size:=1,offs:=[0] })::(177,{ desc:=.invalid,size:=3,offs:=[0,1,2] })::(183,{ desc:=.invalid,size:=2,offs:=[0,1] })::(100,{ desc:=.invalid,size:=5,offs:=[0] })::tt
theorem Qcl: TOk prog tt7:=⟨⟨_,underlying125,kr,kr⟩,⟨kr,kr⟩,⟨_,underlying179,kr,kr⟩,⟨_,underlying177,kr,kr⟩,⟨_,underlying183,kr,kr⟩,⟨_,underlying100,kr,kr⟩,Jjm⟩
instance (priority:=9000):Tab prog tt7:=⟨Qcl,mixed⟩
theorem Xqk(h:RowsV w v ls):
  Ret prog 105 [v] w λv' w'=>OwnR w' w.heap.size v' (ddF ls)/\Ext w w':=by
 obtain⟨ps,A,c,G,rfl,h3,h4,h5,h6⟩:=id h;have hn:ls.length=ps.length:=by rw[G];simp
 generalize hN:ps.length=n at *
 refine enE func105 ntmps105 ?_;refine ρ ?_;refine Jo (fun (k:Nat) (Z:Value)=>[(0,.slice A n c),(3,Z),(6,.int .i64 (n:Int)),(7,.int .i64 (k:Int))])
  (λk Z U=>k<=n/\Ext w U/\OwnR U w.heap.size Z (ddF (ls.take k))/\(ddF (ls.take k)).length<=k) (λk _=>n-k) 0 (.slice none 0 0) sB
  ⟨Nat.zero_le _,Ext.refl w,OwnR.nil _ _,by simp[ddF]⟩ ?_
 rintro k Z U ⟨hk,C,a3,ab⟩;refine ciR (λh=>?_) (λh=>?_)
 .have a7:k<n:=by have:=oT h;omega
  have D:k<ps.length:=om
  have step:=Jln (l:=ls) (k:=k) om;refine ρ ?_;refine Zy (fun (t:Bool)=>[(0,.slice A n c),(3,Z),(4,.int .i64 (k:Int)),(6,.int .i64 (n:Int)),(7,.int .i64 (k:Int)),(24,.bool t)])
   (λt w3=>t = !decide (k≠0/\ls.getD (k-1) []=ls.getD k [])/\Ext U w3) ?_ ?_
  .refine dr (scq 15 [12]) kr ?_;have o:Ext U U.drew:=(Ext.refl U).drew;have J:=h5.ext (C.trans o);refine ρd ?_;refine dki 12 (λh=>?_) (λh=>?_)
   .have a4:k=0:=by have:=Zx h;omega
    refine ρd ?_;exact Jd true sB ⟨by simp[a4],o⟩
   have a4:k≠0:=by have:=Xu h;omega
   have O:k-1<ps.length:=om
   refine Jc (k-1) J om ?_;refine Jz (J.cell (Kh O)) ?_;refine Jc k J a7 ?_;refine Jz (J.cell (Kh D)) ?_;refine Jg (Jyw ((h6 _ (getD_mem' z0 ps O)).ext (C.trans o)) ((h6 _ (getD_mem' z0 ps D)).ext (C.trans o))) ?_;rintro x w3 ⟨rfl,u⟩;refine⟨u,?_⟩;refine ρd ?_;refine Jd (!decide ((ps.getD (k-1) z0).2=(ps.getD k z0).2)) sB ⟨?_,o.trans u⟩;rw[G,Jql,Jql];simp[a4]
  rintro t w3 ⟨rfl,u⟩;have a2:=a3.ext u;have i:=C.trans u;refine ciR (λh=>?_) (λh=>?_)
  .rw[if_neg (by rw[Bool.not_eq_true']at h;exact oF h)]at step;refine ixR k (h5.ext i) a7 ?_;refine ldR ((h5.ext i).cell (Kh D)) ?_;refine clR (Ua ((h6 _ (getD_mem' z0 ps D)).ext i) (own w.heap.size Z) (λj hj=>by
    rcases hj with hj|hj
    .have:=i.size;omega
    exact(a2.lt j hj).2)) ?_
   rintro v4 w4 ⟨a6,a5⟩;obtain⟨B,bc,a9,_⟩:=a6.v;refine Qk (λw=>Jvq v4 w B _ bc a9) ?_;intro w5 b a1 ae ad;refine ρ ?_;refine appR (a:=w) ((i.trans a5).trans a1) ER ((a2.ext a5).ext a1) ad (a6.ext a1) om ?_;intro v6 w6 aa a8 _;refine ρ ?_;refine Jl (k+1) v6 sB ⟨om,a8,?_,?_⟩ om
   .rw[step,G,Jql,<-G];exact aa
   rw[step];simp;omega
  rw[if_pos (by simpa using h)]at step;refine ρ ?_;refine Jl (k+1) Z sB ⟨om,i,?_,?_⟩ om
  .rw[step];exact a2
  rw[step];omega
 have ac:k=n:=by have:=oF h;omega
 subst ac;refine ρ ?_;rw[List.take_of_length_le om]at a3 ab;exact Jj ⟨a3,C⟩
def RowsA(w:World)(v:Value)(ds:List Bool)(ls:List Row): Prop:=∃ v1 v2,v=.agg #[v1,v2]/\RowsV w v1 ls/\BoolsV w v2 ds
theorem RowsA.ext{w w':World}{v:Value}{ds:List Bool}{ls:List Row}(h:RowsA w v ds ls)(hx:Ext w w'): RowsA w' v ds ls:=by
 obtain⟨j,i,C,u,o⟩:=h;exact⟨j,i,C,u.ext hx,o.ext hx⟩
theorem RowsV.slc(h:RowsV w v ls): ∃ A n c,v=.slice A n c:=by obtain⟨_,A,c,_,rfl,_⟩:=h;exact⟨A,_,c,rfl⟩
theorem BoolsV.slc{ls:List Bool}(h:BoolsV w v ls): ∃ A n c,v=.slice A n c:=by obtain⟨A,c,rfl,_⟩:=h;exact⟨A,_,c,rfl⟩
theorem Xkb(A B:Option Addr)(n c m e:Nat)(w:World): (Instr.build 125 #[(0,.slice A n c),(1,.slice B m e)]).run prog w=.ok (.agg #[.slice A n c,.slice B m e]) w:=kr
theorem Jnd: Qt prog 125=some (.agg #[.slice none 0 0,.slice none 0 0]):=kr
theorem BoolsV.one(ds:List Bool): ∀ u∈ds.map Value.bool,u.oneCell'=true:=by
 intro u i;obtain⟨b,_,rfl⟩:=List.mem_map.1 i;rfl
theorem Qnl(h:RowsV w v ls)(hd:BoolsV w vd ds)(hl:ls.length<20):
  Ret prog 55 [v,vd] w λv' w'=>(∃ m,RowsA w' v' ds m/\IsSet ds ls m/\m.length<=ls.length)/\Ext w w':=by
 refine enE func55 ntmps55 ?_;refine Jb (cs:=[.slice none 0 0,.slice none 0 0]) Jnd ?_;intro w1 b O ag a3;refine clR (Qgv (h.ext O) (hd.ext O) hl) ?_;rintro v2 w2 ⟨⟨i,a1,a2,a7⟩,J⟩;refine clR (Xqk a1) ?_;rintro v3 w3 ⟨Z,G⟩;refine ρ ?_;obtain⟨D,dc,rfl,aj,ab,aa⟩:=id hd;have j:=(O.trans J).trans G;refine cl (Qkr (aa.ext j) (BoolsV.one ds) om) ?_;rintro v4 w4 ⟨⟨D',c',rfl,ae,ac,ah⟩,C⟩;obtain⟨A3,c3,rfl⟩:=Z.form;refine Xo (Xkb _ _ _ _ _ _ _) ?_;refine Qb (((a3.ext J).ext G).ext C) (cs':=[.slice A3 (ddF i).length c3,.slice D' ds.length c']) ?_ (λu hu=>by simp at hu;rcases hu with rfl|rfl<;>rfl);intro w5 a9 a4 a6;have o:=Jlq a7;have U:IsSet ds ls (ddF i):=⟨o.1,λx=>(o.2 x).trans a2.mem_iff⟩;have a5:Ext w w5:=a6 w (j.trans C) ag;have af:b<w2.heap.size:=(a3.ext J).lt;have ai:i.length<=1100000:=by obtain⟨_,_,_,_,h0,_⟩:=a1.parts;exact h0
 have a8:OwnR w5 w2.heap.size (.slice A3 (ddF i).length c3) (ddF i):=(Z.ext C).grown a4 af;refine ρ ?_;refine Kx a9 ⟨⟨ddF i,⟨_,_,rfl,a8.rows (by have:=Jqv i;omega),⟨D',c',rfl,ae,ab,?_⟩⟩,U,?_⟩,a5⟩
 .refine Rd.grown ac a4 (λad e e2=>?_);have:=ah ad e;injection e2 with e2
  have:=G.size;omega
 rw[<-a2.length_eq];exact Jqv i
theorem Yd(h:n<18446744073709551616): (Jq n).length<=1000:=by have:=Jrs h;omega
def AyR(w:World)(L:List Row)(B k:Nat)(x:Value): Prop :=
 if k<L.length then ∃ vr,∃ s:Nat,x=.tuple #[vr,.int .i64 (s:Int),.int .i64 0]/\RowV w vr (L.getD k [])/\s<=B
 else ∃ s:Nat,x=.tuple #[.slice none 0 0,.int .i64 (s:Int),.int .i64 3]/\s<=B
structure ArrW(w:World)(v:Value)(L:List Row)(B:Nat): Prop where
 len:∃ f rv,Zw prog v "Len" f rv/\∀ w',Ext w w'->Ret prog f [rv] w' λx w''=>NatV w'' x L.length/\Ext w' w''
 at_:∃ f rv,Zw prog v "At" f rv/\∀ w',Ext w w'->∀ k vk,NatV w' vk k->k<9223372036854775808->Ret prog f [rv,vk] w' λx w''=>AyR w'' L B k x/\Ext w' w''
 rank:∃ f rv,Zw prog v "Rank" f rv/\∀ w',Ext w w'->∀ i vr,i<L.length->RowV w' vr (L.getD i [])->Ret prog f [rv,vr] w' λx w''=>(∃ vn,∃ s:Nat,x=.tuple #[vn,.bool true,.int .i64 (s:Int),.int .i64 0]/\NatV w'' vn i/\s<=B)/\Ext w' w''
 small:L.length<=1100000
 bd:B<=100000000
theorem ArrW.ext(h:ArrW w v L B)(hx:Ext w w'): ArrW w' v L B:=by
 obtain⟨⟨f1,C,J,h1⟩,⟨f2,u,G,h2⟩,⟨f3,o,D,Z⟩,U,O⟩:=h;exact⟨⟨f1,C,J,λj i=>h1 j (hx.trans i)⟩,⟨f2,u,G,λj i=>h2 j (hx.trans i)⟩,⟨f3,o,D,λj i=>Z j (hx.trans i)⟩,U,O⟩
theorem ArrW.form(h:ArrW w v L B): ∃ t x,v=.iface t x:=by
 obtain⟨⟨f1,i,⟨t,x,rfl,_⟩,j⟩,_⟩:=h;exact⟨t,x,rfl⟩
theorem u64c(n:Nat)(h:n<=1100000): IntKind.u64.wrap (n:Int)=(n:Int):=Vr om
theorem Qgr(h:RowsA w v ds m): Ret prog 283 [v] w λx w'=>NatV w' x m.length/\Ext w w':=by
 obtain⟨v1,Z,rfl,J,G⟩:=h;obtain⟨A,c,rfl,hc,u,_⟩:=J.parts;obtain⟨D,dn,dc,rfl⟩:=G.slc;refine enE func283 ntmps283 ?_;refine bxR ?_;intro U b1 j C o;refine ldR (o.at rfl) ?_;refine ρ ?_;rw[u64c _ u];refine cl (Ge m.length om _) ?_;rintro x O ⟨hn,i⟩;refine ρ ?_;exact Jj ⟨hn,j.trans i⟩
theorem Qgs(h:RowsA w v ds m)(hk:NatV w vk k)(hkb:k<9223372036854775808): Ret prog 282 [v,vk] w λx w'=>AyR w' m 1 k x/\Ext w w':=by
 obtain⟨v1,v2,rfl,h1,h2⟩:=h;obtain⟨A,c,rfl,hc,hm,cs,C,Z⟩:=h1.parts;obtain⟨D,dn,dc,rfl⟩:=h2.slc;refine enE func282 ntmps282 ?_;refine bxR ?_;intro w1 b1 i a1 G;refine clR (Jgr (hk.ext i) om) ?_;rintro x w2 ⟨rfl,rfl⟩;refine ldR (G.at rfl) ?_;refine ρ ?_;rw[u64c _ hm];refine ci (λo=>?_) (λj=>?_)
 .have o:¬ k<m.length:=by have:=oT o;omega
  refine ρ ?_;refine Zz ⟨?_,i⟩;unfold AyR;rw[if_neg o];exact⟨0,rfl,om⟩
 have j:k<m.length:=by have:=oF j;omega
 obtain⟨u,hu,O⟩:=Z k j;refine ldR (G.at rfl) ?_;refine ixR k (C.ext i) j ?_;refine ldR ((C.ext i).cell hu) ?_;refine clR (Ua (O.ext i) (λ_=>False) (λ_ h=>h.elim)) ?_;rintro x w3 ⟨U,J⟩;refine ρ ?_;refine Zz ⟨?_,i.trans J⟩;unfold AyR;rw[if_pos j];exact⟨x,1,rfl,U.v,Nat.le_refl _⟩
theorem Qgp{r:Row}(h:RowsA w v ds m)(hr:RowV w vr r)(hl:Lt ds m)(hms:m.length<256): Ret prog 284 [v,vr] w λx w'=>(∃ vn,x=.tuple #[vn,.bool (decide (r∈m)),.int .i64 (Qz m.length:Int),.int .i64 0]/\NatV w' vn (cnt ds m r))/\Ext w w':=by
 obtain⟨v1,v2,rfl,Z,U⟩:=h;obtain⟨A,c,rfl,hc,hm,cs,a1,a2⟩:=Z.parts;obtain⟨D,dn,dc,rfl⟩:=U.slc;have a3:=Qzz ds m r;refine enE func284 ntmps284 ?_;refine bxR ?_;intro w1 b1 i a4 j;refine ldR (j.at rfl) ?_;refine ldR (j.at rfl) ?_;refine clR (Qgw (Z.ext i) (hr.ext i) (U.ext i) hl) ?_;rintro x G ⟨rfl,C⟩;refine drR [(0,0),(0,1),(0,3),(0,4),(0,5),(0,6),(0,7),(1,2),(1,8),(0,9),(0,10),(0,11),(0,12)] ?_;have o:Ext G G.drew:=(Ext.refl G).drew;have O:=(j.ext C).ext o;refine Jz (O.at rfl) ?_;refine ρd ?_;rw[u64c _ hm,u64c _ (show cnt ds m r<=1100000 by omega)];refine dcl (Ge (cnt ds m r) om _) ?_;rintro x w3 ⟨J,u⟩;refine⟨u,?_⟩;refine dcl (Jmh m.length om _) ?_;rintro y w4 ⟨rfl,rfl⟩;refine⟨Ext.refl _,?_⟩;refine ρd ?_;refine ρ ?_;exact Kt ⟨⟨x,rfl,J⟩,((i.trans C).trans o).trans u⟩
theorem Qpx(x y:Value): Zw prog (.iface 125 (.agg #[x,y])) "Len" 283 (.agg #[x,y]):=⟨_,_,rfl,λw=>kr,λw=>kr⟩
theorem Qpz(x y:Value): Zw prog (.iface 125 (.agg #[x,y])) "At" 282 (.agg #[x,y]):=⟨_,_,rfl,λw=>kr,λw=>kr⟩
theorem Qpw(x y:Value): Zw prog (.iface 125 (.agg #[x,y])) "Rank" 284 (.agg #[x,y]):=⟨_,_,rfl,λw=>kr,λw=>kr⟩
theorem AyR.mono(h:AyR w L B k x)(hb:B<=B'): AyR w L B' k x:=by
 unfold AyR at *;split
 .rename_i hk;rw[if_pos hk]at h;obtain⟨o,s,i,j,u⟩:=h;exact⟨o,s,i,j,om⟩
 rename_i hk;rw[if_neg hk]at h;obtain⟨s,i,j⟩:=h;exact⟨s,i,om⟩
theorem rowsW(h:RowsA w v ds m)(hl:Lt ds m)(hms:m.length<256): ArrW w (.iface 125 v) m 64:=by
 obtain⟨v1,v2,rfl,u,o⟩:=id h;refine⟨⟨_,_,Qpx _ _,λw' j=>Qgr (h.ext j)⟩,⟨_,_,Qpz _ _,λw' j k vk O D=>(Qgs (h.ext j) O D).mono λx C ⟨u,o⟩=>⟨u.mono om,o⟩⟩,
  ⟨_,_,Qpw _ _,λw' j i Z hi J=>(Qgp (h.ext j) J hl hms).mono λx C ⟨⟨G,u,o⟩,U⟩=>⟨⟨G,Qz m.length,by rw[u,decide_eq_true (getD_mem' [] m hi)],by rw[Qkb hl hi]at o;exact o,by have:=Jqn (k:=8) (x:=m.length) om;omega⟩,U⟩⟩,om,om⟩
theorem Jbn{m:Nat}(hv:NatV w v n)(hu:NatV w u m)(hn:n<18446744073709551616): Ret prog 293 [v,u] w λx w'=>NatV w' x (n-m)/\Ext w w':=by
 refine enE func293 ntmps293 ?_;refine clR (Qpc hv hu (Yd hn)) ?_;rintro y o ⟨⟨x,rfl,j⟩,i⟩;refine ρ ?_;exact Jj ⟨j,i⟩
theorem cmq_le{m:Nat}: (Zg n m<=0)↔n<=m:=by unfold Zg;grind
theorem cmq_lt{m:Nat}: (Zg n m<0)↔n<m:=by unfold Zg;grind
theorem cmq_ge{m:Nat}: (0<=Zg n m)↔m<=n:=by unfold Zg;grind
theorem cmq_gt{m:Nat}: (0<Zg n m)↔m<n:=by unfold Zg;grind
theorem cmq_eq{m:Nat}: (Zg n m=0)↔n=m:=by unfold Zg;grind
theorem Qsb{m:Nat}(hv:NatV w v n)(hu:NatV w u m)(hn:n<18446744073709551616)(hm:m<18446744073709551616): Ret prog 294 [v,u] w λx w'=>NatV w' x (min n m)/\Ext w w':=by
 refine enE func294 ntmps294 ?_;refine clR (Va hv hu) ?_;rintro y G ⟨rfl,i⟩;refine ciR (λh=>?_) (λh=>?_)
 .have o:=cmq_le.1 (oT h);refine clR (Ig (hv.ext i) (Yd hn)) ?_;rintro x D ⟨C,j⟩;refine ρ ?_;exact Jj ⟨by rw[Nat.min_eq_left o];exact C,i.trans j⟩
 have o:m<n:=by
  have h:=oF h;rcases Nat.lt_or_ge m n with h1|h1
  .exact h1
  exact absurd (cmq_le.2 h1) h
 refine clR (Ig (hu.ext i) (Yd hm)) ?_;rintro x D ⟨C,j⟩;refine ρ ?_;exact Jj ⟨by rw[Nat.min_eq_right om];exact C,i.trans j⟩
theorem Qvv(h:ArrW w v L B)(hk:NatV w vk k)(hkb:k<9223372036854775808): Ret prog 292 [v,vk] w λx w'=>AyR w' L B k x/\Ext w w':=by
 obtain⟨f,rv,G,J⟩:=h.at_;have hb:=h.bd;refine enE func292 ntmps292 ?_;refine ρ ?_;refine inv G (J w (Ext.refl w) k vk hk hkb) ?_;rintro y U ⟨j,i⟩;unfold AyR at j ⊢;split at j
 .rename_i hlt;obtain⟨Z,s,rfl,D,u⟩:=j;refine clR (Ua D (λ_=>False) (λk hk=>hk.elim)) ?_;rintro x O ⟨C,o⟩;refine ρ ?_;refine Zz ⟨?_,i.trans o⟩;rw[if_pos hlt];exact⟨x,s,rfl,C.v,u⟩
 rename_i hlt;obtain⟨s,rfl,u⟩:=j;refine ρ ?_;refine Zz ⟨?_,i⟩;rw[if_neg hlt];exact⟨s,rfl,u⟩
theorem Jtc(h:k<L.length): L.reverse.getD k []=L.getD (L.length-(k+1)) []:=by
 rw[Qq [] _ (by simpa using h),Qq [] _ om,List.getElem_reverse];congr 1;omega
theorem Qhm(h:ArrW w v L B): Ret prog 296 [.agg #[v]] w λx w'=>NatV w' x L.length/\Ext w w':=by
 obtain⟨t,y,rfl⟩:=h.form;have hs:=h.small;refine enE func296 ntmps296 ?_;refine bxR ?_;intro D b1 i O C;refine ldR (C.at rfl) ?_;refine ρ ?_;obtain⟨f,rv,G,J⟩:=h.len;refine inv G (J D i) ?_;rintro x Z ⟨hn,o⟩;refine clR (Ig hn (Yd om)) ?_;rintro x U ⟨u,j⟩;refine ρ ?_;exact Jj ⟨u,(i.trans o).trans j⟩
theorem Qhn(h:ArrW w v L B)(hk:NatV w vk k)(hkb:k<9223372036854775808): Ret prog 295 [.agg #[v],vk] w λx w'=>AyR w' L.reverse B k x/\Ext w w':=by
 obtain⟨t,y,rfl⟩:=h.form;have hs:=h.small;refine enE func295 ntmps295 ?_;refine bxR ?_;intro w1 b1 J a7 a1;refine ldR (a1.at rfl) ?_;refine ρ ?_;obtain⟨f,rv,hm,hf⟩:=h.len;refine inv hm (hf w1 J) ?_;rintro x w2 ⟨hn,G⟩;refine clR (Va ((hk.ext J).ext G) hn) ?_;rintro z w3 ⟨rfl,D⟩;have i:=(J.trans G).trans D;refine ciR (λh0=>?_) (λh0=>?_)
 .have a6:=cmq_ge.1 (oT h0);refine ρ ?_;refine Zz ⟨?_,i⟩;unfold AyR;rw[if_neg (by simpa using a6)];exact⟨0,rfl,om⟩
 have Z:k<L.length:=by
  have h1:=oF h0;rw[cmq_ge]at h1;omega
 refine drR (scq 14 [4,5,6,7]) ?_;have j:Ext w3 w3.drew:=(Ext.refl w3).drew;refine Jz ((((a1.ext G).ext D).ext j).at rfl) ?_;refine Jg (Ge 1 om _) ?_;rintro x1 w4 ⟨a5,o⟩;refine⟨o,?_⟩;refine dcl (Jgt (((hk.ext i).ext j).ext o) a5 (Yd om) (Yd om)) ?_;rintro x2 w5 ⟨a4,C⟩;refine⟨C,?_⟩;refine dcl (Jbn ((((hn.ext D).ext j).ext o).ext C) a4 om) ?_;rintro x3 w6 ⟨a3,U⟩;refine⟨U,?_⟩;have u:Ext w3 w6:=((j.trans o).trans C).trans U;refine dcl (Qvv (h.ext (i.trans u)) a3 om) ?_;rintro x4 w7 ⟨hA,O⟩;refine⟨O,?_⟩;unfold AyR at hA;rw[if_pos om]at hA;obtain⟨vr,s,rfl,hr,a2⟩:=hA;refine ρd ?_;refine ρ ?_;refine Zz ⟨?_,(i.trans u).trans O⟩;unfold AyR;rw[if_pos (by simpa using Z),Jtc Z];exact⟨vr,s,rfl,hr,a2⟩
theorem Qhl(h:ArrW w v L B)(hi:i<L.length)(hr:RowV w vr (L.getD i [])): Ret prog 297 [.agg #[v],vr] w λx w'=>(∃ vn,∃ s:Nat,x=.tuple #[vn,.bool true,.int .i64 (s:Int),.int .i64 0]/\NatV w' vn (L.length-(i+1))/\s<=B)/\Ext w w':=by
 obtain⟨t,y,rfl⟩:=h.form;have hs:=h.small;have ad:=h.bd;refine enE func297 ntmps297 ?_;refine bxR ?_;intro w1 b1 J ae Z;refine drR [(0,0),(0,1),(0,2),(0,4),(0,5),(1,3),(1,6),(0,7),(0,8),(0,9),(0,10),(0,11),(0,12),(0,13),(0,14),(0,15)] ?_;have j:Ext w1 w1.drew:=(Ext.refl w1).drew;refine Jz ((Z.ext j).at rfl) ?_;refine ρd ?_;refine dnci ?_;refine Jg (Ua ((hr.ext J).ext j) (λ_=>False) (λ_ h=>h.elim)) ?_;rintro x w2 ⟨a3,o⟩;refine⟨o,?_⟩;obtain⟨f,rv,hm,hf⟩:=h.rank;refine Jjc hm (hf w2 ((J.trans j).trans o) i x hi a3.v) ?_;rintro y w3 ⟨⟨vn,s,rfl,a7,a2⟩,G⟩;refine⟨G,?_⟩;have C:Ext w w3:=((J.trans j).trans o).trans G;refine ρd ?_;refine clR (Ge 1 om _) ?_;rintro x1 ab ⟨a8,u⟩;refine clR (Jgt (a7.ext u) a8 (Yd om) (Yd om)) ?_;rintro v8 w4 ⟨a6,O⟩;have D:=u.trans O;refine ldR (((((Z.ext j).ext o).ext G).ext D).at rfl) ?_;refine ρ ?_
 obtain⟨f',ac,a9,aa⟩:=h.len;refine inv a9 (aa w4 (C.trans D)) ?_;rintro x5 w5 ⟨a5,U⟩;refine clR (Jbn a5 (a6.ext U) om) ?_;rintro x6 w6 ⟨a4,a1⟩;refine ρ ?_;exact Kt ⟨⟨x6,s,rfl,a4,a2⟩,((C.trans D).trans U).trans a1⟩
theorem Qrc(x:Value): Zw prog (.iface 179 (.agg #[x])) "Len" 296 (.agg #[x]):=⟨_,_,rfl,λw=>kr,λw=>kr⟩
theorem Qrd(x:Value): Zw prog (.iface 179 (.agg #[x])) "At" 295 (.agg #[x]):=⟨_,_,rfl,λw=>kr,λw=>kr⟩
theorem Qrb(x:Value): Zw prog (.iface 179 (.agg #[x])) "Rank" 297 (.agg #[x]):=⟨_,_,rfl,λw=>kr,λw=>kr⟩
theorem revW(h:ArrW w v L B): ArrW w (.iface 179 (.agg #[v])) L.reverse B:=by
 refine⟨⟨_,_,Qrc _,λw' j=>by rw[List.length_reverse];exact Qhm (h.ext j)⟩,⟨_,_,Qrd _,λw' j k vk U u=>Qhn (h.ext j) U u⟩,⟨_,_,Qrb _,λw' j i Z hi D=>?_⟩,by simpa using h.small,h.bd⟩;have C:i<L.length:=by simpa using hi
 rw[Jtc C]at D;refine(Qhl (h.ext j) om D).mono ?_;rintro x G ⟨⟨J,s,e,hn,O⟩,o⟩;exact⟨⟨J,s,e,by rw[show L.length-(L.length-(i+1)+1)=i by omega]at hn;exact hn,O⟩,o⟩
theorem Xkd(x:Value)(t:TypeId)(y:Value)(hx:x=.iface t y)(w:World): (Instr.build 179 #[(0,x)]).run prog w=.ok (.agg #[x]) w:=by subst hx;kernel_rfl
theorem ifA: prog.underlying 107=some (.interface #[("At",61),("Len",50),("Rank",63)]):=kr
theorem Qvs(h:ArrW w v L B): Ret prog 46 [v] w λx w'=>ArrW w' x L.reverse B/\w'=w:=by
 obtain⟨t,y,rfl⟩:=h.form;refine enE func46 ntmps46 ?_;refine ρ ?_;refine Jzp ifA (.inr ⟨_,_,rfl⟩) ?_;refine Xo (Xkd _ _ _ rfl _) ?_;refine ρ ?_;refine mki underlying179 (λi e=>by cases e) ?_;refine ρ ?_;exact Jj ⟨revW h,rfl⟩
def Jqw(L:List Row)(lo hi:Nat): List Row:=(L.take hi).drop lo
theorem Jzz(h:hi<=L.length): (Jqw L lo hi).length=hi-lo:=by simp[Jqw];omega
theorem Qzq(h:lo+k<hi): (Jqw L lo hi).getD k []=L.getD (lo+k) []:=by
 rw[Jqw,Jlc,getD_take _ _ _ h]
structure SlcV(w:World)(x:Value)(L:List Row)(B lo hi:Nat): Prop where
 ex:∃ v vl vh,x=.agg #[v,vl,vh]/\ArrW w v L B/\NatV w vl lo/\NatV w vh hi
 le:lo<=hi/\hi<=L.length
theorem SlcV.ext{w w':World}{x:Value}{L:List Row}{B lo hi:Nat}(h:SlcV w x L B lo hi)(hx:Ext w w'): SlcV w' x L B lo hi:=by
 obtain⟨⟨v,vl,i,D,C,u,o⟩,j⟩:=h;exact⟨⟨v,vl,i,D,C.ext hx,u.ext hx,o.ext hx⟩,j⟩
theorem NatV.slc(h:NatV w v n): ∃ A m c,v=.slice A m c:=by obtain⟨A,c,rfl,_⟩:=h;exact⟨A,_,c,rfl⟩
theorem Jrt(h:SlcV w x L B lo hi): Ret prog 290 [x] w λx w'=>NatV w' x (hi-lo)/\Ext w w':=by
 obtain⟨⟨v,vl,U,rfl,D,C,u⟩,h5⟩:=h;obtain⟨t,y,rfl⟩:=D.form;obtain⟨_,_,_,rfl⟩:=C.slc;obtain⟨_,_,_,rfl⟩:=u.slc;have Z:=D.small;refine enE func290 ntmps290 ?_;refine bxR ?_;intro O b1 i G j;refine ldR (j.at rfl) ?_;refine ldR (j.at rfl) ?_;refine clR (Jbn (u.ext i) (C.ext i) om) ?_;rintro x J ⟨hn,o⟩;refine ρ ?_;exact Jj ⟨hn,i.trans o⟩
theorem Qfp(h:SlcV w x L B lo hi)(hk:NatV w vk k)(hkb:k<9223372036854775808): Ret prog 289 [x,vk] w λx w'=>AyR w' (Jqw L lo hi) B k x/\Ext w w':=by
 have h0:=h;obtain⟨⟨v,vl,vh,rfl,h2,h3,h4⟩,h5⟩:=h;obtain⟨t,y,rfl⟩:=h2.form;obtain⟨_,_,_,rfl⟩:=h3.slc;obtain⟨_,_,_,rfl⟩:=h4.slc;have hs:=h2.small;refine enE func289 ntmps289 ?_;refine bxR ?_;intro w1 b1 G a6 a1;refine Jt (λj u hu=>a1.at hu) ?_;refine clR (Jrt (h0.ext G)) ?_;rintro x w2 ⟨hn,D⟩;refine clR (Va ((hk.ext G).ext D) hn) ?_;rintro z w3 ⟨rfl,U⟩;have i:=(G.trans D).trans U;refine ciR (λh0=>?_) (λh0=>?_)
 .have a5:=cmq_ge.1 (oT h0);refine ρ ?_;refine Zz ⟨?_,i⟩;unfold AyR;rw[if_neg (by rw[Jzz h5.2];omega)];exact⟨0,rfl,om⟩
 have a4:k<hi-lo:=by
  have h1:=oF h0;rw[cmq_ge]at h1;omega
 refine drR (scq 13 [5,6]) ?_;have o:Ext w3 w3.drew:=(Ext.refl w3).drew;have Z:=(((a1.ext D).ext U).ext o);refine Jz (Z.at rfl) ?_;refine Jz (Z.at rfl) ?_;refine Jg (Jgt ((h3.ext i).ext o) ((hk.ext i).ext o) (Yd om) (Yd om)) ?_;rintro x2 w5 ⟨a3,O⟩;refine⟨O,?_⟩;have C:Ext w w5:=(i.trans o).trans O;refine dcl (Qvv (h2.ext C) a3 om) ?_;rintro x4 w7 ⟨hA,J⟩;refine⟨J,?_⟩;unfold AyR at hA;rw[if_pos om]at hA;obtain⟨vr,s,rfl,hr,a2⟩:=hA;refine ρd ?_;refine ρ ?_;refine Zz ⟨?_,C.trans J⟩;unfold AyR;rw[if_pos (by rw[Jzz h5.2];omega),Qzq om];exact⟨vr,s,rfl,hr,a2⟩
theorem Qfn(h:SlcV w x L B lo hi)(hi':i<hi-lo)(hr:RowV w vr (L.getD (lo+i) [])): Ret prog 291 [x,vr] w λx w'=>(∃ vn,∃ s:Nat,x=.tuple #[vn,.bool true,.int .i64 (s:Int),.int .i64 0]/\NatV w' vn i/\s<=B)/\Ext w w':=by
 obtain⟨⟨v,vl,vh,rfl,h2,h3,h4⟩,h5⟩:=h;obtain⟨t,y,rfl⟩:=h2.form;obtain⟨_,_,_,rfl⟩:=h3.slc;obtain⟨_,_,_,rfl⟩:=h4.slc;have hs:=h2.small;have a9:=h2.bd;refine enE func291 ntmps291 ?_;refine bxR ?_;intro w1 b1 U aa a5;refine drR [(0,0),(0,1),(0,2),(0,4),(0,5),(1,3),(1,6),(0,7),(0,8),(0,9),(0,10),(0,11),(0,12),(0,13),(0,14),(0,15)] ?_;have o:Ext w1 w1.drew:=(Ext.refl w1).drew;refine Jz ((a5.ext o).at rfl) ?_;refine ρd ?_;refine dnci ?_;refine Jg (Ua ((hr.ext U).ext o) (λ_=>False) (λ_ h=>h.elim)) ?_;rintro x w2 ⟨a7,G⟩;refine⟨G,?_⟩;obtain⟨f,rv,hm,hf⟩:=h2.rank;refine Jjc hm (hf w2 ((U.trans o).trans G) (lo+i) x om a7.v) ?_;rintro y w3 ⟨⟨vn,s,rfl,Z,a6⟩,O⟩;refine⟨O,?_⟩;have D:Ext w w3:=((U.trans o).trans G).trans O;have a1:=((a5.ext o).ext G).ext O;refine ρd ?_;refine ρ ?_;refine Yj (fun (b:Bool)=>[(2,.pointer (some ⟨b1,0,none⟩)),(8,vn),(10,.int .i64 (s:Int)),(12,.bool b)])
  (λb w4=>b=true/\Ext w3 w4) ?_ ?_
 .refine ld (a1.at rfl) ?_;refine clR (Va (h3.ext D) Z) ?_;rintro z w4 ⟨rfl,j⟩;refine ρ ?_;refine Go.Wk.kt 37 ?_ ?_
  .exact decide_eq_true (cmq_le.2 om)
  refine ldR ((a1.ext j).at rfl) ?_;refine clR (Va (Z.ext j) ((h4.ext D).ext j)) ?_;rintro z w5 ⟨rfl,u⟩;refine ρ ?_;exact Jd _ sB ⟨decide_eq_true (cmq_lt.2 om),j.trans u⟩
 rintro b w4 ⟨rfl,j⟩;refine drR [(0,0),(0,1),(0,2),(0,4),(0,5),(0,7),(0,8),(1,3),(1,6),(0,9),(0,10),(0,11),(0,12)] ?_;have J:Ext w4 w4.drew:=(Ext.refl w4).drew;have a4:=(a1.ext j).ext J;have C:=(D.trans j).trans J;refine Jz (a4.at rfl) ?_;refine Jz (a4.at rfl) ?_;refine Jg (Qsb ((Z.ext j).ext J) (h4.ext C) om om) ?_;rintro x5 w5 ⟨a8,u⟩;refine⟨u,?_⟩;refine dcl (Jbn a8 ((h3.ext C).ext u) om) ?_;rintro x6 w6 ⟨a3,a2⟩;refine⟨a2,?_⟩;refine ρd ?_;refine ρ ?_;exact Kt ⟨⟨x6,s,rfl,by rw[show min (lo+i) hi-lo=i by omega]at a3;exact a3,a6⟩,(C.trans u).trans a2⟩
theorem Qpt(x y z:Value): Zw prog (.iface 177 (.agg #[x,y,z])) "Len" 290 (.agg #[x,y,z]):=⟨_,_,rfl,λw=>kr,λw=>kr⟩
theorem Qpv(x y z:Value): Zw prog (.iface 177 (.agg #[x,y,z])) "At" 289 (.agg #[x,y,z]):=⟨_,_,rfl,λw=>kr,λw=>kr⟩
theorem Qps(x y z:Value): Zw prog (.iface 177 (.agg #[x,y,z])) "Rank" 291 (.agg #[x,y,z]):=⟨_,_,rfl,λw=>kr,λw=>kr⟩
theorem slcW(h:SlcV w x L B lo hi): ArrW w (.iface 177 x) (Jqw L lo hi) B:=by
 obtain⟨⟨v,vl,U,rfl,D,h3,Z⟩,u⟩:=id h;refine⟨⟨_,_,Qpt _ _ _,λw' j=>by rw[Jzz u.2];exact Jrt (h.ext j)⟩,⟨_,_,Qpv _ _ _,λw' j k O G o=>Qfp (h.ext j) G o⟩,⟨_,_,Qps _ _ _,λw' j i J hi C=>?_⟩,?_,D.bd⟩
 .rw[Jzz u.2]at hi;rw[Qzq om]at C;exact Qfn (h.ext j) hi C
 have:=D.small;rw[Jzz u.2];omega
theorem Xzx(x y z:Value)(t:TypeId)(u:Value)(A A':Option Addr)(n c n' c':Nat)(hx:x=.iface t u)(hy:y=.slice A n c)(hz:z=.slice A' n' c')(w:World): (Instr.build 177 #[(0,x),(1,y),(2,z)]).run prog w=.ok (.agg #[x,y,z]) w:=by subst hx;subst hy;subst hz;kernel_rfl
theorem Qfm(h:ArrW w v L B)(hl:NatV w vl lo)(hh:NatV w vh hi)(hls:lo<18446744073709551616)(hhs:hi<18446744073709551616):
  Ret prog 45 [v,vl,vh] w λx w'=>(if lo<=hi/\hi<=L.length then ∃ y,x=.tuple #[y,.int .i64 0]/\ArrW w' y (Jqw L lo hi) B else x=.tuple #[.nilIface,.int .i64 3])/\Ext w w':=by
 obtain⟨t,y,rfl⟩:=h.form;have a1:=h.small;refine enE func45 ntmps45 ?_;refine ρ ?_;refine Jzp ifA (.inr ⟨_,_,rfl⟩) ?_;refine clR (Va hl hh) ?_;rintro z w1 ⟨rfl,j⟩;refine ρ ?_;refine ki 14 (λh0=>?_) (λh0=>?_)
 .have Z:=cmq_gt.1 (oT h0);refine ρ ?_;refine Zs ⟨?_,j⟩;rw[if_neg om]
 have O:lo<=hi:=by
  have:=oF h0;rw[cmq_gt]at this;omega
 refine ρ ?_;obtain⟨f,rv,hm,hf⟩:=h.len;refine inv hm (hf w1 j) ?_;rintro x w2 ⟨hn,D⟩;refine clR (Va ((hh.ext j).ext D) hn) ?_;rintro z w3 ⟨rfl,U⟩;have i:=(j.trans D).trans U;refine ciR (λh0=>?_) (λh0=>?_)
 .have Z:=cmq_gt.1 (oT h0);refine ρ ?_;refine Zs ⟨?_,i⟩;rw[if_neg om]
 have o:hi<=L.length:=by
  have:=oF h0;rw[cmq_gt]at this;omega
 refine clR (Ig (hl.ext i) (Yd hls)) ?_;rintro x4 w4 ⟨J,C⟩;refine clR (Ig ((hh.ext i).ext C) (Yd hhs)) ?_;rintro x5 w5 ⟨G,u⟩;obtain⟨_,_,_,e4⟩:=J.slc;obtain⟨_,_,_,e5⟩:=G.slc;refine Xo (Xzx _ _ _ _ _ _ _ _ _ _ _ rfl e4 e5 _) ?_;refine ρ ?_;refine mki underlying177 (λms e=>by cases e) ?_;refine ρ ?_;refine Zs ⟨?_,(i.trans C).trans u⟩;rw[if_pos ⟨O,o⟩];exact⟨_,rfl,slcW ⟨⟨_,_,_,rfl,h.ext ((i.trans C).trans u),J.ext u,G⟩,O,o⟩⟩
open Go.RowKit Pl Go.Wk _root_.Go.Proofs.Tryz
variable {cs:List Nat}{L:List Row}{B b c i0 k n:Nat}{pr:Nat->Bool}{fv v vc vk vl vr x:Value}
def NtsV(w:World)(v:Value)(cs:List Nat): Prop:=∃ A c,v=.slice A cs.length c/\cs.length<=c/\cs.length<=1100000/\Rd w 1 A cs.length (Jp (nz cs))/\∀ x∈cs,x<=9223372036854775807
theorem NtsV.ext{w w':World}{v:Value}{cs:List Nat}(h:NtsV w v cs)(hx:Ext w w'): NtsV w' v cs:=by
 obtain⟨A,c,C,u,o,j,i⟩:=h;exact⟨A,c,C,u,o,j.ext hx,i⟩
theorem NtsV.slc{w:World}(h:NtsV w v cs): ∃ A n c,v=.slice A n c:=by obtain⟨A,c,rfl,_⟩:=h;exact⟨A,_,c,rfl⟩
theorem Qsw(cs:List Nat): ∀ u∈Jp (nz cs),u.oneCell'=true:=λu i=>by obtain⟨z,_,rfl⟩:=List.mem_map.1 i;rfl
theorem Xxw{A:Option Addr}{cs:List Value}{w:World}(hr:Rd w 1 A n cs)(h1:∀ u∈cs,u.oneCell'=true)(hb:n*8<=140737488355328):
  Ret prog 96 [.slice A n c] w λv w'=>(∃ A' c',v=.slice A' n c'/\n<=c'/\Rd w' 1 A' n cs)/\Ext w w':=by
 refine enE func96 ntmps96 ?_;refine ρ ?_;refine Jjt ?_;refine ciR (λh=>?_) (λh=>?_)
 .have J:A=none:=by simpa using h
  subst J;have hn:n=0:=by
   rcases Nat.eq_zero_or_pos n with h0|h0
   .exact h0
   obtain⟨ad,O,_⟩:=hr.isome h0 om;cases O
  subst hn;refine ρ ?_;exact Jj ⟨⟨none,0,rfl,Nat.le_refl _,hr⟩,Ext.refl w⟩
 refine Qk Xzk ?_;intro w1 b j G D;refine ρ ?_;refine apo j EI (D.own (n:=0) G rfl (Nat.zero_le _)) (hr.ext j) h1 (by unfold maxLen;omega) om ?_;intro v2 w2 i C _ _;obtain⟨Z,U,rfl,o,_⟩:=Jv i;refine ρ ?_;rw[Nat.zero_add]at i o ⊢;exact Jj ⟨⟨Z,U,rfl,o,Rd.own i⟩,C⟩
def Qvx(w:World)(fv:Value)(cs:List Nat)(pr:Nat->Bool): Prop:=∃ fid first cap,fv=.func (.func fid) first cap /\
 ∀ w',Ext w w'->∀ x∈cs,Ret prog fid (first.toList++[.int .i64 (x:Int)]++cap.toList) w' λr w''=>r=.bool (pr x)/\Ext w' w''
theorem Qtd{w:World}(h:NtsV w v cs)(hT:Qvx w fv cs pr):
  Ret prog 151 [v,fv] w λx w'=>(∃ k:Int,x=.int .i64 k/\(0<=k↔cs.any pr=true))/\Ext w w':=by
 obtain⟨A,c,rfl,hc,hl,O,hb⟩:=h;obtain⟨G,first,J,rfl,hT⟩:=hT;refine enE func151 ntmps151 ?_;refine ρ ?_;refine Qv (fun (k:Nat)=>[(0,.slice A cs.length c),(1,.func (.func G) first J),(7,.int .i64 (cs.length:Int)),(8,.int .i64 (k:Int))])
  (λk w'=>k<=cs.length/\(∀ j,j<k->pr (cs.getD j 0)=false)/\Ext w w') (λk=>cs.length-k) 0 sB ⟨Nat.zero_le _,λj hj=>om,Ext.refl w⟩ ?_
 rintro k w1 ⟨hk,U,o⟩;refine ciR (λh=>?_) (λh=>?_)
 .have u:k<cs.length:=by have:=oT h;omega
  refine ixR k (O.ext o) u ?_;refine ldR ((O.ext o).cell (Xf u)) ?_;refine ρ ?_;refine clv (hT _ o (cs.getD k 0) (getD_mem' 0 cs u)) ?_;rintro r w2 ⟨rfl,C⟩;refine ciR (λh=>?_) (λh=>?_)
  .refine ρ ?_;refine Jj ⟨⟨k,rfl,?_⟩,o.trans C⟩;refine⟨λ_=>List.any_eq_true.2 ⟨_,getD_mem' 0 cs u,h⟩,λ_=>om⟩
  refine ρ ?_;refine Qw (k+1) sB ⟨om,λj hj=>?_,o.trans C⟩ om;by_cases e:j=k
  .rw[e];exact h
  exact U j om
 have a1:k=cs.length:=by have:=oF h;omega
 refine ρ ?_;refine Jj ⟨⟨-1,rfl,?_⟩,o⟩;refine⟨λh=>om,λh=>?_⟩;obtain⟨x,Z,D⟩:=List.any_eq_true.1 h;obtain⟨i,hi,rfl⟩:=List.getElem_of_mem Z;have:=U i om;rw[Qq 0 cs hi,D]at this;cases this
theorem Xqq{w:World}(h:NtsV w v cs)(hT:Qvx w fv cs pr):
  Ret prog 94 [v,fv] w λx w'=>x=.bool (cs.any pr)/\Ext w w':=by
 refine enE func94 ntmps94 ?_;refine clR (Qtd h hT) ?_;rintro x o ⟨⟨k,rfl,j⟩,i⟩;refine ρ ?_;refine Jj ⟨?_,i⟩;rw[show decide (0<=k)=cs.any pr by rw[Bool.eq_iff_iff,decide_eq_true_iff,j]]
theorem Xqz{w:World}{x:Nat}(h:NtsV w v cs)(hk:Blk w b 26 [v])(hxb:x<=9223372036854775807):
  Ret prog 95 [.int .i64 (x:Int),.pointer (some ⟨b,0,none⟩)] w λr w'=>r=.bool (decide (cs.length<=x))/\Ext w w':=by
 obtain⟨A,c,rfl,u,o,j,C⟩:=h;refine enE func95 ntmps95 ?_;refine kfR 6 ?_ ?_
 .exact dF om
 refine ldR (hk.at (i:=0) rfl) ?_;refine ρ ?_;refine Jj ⟨?_,Ext.refl w⟩;rw[show decide ((cs.length:Int)<=(x:Int))=decide (cs.length<=x) by rw[Bool.eq_iff_iff,decide_eq_true_iff,decide_eq_true_iff];omega]
def unR(cs:List Nat)(r:Row): Nat->Row
 | 0=>List.replicate r.length V0
 | k+1=>(unR cs r k).set (cs.getD k 0) (r.getD k V0)
theorem Gs(cs:List Nat)(r:Row): ∀ k,(unR cs r k).length=r.length
 | 0=>by simp[unR]
 | k+1=>by simp[unR,Gs cs r k]
structure PerV(w:World)(x:Value)(L:List Row)(B:Nat)(cs:List Nat): Prop where
 ex:∃ v vc,x=.agg #[v,vc]/\ArrW w v L B/\NtsV w vc cs
 ok:∀ c∈cs,c<cs.length
 rows:∀ r∈L,r.length=cs.length
 back:∀ r∈L,unR cs (pmR cs r) cs.length=r
theorem PerV.ext{w w':World}{x:Value}{L:List Row}{B:Nat}{cs:List Nat}(h:PerV w x L B cs)(hx:Ext w w'): PerV w' x L B cs:=by
 obtain⟨⟨v,vc,D,C,u⟩,o,j,i⟩:=h;exact⟨⟨v,vc,D,C.ext hx,u.ext hx⟩,o,j,i⟩
theorem Qmd{w:World}(h:PerV w x L B cs): Ret prog 299 [x] w λx w'=>NatV w' x L.length/\Ext w w':=by
 obtain⟨⟨v,vc,rfl,D,Z⟩,h5,h6,h7⟩:=h;obtain⟨t,y,rfl⟩:=D.form;obtain⟨_,_,_,rfl⟩:=Z.slc;have hs:=D.small;refine enE func299 ntmps299 ?_;refine bxR ?_;intro G b1 i U C;refine ldR (C.at rfl) ?_;refine ρ ?_;obtain⟨f,rv,J,O⟩:=D.len;refine inv J (O G i) ?_;rintro x w2 ⟨hn,o⟩;refine clR (Ig hn (Yd om)) ?_;rintro x w3 ⟨u,j⟩;refine ρ ?_;exact Jj ⟨u,(i.trans o).trans j⟩
theorem Qmf{w:World}(h:PerV w x L B cs)(hk:NatV w vk k)(hkb:k<9223372036854775808): Ret prog 298 [x,vk] w λx w'=>AyR w' (L.map (pmR cs)) B k x/\Ext w w':=by
 obtain⟨⟨v,vc,rfl,h2,h3⟩,h5,h6,h7⟩:=h;obtain⟨t,y,rfl⟩:=h2.form;obtain⟨C,cc,rfl,ap,ao,am,aq⟩:=id h3;have hs:=h2.small;have ar:=h2.bd;refine enE func298 ntmps298 ?_;refine bxR ?_;intro w1 b1 a6 au af;refine drR [(0,0),(0,1),(0,2),(0,4),(0,5),(1,3),(1,6),(0,7),(0,8),(0,9),(0,10),(0,11),(0,12),(0,13)] ?_;have G:Ext w1 w1.drew:=(Ext.refl w1).drew;refine Jz ((af.ext G).at (i:=0) rfl) ?_;refine ρd ?_;refine dnci ?_;refine Jg (Ig ((hk.ext a6).ext G) (Yd om)) ?_;rintro x w2 ⟨ai,U⟩;refine⟨U,?_⟩;obtain⟨f,rv,hm,hf⟩:=h2.at_;refine Jjc hm (hf w2 ((a6.trans G).trans U) k x ai hkb) ?_;rintro y w3 ⟨hA,a5⟩;refine⟨a5,?_⟩;have a1:Ext w w3:=((a6.trans G).trans U).trans a5;have ae:=((af.ext G).ext U).ext a5;unfold AyR at hA;split at hA
 .rename_i hlt;obtain⟨vr,s,rfl,hr,a7⟩:=hA;have a8:(L.getD k []).length=cs.length:=h6 _ (getD_mem' [] L hlt);obtain⟨A,ac,rfl,aw,av,an⟩:=id hr;generalize hrr:L.getD k []=r at *
  refine ρd ?_;refine ldR (ae.at (i:=1) rfl) ?_;refine cfR ?_ ?_
  .exact Jcl om
  refine ρ ?_;refine mkn EV r.length om (by unfold maxLen;omega) ?_;intro w4 O aa ad hO;rw[Jwc]at ad;have ab:Xl w4 w3.heap.size (.slice O r.length r.length) ([]++List.replicate r.length V0):=by
   rw[Xl,List.nil_append,List.length_replicate];exact ad
  refine ldR ((ae.ext aa).at (i:=1) rfl) ?_;refine ρ ?_;refine Qv (fun (i:Nat)=>[(2,.pointer (some ⟨b1,0,none⟩)),(7,.slice A r.length ac),(8,.int .i64 (s:Int)),(10,.slice O r.length r.length),(39,.slice C cs.length cc),(40,.int .i64 (cs.length:Int)),(41,.int .i64 (i:Int))])
   (λi w'=>i<=cs.length/\Ext w3 w'/\Xl w' w3.heap.size (.slice O r.length r.length) ((pmR cs r).take i++List.replicate (r.length-i) V0)) (λi=>cs.length-i) 0 sB
   ⟨Nat.zero_le _,aa,ab⟩ ?_
  rintro i w5 ⟨hi,a4,D⟩;have J:((pmR cs r).take i++List.replicate (r.length-i) V0).length=r.length:=by simp[Qf];omega
  rw[Xl,J]at D;have Z:=a1.trans a4;refine ciR (λh0=>?_) (λh0=>?_)
  .have o:i<cs.length:=by have:=oT h0;omega
   have a2:=am.ext Z;have a3:RdR w5 A r:=Rd.ext an a4;have hc:=h5 _ (getD_mem' 0 cs o);have lc:cs.getD i 0<r.length:=om
   have li:i<r.length:=om
   refine ixR i a2 o ?_;refine ldR (a2.cell (Xf o)) ?_;refine Qs 3 (cs.getD i 0) a3 lc ?_;refine Jt (λj u hu=>RdR.cell a3 lc hu) ?_;refine Qs 3 i (Rd.own D) li ?_;refine ρ ?_;refine Jkv (cs:=(r.getD (cs.getD i 0) V0).cells) D li ?_ (V.one _);intro w6 ah ak;have ag:Ext w3 w6:=Qh a4 ak (λk hk=>by
    obtain⟨_,_,e,_,hf⟩:=Jv D;exact(hf k hk).1)
   refine ρ ?_;refine Qw (i+1) sB ⟨om,ag,?_⟩ om;have e:((pmR cs r).take i++List.replicate (r.length-i) V0).set i (r.getD (cs.getD i 0) V0)=(pmR cs r).take (i+1)++List.replicate (r.length-(i+1)) V0:=by
    have hl:((pmR cs r).take i).length=i:=by simp[Qf];omega
    rw[List.set_append_right _ _ om,hl,Nat.sub_self,show r.length-i=(r.length-(i+1))+1 by omega,List.replicate_succ,List.set_cons_zero,List.take_succ_eq_append_getElem (by rw[Qf];omega),List.append_assoc];rw[<-Jbd o,Qq V0 _ (by rw[Qf];omega)];rfl
   have a9:((pmR cs r).take (i+1)++List.replicate (r.length-(i+1)) V0).length=r.length:=by rw[<-e];simp[Qf];omega
   rw[Xl,a9,<-e,Jwd _ _ _ (by rw[J];omega)];exact ah
  have aj:i=cs.length:=by have:=oF h0;omega
  subst aj;have e:(pmR cs r).take cs.length++List.replicate (r.length-cs.length) V0=pmR cs r:=by
   rw[a8,Nat.sub_self,List.replicate_zero,List.append_nil,List.take_of_length_le (by rw[Qf];omega)]
  rw[e]at D;refine ρ ?_;refine Zz ⟨?_,Z⟩;unfold AyR;rw[if_pos (by simpa using hlt)];have e2:(L.map (pmR cs)).getD k []=pmR cs r:=by
   rw[Qq [] _ (by simpa using hlt),List.getElem_map,<-Qq [] L hlt,hrr]
  rw[e2];refine⟨_,s,rfl,⟨O,r.length,by rw[Qf,a8],by rw[Qf];omega,by rw[Qf];omega,?_⟩,a7⟩;have:=Rd.own D;rw[RdR,Qf,<-a8];exact this
 rename_i hlt;obtain⟨s,rfl,a7⟩:=hA;refine ρd ?_;refine ρ ?_;refine Zz ⟨?_,a1⟩;unfold AyR;rw[if_neg (by simpa using hlt)];exact⟨s,rfl,a7⟩
theorem Qmc{r:Row}{w:World}(h:PerV w x L B cs)(hr:RowV w vr r)(hrl:r.length=cs.length)(hi0:i0<L.length)(hre:unR cs r cs.length=L.getD i0 []):
  Ret prog 300 [x,vr] w λx w'=>(∃ vn,∃ s:Nat,x=.tuple #[vn,.bool true,.int .i64 (s:Int),.int .i64 0]/\NatV w' vn i0/\s<=B)/\Ext w w':=by
 obtain⟨⟨v,vc,rfl,h2,h3⟩,h5,h6,h7⟩:=h;obtain⟨t,y,rfl⟩:=h2.form;obtain⟨C,cc,rfl,aj,ai,ag,ak⟩:=id h3;obtain⟨A,ac,rfl,ap,ao,ah⟩:=id hr;have hs:=h2.small;have am:=h2.bd;refine enE func300 ntmps300 ?_;refine bxR ?_;intro w3 b1 a4 an a2;refine ldR (a2.at (i:=1) rfl) ?_;refine cfR ?_ ?_
 .exact Jcl om
 refine ρ ?_;refine mkn EV r.length om (by unfold maxLen;omega) ?_;intro w4 O a3 a6 hO;rw[Jwc]at a6;have a5:Xl w4 w3.heap.size (.slice O r.length r.length) (unR cs r 0):=by
  rw[Xl,unR,List.length_replicate];exact a6
 refine ldR ((a2.ext a3).at (i:=1) rfl) ?_;refine ρ ?_;refine Qv (fun (i:Nat)=>[(1,.slice A r.length ac),(2,.pointer (some ⟨b1,0,none⟩)),(8,.slice O r.length r.length),(25,.slice C cs.length cc),(26,.int .i64 (cs.length:Int)),(27,.int .i64 (i:Int))])
  (λi w'=>i<=cs.length/\Ext w3 w'/\Xl w' w3.heap.size (.slice O r.length r.length) (unR cs r i)) (λi=>cs.length-i) 0 sB
  ⟨Nat.zero_le _,a3,a5⟩ ?_
 rintro i w5 ⟨hi,a1,D⟩;rw[Xl,Gs]at D;have o:=a4.trans a1;refine ciR (λh0=>?_) (λh0=>?_)
 .have G:i<cs.length:=by have:=oT h0;omega
  have J:=ag.ext o;have U:RdR w5 A r:=Rd.ext ah o;have hc:=h5 _ (getD_mem' 0 cs G);have lc:cs.getD i 0<r.length:=om
  have li:i<r.length:=om
  refine ixR i J G ?_;refine ldR (J.cell (Xf G)) ?_;refine Qs 3 i U li ?_;refine Jt (λj u hu=>RdR.cell U li hu) ?_;refine Qs 3 (cs.getD i 0) (Rd.own D) lc ?_;refine ρ ?_;refine Jkv (cs:=(r.getD i V0).cells) D lc ?_ (V.one _);intro w6 aa af;have Z:Ext w3 w6:=Qh a1 af (λk hk=>by
   obtain⟨_,_,e,_,hf⟩:=Jv D;exact(hf k hk).1)
  refine ρ ?_;refine Qw (i+1) sB ⟨om,Z,?_⟩ om;rw[Xl,Gs,unR,Jwd _ _ _ (by rw[Gs];omega)];exact aa
 have ae:i=cs.length:=by have:=oF h0;omega
 subst ae;refine ldR ((a2.ext a1).at (i:=0) rfl) ?_;refine ρ ?_;have a9:RowV w5 (.slice O r.length r.length) (unR cs r cs.length):=⟨O,r.length,by rw[Gs],by rw[Gs];omega,by rw[Gs];omega,by rw[RdR,Gs];exact Rd.own D⟩;obtain⟨f,rv,hm,hf⟩:=h2.rank;refine inv hm (hf w5 o i0 _ hi0 (hre ▸ a9)) ?_;rintro y w6 ⟨⟨vn,s,rfl,ad,a8⟩,Z⟩;refine clR (Ig ad (Yd om)) ?_;rintro x7 w7 ⟨ab,a7⟩;refine ρ ?_;exact Kt ⟨⟨x7,s,rfl,ab,a8⟩,(o.trans Z).trans a7⟩
theorem Qrg(x y:Value): Zw prog (.iface 183 (.agg #[x,y])) "Len" 299 (.agg #[x,y]):=⟨_,_,rfl,λw=>kr,λw=>kr⟩
theorem Qrh(x y:Value): Zw prog (.iface 183 (.agg #[x,y])) "At" 298 (.agg #[x,y]):=⟨_,_,rfl,λw=>kr,λw=>kr⟩
theorem Qrf(x y:Value): Zw prog (.iface 183 (.agg #[x,y])) "Rank" 300 (.agg #[x,y]):=⟨_,_,rfl,λw=>kr,λw=>kr⟩
theorem PerV.aw{w:World}(h:PerV w x L B cs): ArrW w (.iface 183 x) (L.map (pmR cs)) B:=by
 obtain⟨⟨v,vc,rfl,D,h3⟩,h5,Z,J⟩:=id h;refine⟨⟨_,_,Qrg _ _,λw' o=>by rw[List.length_map];exact Qmd (h.ext o)⟩,⟨_,_,Qrh _ _,λw' o k U G u=>Qmf (h.ext o) G u⟩,⟨_,_,Qrf _ _,λw' o i O hi C=>?_⟩,by simpa using D.small,D.bd⟩;have j:i<L.length:=by simpa using hi
 have e:(L.map (pmR cs)).getD i []=pmR cs (L.getD i []):=by rw[Qq [] _ hi,List.getElem_map,<-Qq [] L j]
 rw[e]at C;exact Qmc (h.ext o) C (Qf _ _) j (J _ (getD_mem' [] L j))
theorem Xkf(x y:Value)(t:TypeId)(u:Value)(A:Option Addr)(n c:Nat)(hx:x=.iface t u)(hy:y=.slice A n c)(w:World): (Instr.build 183 #[(0,x),(1,y)]).run prog w=.ok (.agg #[x,y]) w:=by subst hx;subst hy;kernel_rfl
def Ga(n:Nat)(l:List Nat): List Value:=(List.range n).map λc=>.bool (decide (c∈l))
theorem Jfd(n:Nat)(l:List Nat): (Ga n l).length=n:=by simp[Ga]
theorem Jkx(l:List Nat)(h:c<n): (Ga n l)[c]?=some (.bool (decide (c∈l))):=by simp[Ga,h]
theorem Qft(l:List Nat)(h:c<n): (Ga n l).set c (.bool true)=Ga n (l++[c]):=by
 apply List.ext_getElem?
 intro k;rw[List.getElem?_set,Jfd];by_cases e:c=k
 .subst e;rw[if_pos rfl,if_pos h,Jkx _ h];simp
 rw[if_neg e];by_cases hk:k<n
 .rw[Jkx _ hk,Jkx _ hk];have:(k∈l++[c])↔k∈l:=by simp;intro i;exact absurd i.symm e
  simp[this]
 rw[List.getElem?_eq_none (by rw[Jfd];omega),List.getElem?_eq_none (by rw[Jfd];omega)]
theorem Qvt{w:World}(h:ArrW w v L B)(hc:NtsV w vc cs)(h5:∀ c∈cs,c<cs.length)(hnd:cs.Nodup)(h6:∀ r∈L,r.length=cs.length)(h7:∀ r∈L,unR cs (pmR cs r) cs.length=r):
  Ret prog 47 [v,vc] w λx w'=>(∃ y,x=.tuple #[y,.int .i64 0]/\ArrW w' y (L.map (pmR cs)) B)/\Ext w w':=by
 obtain⟨t,y,rfl⟩:=h.form;obtain⟨C,cc,rfl,ai,af,a9,ab⟩:=id hc;refine enE func47 ntmps47 ?_;refine bxR ?_;intro w1 b1 U aj G;refine ρ ?_;refine Jzp ifA (.inr ⟨_,_,rfl⟩) ?_;refine ldR (G.at (i:=0) rfl) ?_;refine clR (Xqq (hc.ext U) (pr:=λx=>decide (cs.length<=x)) ⟨_,_,_,rfl,λw' hx x ad=>Xqz (hc.ext (U.trans hx)) (G.ext hx) (ab x ad)⟩) ?_;rintro x w2 ⟨rfl,D⟩;have ac:cs.any (λx=>decide (cs.length<=x))=false:=by
  rw[List.any_eq_false];intro x hx;have:=h5 x hx;simp;omega
 rw[ac];refine ldR ((G.ext D).at (i:=0) rfl) ?_;refine ρ ?_;refine mkn EB cs.length om (by unfold maxLen;omega) ?_;intro w3 O a3 a6 hO;have a5:w3.ownsRow w2.heap.size 4 1 (.slice O cs.length cs.length) cs.length (Ga cs.length (cs.take 0)):=by
  have e:(madeCells (Value.bool false).cells (cs.length*1)).toList=Ga cs.length (cs.take 0):=by
   rw[Nat.mul_one];refine(Yu _ _).trans ?_;simp only[Ga,List.take_zero,List.not_mem_nil,decide_false];rw[List.map_const',List.length_range]
  rw[e]at a6;exact a6
 have ah:=(U.trans D).trans a3;refine ldR (((G.ext D).ext a3).at (i:=0) rfl) ?_;refine ρ ?_;refine Qv (fun (k:Nat)=>[(0,.iface t y),(3,.pointer (some ⟨b1,0,none⟩)),(6,.slice O cs.length cs.length),(17,.slice C cs.length cc),(18,.int .i64 (cs.length:Int)),(19,.int .i64 (k:Int))])
  (λk w'=>k<=cs.length/\Ext w2 w'/\w'.ownsRow w2.heap.size 4 1 (.slice O cs.length cs.length) cs.length (Ga cs.length (cs.take k))) (λk=>cs.length-k) 0 sB ⟨Nat.zero_le _,a3,a5⟩ ?_
 rintro k w4 ⟨hk,a2,Z⟩;have u:=(U.trans D).trans a2;refine ciR (λh0=>?_) (λh0=>?_)
 .have o:k<cs.length:=by have:=oT h0;omega
  have J:=h5 _ (getD_mem' 0 cs o);have a1:=a9.ext u;have a7:¬ cs.getD k 0∈cs.take k:=by
   intro hm;obtain⟨j,hj,he⟩:=List.getElem_of_mem hm;have ae:j<k:=by simp at hj;omega
   rw[List.getElem_take,Qq 0 cs o]at he;exact List.pairwise_iff_getElem.1 hnd j k om o ae he
  refine ixR k a1 o ?_;refine ldR (a1.cell (Xf o)) ?_;refine ixR (cs.getD k 0) (Rd.own Z) J ?_;refine ldR ((Rd.own Z).cell (Jkx _ J)) ?_;rw[decide_eq_false a7];obtain⟨s1,s2,s3,s4,s5⟩:=Zm Z (q:=cs.getD k 0) om (.bool true);refine ixR (cs.getD k 0) (Rd.own Z) J ?_;refine Xk (s1.trans (Jkx _ J)) s2 ?_;refine ρ ?_;refine Qw (k+1) sB ⟨om,a2.setCell s4 _,?_⟩ om;rw[Qft _ J]at s3;rw[List.take_succ_eq_append_getElem o,<-Qq 0 cs o];exact s3
 refine ldR (((G.ext D).ext a2).at (i:=0) rfl) ?_;refine clR (Xxw (a9.ext u) (Qsw cs) om) ?_;rintro x5 w5 ⟨⟨C',ag,rfl,aa,a8⟩,a4⟩;refine Xo (Xkf _ _ _ _ _ _ _ rfl rfl _) ?_;refine ρ ?_;refine mki underlying183 (λms e=>by cases e) ?_;refine ρ ?_;exact Zs ⟨⟨_,rfl,PerV.aw ⟨⟨_,_,rfl,h.ext (u.trans a4),C',ag,rfl,aa,af,a8,ab⟩,h5,h6,h7⟩⟩,u.trans a4⟩
theorem Jwn(h:n<=9223372036854775807)(w:World): Ret prog 42 [.int .i64 (n:Int)] w λx w'=>NatV w' x n/\Ext w w':=by
 refine enE func42 ntmps42 ?_;refine ρ ?_;rw[if_neg (show¬ (n:Int)<0 by omega),Vr (z:=(n:Int)) om];refine cl (Ge n om _) ?_;rintro x j ⟨hn,i⟩;refine ρ ?_;exact Jj ⟨hn,i⟩
theorem Qqz{w:World}(h:ArrW w v L B)(hl:RowsV w vl L): Ret prog 44 [v,vl] w λx w'=>x=.bool true/\Ext w w':=by
 obtain⟨fl,rl,ac,ao⟩:=h.len;obtain⟨fa,ra,O,ad⟩:=h.at_;obtain⟨fr,rr,ab,an⟩:=h.rank;obtain⟨t,y,rfl⟩:∃ t y,v=.iface t y:=by obtain⟨t,y,e,_⟩:=ac;exact⟨t,y,e⟩
 obtain⟨A,c,rfl,hc,hm,cs,J,ap⟩:=hl.parts;have au:=h.bd;refine enE func44 ntmps44 ?_;refine ρ ?_;refine Jzp ifA (.inr ⟨_,_,rfl⟩) ?_;refine ρ ?_;refine inv ac (ao w (Ext.refl w)) ?_;rintro x w1 ⟨am,af⟩;refine clR (Jwn (n:=L.length) om _) ?_;rintro x2 w2 ⟨ak,a6⟩;refine clR (Va (am.ext a6) ak) ?_;rintro z w3 ⟨rfl,ae⟩;rw[cmq_eq.2 rfl];have a8:=(af.trans a6).trans ae;refine ρ ?_;refine Qv (fun (k:Nat)=>[(0,.iface t y),(1,.slice A L.length c),(28,.int .i64 (L.length:Int)),(29,.int .i64 (k:Int))])
  (λk w'=>k<=L.length/\Ext w w') (λk=>L.length-k) 0 sB ⟨Nat.zero_le _,a8⟩ ?_
 rintro k w4 ⟨hk,a5⟩;refine ciR (λh0=>?_) (λh0=>?_)
 .have G:k<L.length:=by have:=oT h0;omega
  obtain⟨u,hu,aa⟩:=ap k G;refine drR [(0,0),(0,1),(0,3),(0,4),(0,5),(1,2),(1,6),(0,7),(0,8),(0,9),(0,10),(0,11),(0,12),(0,13)] ?_;have U:Ext w4 w4.drew:=(Ext.refl w4).drew;refine ρd ?_;refine Jvj O ?_;refine Jg (Jwn (n:=k) om _) ?_;rintro x5 w5 ⟨a1,D⟩;refine⟨D,?_⟩;have j:=(a5.trans U).trans D;refine Jjc O (ad w5 j k x5 a1 om) ?_;rintro x6 w6 ⟨hA,C⟩;refine⟨C,?_⟩;unfold AyR at hA;rw[if_pos G]at hA;obtain⟨vr,s,rfl,ah,ag⟩:=hA;have a7:=j.trans C;refine ρd ?_;refine drR (scq 18 [8]) ?_;have a2:Ext w6 w6.drew:=(Ext.refl w6).drew;have i:=a7.trans a2;refine Jc k (J.ext i) G ?_;refine Jz ((J.ext i).cell hu) ?_;refine ρd ?_;refine Jvj ab ?_;refine ρd ?_;refine Jjc ab (an w6.drew i k u G (aa.ext i)) ?_;rintro x7 w7 ⟨⟨vn,s2,rfl,aj,ar⟩,Z⟩;refine⟨Z,?_⟩;have o:=i.trans Z;refine ρd ?_;refine kfR 67 ?_ ?_
  .exact dF om
  refine kfR 71 ?_ ?_
  .exact dF om
  refine ixR k (J.ext o) G ?_;refine ldR ((J.ext o).cell hu) ?_;refine clR (Jfh (ah.ext (a2.trans Z)) (aa.ext o)) ?_;rintro x8 w8 ⟨rfl,a4⟩;rw[decide_eq_true (rfl:L.getD k []=L.getD k [])];refine clR (Jwn (n:=k) om _) ?_;rintro x9 w9 ⟨ai,a3⟩;refine clR (Va ((aj.ext a4).ext a3) ai) ?_;rintro z aq ⟨rfl,a9⟩;rw[cmq_eq.2 rfl];refine ρ ?_;exact Qw (k+1) sB ⟨om,((o.trans a4).trans a3).trans a9⟩ om
 refine drR [(0,0),(0,1),(0,2),(0,4),(0,5),(0,6),(1,3),(1,7),(0,8),(0,9),(0,10),(0,11),(0,12),(0,13),(0,14)] ?_;have U:Ext w4 w4.drew:=(Ext.refl w4).drew;refine ρd ?_;refine Jvj O ?_;refine Jg (Jwn (n:=L.length) om _) ?_;rintro x5 w5 ⟨a1,D⟩;refine⟨D,?_⟩;have j:=(a5.trans U).trans D;refine Jjc O (ad w5 j L.length x5 a1 om) ?_;rintro x6 w6 ⟨hA,C⟩;refine⟨C,?_⟩;unfold AyR at hA;rw[if_neg om]at hA;obtain⟨s,rfl,ag⟩:=hA;refine ρd ?_;refine ρ ?_;exact Jj ⟨rfl,j.trans C⟩
open Go.RowKit Pl Go.Wk _root_.Go.Proofs.Tryz
def ayV(n:Int): V:=⟨1,n,⟨#[]⟩⟩
theorem ayBld(n:Int)(w:World): (Instr.build 147 #[(0,.int .i64 1),(1,.int .i64 n)]).run prog w=.ok (ayV n).val w:=kr
theorem Zd(n:Int)(w:World): Ret prog 91 [.int .i64 n] w λx w'=>x=(ayV n).val/\Ext w w':=by
 refine enE func91 ntmps91 ?_;refine Jb (cs:=[.int .i64 0,.int .i64 0,.string ⟨#[]⟩]) Gj ?_;intro J b j C u;refine Xo (ayBld n _) ?_;refine Qb u (cs':=(ayV n).cells) ?_ (V.one _);intro G o D i;refine ρ ?_;exact Kx o ⟨rfl,i w j C⟩
theorem Vq(a b:V)(w:World): (Instr.buildSlice 59 2 #[(0,a.val),(1,b.val)]).run prog w=.ok (.slice (some ⟨w.heap.size,0,none⟩) 2 2) (w.alloc (.cells (Jr [a,b]).toArray 147)):=kr
theorem ay3R(v1 v2 v3:Value)(A1 A2 A3:Option Addr)(n1 n2 n3 c1 c2 c3:Nat)(h1:v1=.slice A1 n1 c1)(h2:v2=.slice A2 n2 c2)(h3:v3=.slice A3 n3 c3)(w:World): (Instr.buildSlice 95 3 #[(0,v1),(1,v2),(2,v3)]).run prog w=.ok (.slice (some ⟨w.heap.size,0,none⟩) 3 3) (w.alloc (.cells [v1,v2,v3].toArray 59)):=by
 subst h1;subst h2;subst h3;kernel_rfl
theorem ay2R(v1 v2:Value)(A1 A2:Option Addr)(n1 n2 c1 c2:Nat)(h1:v1=.slice A1 n1 c1)(h2:v2=.slice A2 n2 c2)(w:World): (Instr.buildSlice 95 2 #[(0,v1),(1,v2)]).run prog w=.ok (.slice (some ⟨w.heap.size,0,none⟩) 2 2) (w.alloc (.cells [v1,v2].toArray 59)):=by
 subst h1;subst h2;kernel_rfl
theorem ay2I(a b:Int)(w:World): (Instr.buildSlice 26 2 #[(0,.int .i64 a),(1,.int .i64 b)]).run prog w=.ok (.slice (some ⟨w.heap.size,0,none⟩) 2 2) (w.alloc (.cells [Value.int .i64 a,.int .i64 b].toArray 3)):=kr
theorem RowsA.cells{w:World}{v:Value}{ds:List Bool}{m:List Row}(h:RowsA w v ds m): ∃ v1 v2,v=.agg #[v1,v2]/\(∀ u∈[v1,v2],u.oneCell'=true):=by
 obtain⟨v1,v2,rfl,o,j⟩:=h;obtain⟨_,_,_,rfl⟩:=o.slc;obtain⟨_,_,_,rfl⟩:=j.slc;exact⟨_,_,rfl,λu i=>by simp at i;rcases i with rfl|rfl<;>rfl⟩
def ay1: Row:=[ayV 2,ayV 1]
def ay2: Row:=[ayV 1,ayV 5]
theorem aySet: IsSet [] [ay1,ay2,ay1] [ay2,ay1]:=by
 refine⟨?_,λx=>by simp;exactλh=>.inr h⟩;unfold Lt;rw[List.pairwise_cons];exact⟨λa i=>by simp at i;subst i;decide,List.pairwise_singleton _ _⟩
theorem Jmp(w:World): Ret prog 38 [] w λx w'=>x=.bool true/\Ext w w':=by
 refine enE func38 ntmps38 ?_;refine clR (Zd 2 _) ?_;rintro _ w1 ⟨rfl,cj⟩;refine clR (Zd 1 _) ?_;rintro _ w2 ⟨rfl,ch⟩;refine Qk (Vq _ _) ?_;intro w3 b3 cg dg cn;refine clR (Zd 1 _) ?_;rintro _ w4 ⟨rfl,bq⟩;refine clR (Zd 5 _) ?_;rintro _ w5 ⟨rfl,bp⟩;refine Qk (Vq _ _) ?_;intro w6 b6 bo df cm;refine clR (Zd 2 _) ?_;rintro _ w7 ⟨rfl,bc⟩;refine clR (Zd 1 _) ?_;rintro _ w8 ⟨rfl,bb⟩;refine Qk (Vq _ _) ?_;intro w9 b9 ba de ck;refine Qk (ay3R _ _ _ _ _ _ _ _ _ _ _ _ rfl rfl rfl) ?_;intro ak cv a9 d2 c7;have be:RowsV ak (.slice (some ⟨cv,0,none⟩) 3 3) [ay1,ay2,ay1]:=by
  have h3:Ext w3 ak:=(((((bq.trans bp).trans bo).trans bc).trans bb).trans ba).trans a9;have h6:Ext w6 ak:=((bc.trans bb).trans ba).trans a9;refine Jgz [(.slice (some ⟨b3,0,none⟩) 2 2,ay1),(.slice (some ⟨b6,0,none⟩) 2 2,ay2),(.slice (some ⟨b9,0,none⟩) 2 2,ay1)] c7 (λp hp=>?_) (by simp);simp only[List.mem_cons,List.not_mem_nil,or_false]at hp;rcases hp with rfl|rfl|rfl
  .exact Il (r:=ay1) (cn.ext h3) (by decide)
  .exact Il (r:=ay2) (cm.ext h6) (by decide)
  exact Il (r:=ay1) (ck.ext a9) (by decide)
 refine clR (Qnl be (BoolsV.nil ak none 0) (by decide)) ?_;rintro va bn ⟨⟨m,hA,bv,_⟩,bu⟩;have hm:m=[ay2,ay1]:=bv.uniq aySet;subst hm;obtain⟨u1,u2,rfl,bw⟩:=hA.cells;refine Jb (cs:=[.slice none 0 0,.slice none 0 0]) Jnd ?_;intro dd di bt c8 c6;refine Qb c6 (cs':=[u1,u2]) ?_ bw;intro bm ag cx bs;have a8:Ext bn bm:=bs bn bt c8;have bd:Ext w bm:=(((((((((((cj.trans ch).trans cg).trans bq).trans bp).trans bo).trans bc).trans bb).trans ba).trans a9).trans bu).trans a8);have ah:=rowsW (hA.ext a8) aySet.1 (by decide);refine Jt (λj u hu=>ag.at hu) ?_;refine ρ ?_;refine mki underlying125 (λms e=>by cases e) ?_;refine clR (Qvs ah) ?_;rintro vb aj ⟨hB,rfl⟩;obtain⟨tb,yb,rfl⟩:=hB.form;refine ρ ?_;refine Jzp ifA (.inr ⟨_,_,rfl⟩) ?_;refine drR [(0,0),(0,4),(0,5),(0,6),(1,1),(1,2),(1,3),(1,7),(0,8),(0,9),(0,10),(0,11),(0,12),(0,13),(0,14),(0,15),(0,16)] ?_;have ce:Ext aj aj.drew:=(Ext.refl aj).drew
 obtain⟨fr,rr,c1,co⟩:=hB.rank;refine ρd ?_;refine Jvj c1 ?_;refine Jg (Zd 1 _) ?_;rintro _ dc ⟨rfl,b5⟩;refine⟨b5,?_⟩;refine dcl (Zd 5 _) ?_;rintro _ db ⟨rfl,az⟩;refine⟨az,?_⟩;refine Ut (Vq _ _) ?_;intro bl dh br d1 c5;have a7:Ext aj bl:=((ce.trans b5).trans az).trans br;refine Jjc c1 (co bl a7 1 _ (by decide) (Il (r:=ay2) c5 (by decide))) ?_;rintro _ cd ⟨⟨vn,s,rfl,c0,cw⟩,ay⟩;refine⟨ay,?_⟩;have a6:=a7.trans ay;refine ρd ?_;refine Jt (λj u hu=>(ag.ext a6).at hu) ?_;refine ρ ?_;refine mki underlying125 (λms e=>by cases e) ?_;refine Qk (ay2I _ _) ?_;intro da cr ax d0 c4;have a5:=a6.trans ax;refine clR (Qvt (cs:=[1,0]) (ah.ext a5) ⟨some ⟨cr,0,none⟩,2,rfl,by decide,by decide,c4.rd rfl,by decide⟩ (by decide) (by decide) (by decide) (by decide)) ?_;rintro _ ai ⟨⟨vc,rfl,hC⟩,aw⟩;have a4:=a5.trans aw;refine ρ ?_;refine drG kr ?_;have b8:Ext ai ai.drew:=(Ext.refl ai).drew
 have ad:=a4.trans b8;refine Vk (fuel':=35) [(0,0),(0,1),(1,2),(1,3)] (lst 39 4) kr kr rfl ?_;refine dlds (λj u hu=>(ag.ext ad).at hu) ?_;refine dmki underlying125 (λms e=>by cases e) ?_;refine dcl (Zd 1 _) ?_;rintro _ d9 ⟨rfl,a2⟩;refine⟨a2,?_⟩;refine dcl (Zd 5 _) ?_;rintro _ cc ⟨rfl,a1⟩;refine⟨a1,?_⟩;refine Zf (Vw ?_);have ao:=(ad.trans a2).trans a1;refine gcut 31 (lst 39 8) (fun (x:Nat×Nat)=>[(3,vn),(4,.bool true),(6,.int .i64 0),(7,vc),(8,.int .i64 0),(46,.iface 125 (.agg #[u1,u2])),(49,.slice (some ⟨x.1,0,none⟩) 2 2),(52,.slice (some ⟨x.2,0,none⟩) 2 2)])
  (λx w'=>Ext cc w'/\Blk w' x.1 147 (Jr ay2)/\Blk w' x.2 147 (Jr ay1)) ?_ ?_
 .rintro⟨J,b7⟩ d8 ⟨ac,bi,bh⟩;refine Vk (fuel':=8) [(1,8),(1,9),(0,10),(0,11),(0,12),(0,13),(0,14),(0,15),(0,16),(0,17),(0,18),(1,19),(1,20),(0,21),(0,22),(0,23),(0,24),(0,25),(0,26),(0,27),(0,28),(1,29),(1,30)] (lst 39 31) kr kr rfl ?_;refine Ut (ay2R _ _ _ _ _ _ _ _ rfl rfl) ?_;intro cb cq O cz c3;have af:RowsV cb (.slice (some ⟨cq,0,none⟩) 2 2) [ay2,ay1]:=by
   refine Jgz [(.slice (some ⟨J,0,none⟩) 2 2,ay2),(.slice (some ⟨b7,0,none⟩) 2 2,ay1)] c3 (λp hp=>?_) (by simp);simp only[List.mem_cons,List.not_mem_nil,or_false]at hp;rcases hp with rfl|rfl
   .exact Il (r:=ay2) (bi.ext O) (by decide)
   exact Il (r:=ay1) (bh.ext O) (by decide)
  have an:=(ao.trans ac).trans O;refine dcl (Qqz (ah.ext an) af) ?_;rintro _ d7 ⟨rfl,ab⟩;refine⟨ab,?_⟩;refine Jg (Jwn (n:=1) om _) ?_;rintro _ ca ⟨bz,aa⟩;refine⟨aa,?_⟩;have am:Ext cd ca:=(((((((ax.trans aw).trans b8).trans a2).trans a1).trans ac).trans O).trans ab).trans aa;refine Jg (Va (c0.ext am) bz) ?_;rintro _ d6 ⟨rfl,av⟩;refine⟨av,?_⟩;rw[cmq_eq.2 rfl];refine Jg (Zd 5 _) ?_;rintro _ d5 ⟨rfl,au⟩;refine⟨au,?_⟩;refine Jg (Zd 1 _) ?_;rintro _ bj ⟨rfl,ar⟩;refine⟨ar,?_⟩;refine Zf (Vw ?_);have a3:Ext ai bj:=((((((((b8.trans a2).trans a1).trans ac).trans O).trans ab).trans aa).trans av).trans au).trans ar;refine gcut 4 (lst 39 35) (fun (x:Nat×Nat)=>[(7,vc),(72,.bool true),(73,vc),(76,.slice (some ⟨x.1,0,none⟩) 2 2),(79,.slice (some ⟨x.2,0,none⟩) 2 2)])
   (λx w'=>Ext bj w'/\Blk w' x.1 147 (Jr [ayV 5,ayV 1])/\Blk w' x.2 147 (Jr [ayV 1,ayV 2])) ?_ ?_
  .rintro⟨J,b7⟩ d4 ⟨aq,bi,bh⟩;refine Vk (fuel':=0) [(1,35),(1,36),(0,37),(0,38)] (lst 39 39) kr kr rfl ?_;refine ρd ?_;refine Ut (ay2R _ _ _ _ _ _ _ _ rfl rfl) ?_;intro c9 cp Z cy c2;have ae:RowsV c9 (.slice (some ⟨cp,0,none⟩) 2 2) ([ay2,ay1].map (pmR [1,0])):=by
    refine Jgz [(.slice (some ⟨J,0,none⟩) 2 2,[ayV 5,ayV 1]),(.slice (some ⟨b7,0,none⟩) 2 2,[ayV 1,ayV 2])] c2 (λp hp=>?_) (by simp);simp only[List.mem_cons,List.not_mem_nil,or_false]at hp;rcases hp with rfl|rfl
    .exact Il (r:=[ayV 5,ayV 1]) (bi.ext Z) (by decide)
    exact Il (r:=[ayV 1,ayV 2]) (bh.ext Z) (by decide)
   refine Jg (Qqz (hC.ext ((a3.trans aq).trans Z)) ae) ?_;rintro _ d3 ⟨rfl,ap⟩;refine⟨ap,?_⟩;refine ρd ?_;refine Vw ?_;refine gend kr ?_;refine ρ ?_;exact Jj ⟨rfl,(((bd.trans a4).trans a3).trans aq).trans (Z.trans ap)⟩
  intro rest;refine Io 31 32 kr rfl rfl rfl ?_ ?_
  .refine Qk (Vq _ _) ?_;intro v1 b1 D _ bg;refine Jf (Yv D ?_);refine Vk (fuel':=4) [(1,32),(1,33),(1,34)] (lst 39 35) kr kr rfl ?_;refine Jg (Zd 1 _) ?_;rintro _ v2 ⟨rfl,C⟩;refine⟨C,?_⟩;refine Jg (Zd 2 _) ?_;rintro _ v3 ⟨rfl,i⟩;refine⟨i,?_⟩;refine ρd ?_;refine Ut (Vq _ _) ?_;intro v4 J o _ G;refine Zf (Vw ?_);exact rest (b1,J) _ _ ⟨((D.trans C).trans i).trans o,((bg.ext C).ext i).ext o,G⟩ sB
  refine clR (Zd 1 _) ?_;rintro _ v1 ⟨rfl,D⟩;refine Jf (Yv D ?_);refine Io 31 33 kr rfl rfl rfl ?_ ?_
  .refine Qk (Vq _ _) ?_;intro v2 b2 C _ bf;refine Jf (Yv C ?_);refine Vk (fuel':=4) [(1,33),(1,34)] (lst 39 35) kr kr rfl ?_;refine Jg (Zd 2 _) ?_;rintro _ v3 ⟨rfl,i⟩;refine⟨i,?_⟩;refine ρd ?_;refine Ut (Vq _ _) ?_;intro v4 J o _ G;refine Zf (Vw ?_);exact rest (b2,J) _ _ ⟨((D.trans C).trans i).trans o,(bf.ext i).ext o,G⟩ sB
  refine clR (Zd 2 _) ?_;rintro _ v2 ⟨rfl,C⟩;refine Jf (Yv C ?_);refine Io 31 34 kr rfl rfl rfl ?_ ?_
  .refine Qk (Vq _ _) ?_;intro v3 b3 i _ U;refine Jf (Yv i ?_);refine Vk (fuel':=4) [(1,34)] (lst 39 35) kr kr rfl ?_;refine ρd ?_;refine Ut (Vq _ _) ?_;intro v4 J o _ G;refine Zf (Vw ?_);exact rest (b3,J) _ _ ⟨((D.trans C).trans i).trans o,U.ext o,G⟩ sB
  refine Qk (Vq _ _) ?_;intro v3 b3 i _ U;refine Jf (Yv i ?_);refine Vk (fuel':=4) [(1,31)] (lst 39 35) kr kr rfl ?_;refine ρd ?_;refine Ut (Vq _ _) ?_;intro v4 J o _ G;refine Zf (Vw ?_);exact rest (J,b3) _ _ ⟨((D.trans C).trans i).trans o,G,U.ext o⟩ sB
 intro rest;refine Io 4 5 kr rfl rfl rfl ?_ ?_
 .refine Qk (Vq _ _) ?_;intro v1 b1 D _ bg;refine Jf (Yv D ?_);refine Vk (fuel':=31) [(1,5),(1,6),(1,7)] (lst 39 8) kr kr rfl ?_;refine Jg (Zd 2 _) ?_;rintro _ v2 ⟨rfl,C⟩;refine⟨C,?_⟩;refine Jg (Zd 1 _) ?_;rintro _ v3 ⟨rfl,i⟩;refine⟨i,?_⟩;refine ρd ?_;refine Ut (Vq _ _) ?_;intro v4 J o _ G;refine Zf (Vw ?_);exact rest (b1,J) _ _ ⟨((D.trans C).trans i).trans o,((bg.ext C).ext i).ext o,G⟩ sB
 refine clR (Zd 2 _) ?_;rintro _ v1 ⟨rfl,D⟩;refine Jf (Yv D ?_);refine Io 4 6 kr rfl rfl rfl ?_ ?_
 .refine Qk (Vq _ _) ?_;intro v2 b2 C _ bf;refine Jf (Yv C ?_);refine Vk (fuel':=31) [(1,6),(1,7)] (lst 39 8) kr kr rfl ?_;refine Jg (Zd 1 _) ?_;rintro _ v3 ⟨rfl,i⟩;refine⟨i,?_⟩;refine ρd ?_;refine Ut (Vq _ _) ?_;intro v4 J o _ G;refine Zf (Vw ?_);exact rest (b2,J) _ _ ⟨((D.trans C).trans i).trans o,(bf.ext i).ext o,G⟩ sB
 refine clR (Zd 1 _) ?_;rintro _ v2 ⟨rfl,C⟩;refine Jf (Yv C ?_);refine Io 4 7 kr rfl rfl rfl ?_ ?_
 .refine Qk (Vq _ _) ?_;intro v3 b3 i _ U;refine Jf (Yv i ?_);refine Vk (fuel':=31) [(1,7)] (lst 39 8) kr kr rfl ?_;refine ρd ?_;refine Ut (Vq _ _) ?_;intro v4 J o _ G;refine Zf (Vw ?_);exact rest (b3,J) _ _ ⟨((D.trans C).trans i).trans o,U.ext o,G⟩ sB
 refine Qk (Vq _ _) ?_;intro v3 b3 i _ U;refine Jf (Yv i ?_);refine Vk (fuel':=31) [(1,4)] (lst 39 8) kr kr rfl ?_;refine ρd ?_;refine Ut (Vq _ _) ?_;intro v4 J o _ G;refine Zf (Vw ?_);exact rest (J,b3) _ _ ⟨((D.trans C).trans i).trans o,G,U.ext o⟩ sB
open Go.RowKit Pl Go.Wk
variable {B0 f i k pc:Nat}{q r:Row}
def Zb(f k:Nat): List Nat:=(List.range f).map λi=>(i+k) % f
theorem Ys(f k:Nat): (Zb f k).length=f:=by simp[Zb]
theorem Qhd(h:i<f): (Zb f k).getD i 0=(i+k) % f:=by simp[Zb,List.getD,h]
theorem Jfr: ∀ c∈Zb f k,c<(Zb f k).length:=λc j=>by
 obtain⟨i,hi,rfl⟩:=List.mem_map.1 j;rw[Ys];exact Nat.mod_lt _ (by have:=List.mem_range.1 hi;omega)
theorem Jsw(f k:Nat): (Zb f k).Nodup:=by
 unfold Zb List.Nodup;rw[List.pairwise_map];refine(List.pairwise_iff_getElem.2 λi j hi o u=>?_);simp only[List.length_range]at hi o;simp only[List.getElem_range];intro e;have C:((j+k)-(i+k)) % f=0:=Nat.sub_mod_eq_zero_of_mod_eq e.symm;rw[show(j+k)-(i+k)=j-i by omega,Nat.mod_eq_of_lt om]at C;omega
theorem Qcg{cs:List Nat}(hlt:∀ c∈cs,c<cs.length)(hnd:cs.Nodup)(hr:r.length=cs.length): unR cs (pmR cs r) cs.length=r:=by
 have key:∀ k,k<=cs.length->∀ j,(∃ i,i<k/\cs.getD i 0=j)->j<r.length->(unR cs (pmR cs r) k).getD j V0=r.getD j V0:=by
  intro k;induction k with
  | zero=>rintro _ j ⟨i,hi,_⟩;omega
  | succ k ih=>
   rintro G j ⟨i,hi,e⟩ o;have u:=Gs cs (pmR cs r) k;rw[Qf]at u;rw[unR];by_cases e2:cs.getD k 0=j
   .subst e2;rw[List.getD,List.getElem?_set_self om,Option.getD_some,Jbd om]
   rw[List.getD,List.getElem?_set_ne e2];refine ih om j ⟨i,?_,e⟩ o;have:i≠k:=λh=>e2 (h ▸ e);omega
 refine List.ext_getElem (by rw[Gs,Qf,hr]) λj D C=>?_;have o:j<cs.length:=om
 obtain⟨i,hi,e⟩:=List.getElem_of_mem (Qjp hnd hlt rfl o);have:=key cs.length (nR _) j ⟨i,hi,by rw[Qq 0 cs hi,e]⟩ om;rwa [Qq V0 _ D,Qq V0 _ C]at this
theorem Qrk(A B C D E:Option Addr)(a b c d e a' b' c' d' e':Nat): Zw Tryz.prog (.iface 100 (.agg #[.slice A a a',.slice B b b',.slice C c c',.slice D d d',.slice E e e'])) "Len" 281 (.agg #[.slice A a a',.slice B b b',.slice C c c',.slice D d d',.slice E e e']):=⟨_,_,rfl,λw=>kr,λw=>kr⟩
theorem mIxAt(A B C D E:Option Addr)(a b c d e a' b' c' d' e':Nat): Zw Tryz.prog (.iface 100 (.agg #[.slice A a a',.slice B b b',.slice C c c',.slice D d d',.slice E e e'])) "At" 41 (.agg #[.slice A a a',.slice B b b',.slice C c c',.slice D d d',.slice E e e']):=⟨_,_,rfl,λw=>kr,λw=>kr⟩
theorem Qrj(A B C D E:Option Addr)(a b c d e a' b' c' d' e':Nat): Zw Tryz.prog (.iface 100 (.agg #[.slice A a a',.slice B b b',.slice C c c',.slice D d d',.slice E e e'])) "Rank" 39 (.agg #[.slice A a a',.slice B b b',.slice C c c',.slice D d d',.slice E e e']):=⟨_,_,rfl,λw=>kr,λw=>kr⟩
section
variable {w:World} {x:Value} {f:Nat} {ds:List Bool} {kf:Nat->Nat} {pf:Nat->Int} {BB:Nat->List BkT} {tot:Nat} {L:List Row}
theorem IxA.five(h:IxA w x f ds kf pf BB tot L): ∃ A B C D E a b c d e a' b' c' d' e',x=.agg #[.slice A a a',.slice B b b',.slice C c c',.slice D d d',.slice E e e']:=by
 obtain⟨DA,O,BA,cb,KA,Z,u,U,G,o,j,rfl,_,_,_,_,_,_,i,_⟩:=h.ix.ex;obtain⟨TA,J,rfl,_⟩:=i;exact⟨_,_,_,_,_,_,_,_,_,_,_,_,_,_,_,rfl⟩
theorem Qtk(h:IxA w x f ds kf pf BB tot L): Ret Tryz.prog 281 [x] w λu w'=>NatV w' u L.length/\Ext w w':=by
 obtain⟨A,B,C,D,E,a,b,c,d,e,a',b',c',d',Z,rfl⟩:=h.five;refine enE Tryz.func281 Tryz.ntmps281 ?_;refine bxR ?_;intro U b1 i J o;refine Qy o ?_;refine clR (Jhm (h.ix.ext i) h.ip.nbT) ?_;rintro u O ⟨G,_,j⟩;refine ρ ?_;rw[h.ip.len]at G;exact Jj ⟨G,i.trans j⟩
theorem Qtl(h:IxA w x f ds kf pf BB tot L){kv:Value}(hk:NatV w kv k): Ret Tryz.prog 41 [x,kv] w λu w'=>Jkj w f BB L k u w'/\Ext w w':=by
 obtain⟨A,B,C,D,E,a,b,c,d,e,a',b',c',d',e',rfl⟩:=h.five;refine enE Tryz.func41 Tryz.ntmps41 ?_;refine bxR ?_;intro w1 b1 i O J;refine Qy J ?_;refine clR (Xwl (h.ext i) (hk.ext i)) ?_;rintro u w2 ⟨o,j⟩;have G:=i.size;unfold Jkj at j ⊢;cases hL:L[k]? with
 | none=>
  rw[hL]at j;simp only at j;subst j;refine ρ ?_;exact Zz ⟨rfl,i.trans o⟩
 | some r=>
  rw[hL]at j;obtain⟨RA,rc,st,rfl,h1,h2,h3,Z,U⟩:=j;refine ρ ?_;exact Zz ⟨⟨RA,rc,st,rfl,h1,h2,h3,Z,λh0 ad e=>nL G (U h0 ad e)⟩,i.trans o⟩
theorem Qtj(tb:TB B0 w)(h:IxA w x f ds kf pf BB tot L){PA:Option Addr}(hq:RdR w PA q)(hqc:q.length<=pc):
  Ret Tryz.prog 39 [x,.slice PA q.length pc] w λu w'=>Ext w w'/\(q.length≠f->u=.tuple #[.slice none 0 0,.bool false,.int .i64 0,.int .i64 6]) /\
   (q.length=f->∃(kv:Value) (st:Nat),u=.tuple #[kv,.bool (decide (0<(wiL L q).length)),.int .i64 (st:Int),.int .i64 0]/\NatV w' kv (Zj ds L q)/\st<=Qd f λv=>hmB (BB v)):=by
 obtain⟨A,B,C,D,E,a,b,c,d,e,a',b',c',d',e',rfl⟩:=h.five;refine enE Tryz.func39 Tryz.ntmps39 ?_;refine bxR ?_;intro w1 b1 i U G;refine Qy G ?_;refine clR (Qhj (tb.ext i) (h.ext i) (Rd.ext hq i) hqc) ?_;rintro u w2 ⟨j,o,J⟩;by_cases e:q.length=f
 .obtain⟨kv,st,rfl,h1,Z⟩:=J e;refine ρ ?_;exact Kt ⟨i.trans j,λO=>absurd e O,λ_=>⟨kv,st,rfl,h1,Z⟩⟩
 obtain rfl:=o e;refine ρ ?_;exact Kt ⟨i.trans j,λ_=>rfl,λO=>absurd O e⟩
theorem IxA.arr(h:IxA w x f ds kf pf BB tot L)(hs:Lt ds L)(hrow:∀ y∈L,y.length=f)(hl:L.length<=1100000)(hb:Qd f (λv=>hmB (BB v))<=100000000): ArrW w (.iface 100 x) L (Qd f λv=>hmB (BB v)):=by
 obtain⟨A,B,C,D,E,a,b,c,d,e,a',b',c',d',e',rfl⟩:=h.five;refine⟨⟨_,_,Qrk _ _ _ _ _ _ _ _ _ _ _ _ _ _ _,λw' G=>Qtk (h.ext G)⟩,⟨_,_,mIxAt _ _ _ _ _ _ _ _ _ _ _ _ _ _ _,λw' G k vk hk a3=>(Qtl (h.ext G) hk).mono ?_⟩,⟨_,_,Qrj _ _ _ _ _ _ _ _ _ _ _ _ _ _ _,λw' G i vr hi hr=>?_⟩,hl,hb⟩
 .rintro u w2 ⟨J,o⟩;refine⟨?_,o⟩;unfold Jkj at J;unfold AyR;by_cases hk':k<L.length
  .rw[if_pos hk'];rw[getD_some hk']at J;obtain⟨RA,rc,st,rfl,O,h2,h3,h4,_⟩:=J;exact⟨_,st,rfl,⟨RA,rc,rfl,h2,by have:=h.ip.f32;omega,O⟩,h4⟩
  rw[if_neg hk'];rw[List.getElem?_eq_none om]at J;exact⟨0,J,Nat.zero_le _⟩
 obtain⟨RA,rc,rfl,U,a2,Z⟩:=hr;obtain⟨B0,tb⟩:=h.tb;have j:=getD_mem' [] L hi;refine(Qtj (tb.ext G) (h.ext G) Z U).mono ?_;rintro u w2 ⟨o,_,a1⟩;obtain⟨kv,st,rfl,O,h2⟩:=a1 (hrow _ j);rw[Xxg hrow (hrow _ j)]at O;have hc:(L.filter λy=>decide (Jw y (L.getD i []) ds<0)).length=i:=Qkb hs hi;rw[hc]at O;refine⟨⟨kv,st,?_,O,h2⟩,o⟩;have hp:0<(wiL L (L.getD i [])).length:=List.length_pos_of_mem (List.mem_filter.2 ⟨j,by simp⟩);rw[decide_eq_true hp]
end
open Go.RowKit Pl Go.Wk
variable {l ops:List Nat}{B B0 b f i k o oc z:Nat}
def u8s(l:List Nat): List Value:=l.map fun (n:Nat)=>Value.int .u8 (n:Int)
theorem Qch(h:i<l.length): (u8s l)[i]?=some (.int .u8 (l.getD i 0:Int)):=by simp[u8s,List.getD,List.getElem?_eq_getElem h]
theorem quo8(h:o<256): IntKind.u8.wrap ((o:Int).tdiv 3)=((o / 3:Nat):Int):=by
 rw[show(o:Int).tdiv 3=((o / 3:Nat):Int) from rfl];have:o / 3<256:=om
 simp[IntKind.wrap,IntKind.signed,IntKind.bits];omega
theorem quo64(h:o<18446744073709551616): IntKind.u64.wrap ((o:Int).tdiv (b:Int))=((o / b:Nat):Int):=by
 rw[show(o:Int).tdiv (b:Int)=((o / b:Nat):Int) from rfl];have i:o / b<=o:=Nat.div_le_self o b;exact Vr (z:=((o / b:Nat):Int)) ⟨Int.natCast_nonneg _,om⟩
theorem i64M(h:z<=9223372036854775807): IntKind.i64.wrap (z:Int)=(z:Int):=by rw[IntKind.wrap_i64];omega
theorem Qtp{bs:List BkT}(h:∀ b∈bs,b.2.ht<=B): hmB bs<=B:=by
 have key:∀(l:List BkT) (m:Nat),m<=B->(∀ b∈l,b.2.ht<=B)->l.foldl (λm b=>max m b.2.ht) m<=B:=by
  intro l;induction l with
  | nil=>intro m i _;exact i
  | cons b l ih=>intro m i j;exact ih _ (Nat.max_le.2 ⟨i,j b mC⟩) λc o=>j c (List.mem_cons_of_mem _ o)
 exact key bs 0 (Nat.zero_le _) h
theorem Qnm(a b:List Nat)(x:Nat): (Jp (nz (a++0::b))).set a.length (.int .i64 (x:Int))=Jp (nz ((a++[x])++b)):=by
 simp[Jp,nz]
theorem Qhf(h:i<f): (Zb f k).take i++(List.replicate (f-i) 0)=(Zb f k).take i++0::List.replicate (f-(i+1)) 0:=by
 rw[show f-i=(f-(i+1))+1 by omega,List.replicate_succ]
theorem bldIn(A B C D E:Option Addr)(a b c d e a' b' c' d' e':Nat)(w:World): (Instr.build 100 #[(0,.agg #[.slice A a a',.slice B b b',.slice C c c',.slice D d d',.slice E e e'])]).run Tryz.prog w=.ok (.agg #[.slice A a a',.slice B b b',.slice C c c',.slice D d d',.slice E e e']) w:=kr
theorem Xws{w:World}{cs:List Value}{c:Cse}{OA:Option Addr}(hTB:TB B0 w)(hC:CseV w cs c)(hfit:∀ i,i<c.rss.length->∀ r∈c.rss.getD i [],∀ u∈r,Zr u)(hO:Rd w 1 OA ops.length (u8s ops))(ho8:∀ o∈ops,o<256)(hol:ops.length<=oc):
  Ret Tryz.prog 7 [.agg cs.toArray,.slice OA ops.length oc] w λu w'=>u=.bool true/\Ext w w':=by
 obtain⟨dA,dc,pA,pc,vA,vc,rA,rc,rfl,hD,hP,hV,hR,hn,hf⟩:=id hC;refine enE Tryz.func7 Tryz.ntmps7 ?_;refine bxR ?_;intro w1 b2 ap d0 a7;refine Qy a7 ?_;refine clR (Xzc (hTB.ext ap) (hC.ext ap) hfit) ?_;rintro u w2 ⟨b6,c3⟩;have ae:=ap.trans b6;rcases c3 with⟨rfl,_⟩|⟨ats,x,av,kf,pf,BB,tot,hok,rfl,hIx,hav⟩
 .refine Jb Jxd ?_;intro w3 b5 ao ax az;refine Xa az ?_;intro w4 ah bz an;have J:Ext w2 w4:=an w2 ao ax;refine clR (Jmp _) ?_;rintro _ w5 ⟨rfl,am⟩;refine ρ ?_;exact Jj ⟨rfl,(ae.trans J).trans am⟩
 obtain⟨IA,IB,IC,ID,IE,ia,ib,ic,cp,ie,cv,cr,cq,co,cn,rfl⟩:=hIx.five;obtain⟨AA,ac,d3,rfl⟩:∃ A n k,av=.slice A n k:=by obtain⟨_,A,k,_,e,_⟩:=id hav;exact⟨A,_,k,e⟩
 have bj:=hok.fF;have d2:=hok.nN;have bf:=hok.ans.1;have bh:=hok.anl;have a6:∀ y∈c.ans,y.length=c.F:=λy hy=>hok.arow hy;obtain⟨f,c1⟩:∃ f,f=c.F:=⟨_,rfl⟩;obtain⟨L0,c5⟩:∃ L0,L0=c.ans:=⟨_,rfl⟩;rw[<-c1]at bj a6 hIx;rw[<-c5]at bf bh a6 hIx;have cz:f<=6:=om
 rw[bj.1]at a7;refine Jb Jxd ?_;intro w3 b5 ao ax az;refine Xa az ?_;intro w4 ah bz an;have J:Ext w2 w4:=an w2 ao ax;have ad:=ae.trans J;refine ciR (λh=>?_) (λh=>?_)
 .clear h;refine clR (Jmp _) ?_;rintro _ w5 ⟨rfl,am⟩;refine ρ ?_;exact Jj ⟨rfl,ad.trans am⟩
 have cb:ops.length<=6:=by have:=oF h;omega
 clear h;refine Qy ah ?_;refine Xo (bldIn _ _ _ _ _ _ _ _ _ _ _ _ _ _ _ _) ?_;refine ρ ?_;refine mki Tryz.underlying100 (λms e=>by cases e) ?_;have bm:Qd f (λv=>hmB (BB v))<=100000000:=by
  have h1:∀ n,Qd n (λv=>hmB (BB v))<=n*65536:=by
   intro n;induction n with
   | zero=>exact Nat.zero_le _
   | succ n ih=>
    rw[Qd,Nat.succ_mul];have:hmB (BB n)<=65536:=Qtp λb hb=>hIx.hb n b hb;omega
  have:=h1 f;omega
 obtain⟨Bd,bl⟩:∃ Bd,Bd=Qd f (λv=>hmB (BB v)):=⟨_,rfl⟩;have ai:=(hIx.ext J).arr bf a6 om bm;rw[<-bl]at ai bm;refine ρ ?_;refine Jo (fun (i:Nat) (v:Value)=>[(2,.pointer (some ⟨b2,0,none⟩)),(4,.bool false),(9,v),(52,.slice OA ops.length oc),(53,.int .i64 (ops.length:Int)),(54,.int .i64 (i:Int))])
  (λi v w'=>i<=ops.length/\Ext w4 w'/\∃ L,ArrW w' v L Bd/\L.length<=5000/\∀ r∈L,r.length=f) (λi _=>ops.length-i) 0 _ sB ⟨Nat.zero_le _,Ext.refl _,L0,ai,bh,a6⟩ ?_
 rintro i v w5 ⟨hi,a1,L,hA,bi,U⟩;have a2:=ad.trans a1;refine ciR (λh=>?_) (λh=>?_)
 .have li:i<ops.length:=by have:=oT h;omega
  clear h;obtain⟨o,ho⟩:∃ o,o=ops.getD i 0:=⟨_,rfl⟩;have a3:o<256:=by rw[ho];exact ho8 _ (getD_mem' 0 ops li)
  obtain⟨fl,rl,au,aw⟩:=hA.len;obtain⟨ty,vy,rfl⟩:=hA.form;refine ixR i (hO.ext a2) li ?_;refine ldR ((hO.ext a2).cell (Qch li)) ?_;refine ρ ?_;rw[<-ho];refine inv au (aw w5 (Ext.refl _)) ?_;rintro n1 w6 ⟨ar,Z⟩;refine clR (Jgr ar om) ?_;rintro _ w7 ⟨rfl,rfl⟩;have b1:=hA.ext Z;refine ρ ?_;refine wrem rfl rfl (by decide) rfl ?_;refine Go.Wk.kv 67 (show Value.int .u8 ((o:Int).tmod 3)=.int .u8 ((o % 3:Nat):Int) from rfl) ?_;refine ρ ?_;refine Qbd (fun (v:Value)=>[(2,.pointer (some ⟨b2,0,none⟩)),(4,.bool false),(9,v),(14,.int .i64 0),(52,.slice OA ops.length oc),(53,.int .i64 (ops.length:Int)),(54,.int .i64 (i:Int))])
   (λv w'=>Ext w7 w'/\∃ L,ArrW w' v L Bd/\L.length<=5000/\∀ r∈L,r.length=f) ?_ ?_
  .refine ci (λh=>?_) (λh=>?_)
   .clear h;obtain⟨lo,bc⟩:∃ lo,lo=o / 3 % (L.length+1):=⟨_,rfl⟩;have cc:lo<=L.length:=by rw[bc];exact Nat.le_of_lt_succ (Nat.mod_lt _ (Nat.succ_pos _))
    obtain⟨a4,cy⟩:∃ hi,hi=L.length-(L.length-lo) / 3:=⟨_,rfl⟩;have bv:lo<=a4:=om
    have bd:a4<=L.length:=om
    refine ρ ?_;refine Jkp rfl rfl (by decide) rfl ?_;refine Go.Wk.kv 97 (congrArg (Value.int .u8) (quo8 a3)) ?_;refine ρ ?_;rw[Vr (z:=((o / 3:Nat):Int)) om,Vr (z:=(L.length:Int)+1) om];refine wrem rfl rfl om rfl ?_;refine Go.Wk.kv 101 (show Value.int .u64 (((o / 3:Nat):Int).tmod ((L.length:Int)+1))=.int .u64 (lo:Int) by rw[bc];rfl) ?_;refine clR (Ge lo om _) ?_;rintro nl w8 ⟨br,G⟩;refine ρ ?_;rw[Vr (z:=(L.length:Int)-(lo:Int)) om];refine Jkp rfl rfl (by decide) rfl ?_;refine Go.Wk.kv 110 (show Value.int .u64 (IntKind.u64.wrap (((L.length:Int)-(lo:Int)).tdiv 3))=Value.int .u64 (((L.length-lo) / 3:Nat):Int) by rw[show(L.length:Int)-(lo:Int)=((L.length-lo:Nat):Int) by omega];exact congrArg (Value.int .u64) (quo64 (b:=3) om)) ?_;refine ρ ?_;rw[show(L.length:Int)-(((L.length-lo) / 3:Nat):Int)=(a4:Int) by omega,Vr (z:=(a4:Int)) om]
    refine cl (Ge a4 om _) ?_;rintro nh w9 ⟨bt,C⟩;refine clR (Qfm ((b1.ext G).ext C) (br.ext C) bt om om) ?_;rintro u aj ⟨hu,D⟩;rw[if_pos ⟨bv,bd⟩]at hu;obtain⟨y,rfl,hy⟩:=hu;obtain⟨tx,vx,rfl⟩:=hy.form;refine ρ ?_;refine Jd _ sB ⟨(G.trans C).trans D,_,hy,?_,λr hr=>U r (List.mem_of_mem_take (List.mem_of_mem_drop hr))⟩;rw[Jzz bd];omega
   clear h;refine ciR (λh=>?_) (λh=>?_)
   .clear h;refine clR (Qvs b1) ?_;rintro x w8 ⟨hx,rfl⟩;obtain⟨tx,vx,rfl⟩:=hx.form;refine ρ ?_;exact Jd _ sB ⟨Ext.refl _,L.reverse,hx,by rw[List.length_reverse];exact bi,λr hr=>U r (List.mem_reverse.1 hr)⟩
   clear h;have aa:=(b6.trans J).trans (a1.trans Z);refine ldR ((a7.ext aa).at (i:=1) rfl) ?_;refine ρ ?_;refine mkn EI f om (by unfold maxLen;omega) ?_;intro w8 O G ag d1;have aq:w8.ownsRow w7.heap.size 3 1 (.slice O f f) f (Jp (nz ((Zb f (o / 3)).take 0++List.replicate (f-0) 0))):=by
    have e:(madeCells (Value.int .i64 0).cells (f*1)).toList=Jp (nz ((Zb f (o / 3)).take 0++List.replicate (f-0) 0)):=by
     rw[Nat.mul_one];refine(Yu _ _).trans ?_;simp[Jp,nz]
    rw[e]at ag;exact ag
   refine ρ ?_;refine Qv (fun (j:Nat)=>[(2,.pointer (some ⟨b2,0,none⟩)),(4,.bool false),(9,Value.iface ty vy),(11,.int .u8 (o:Int)),(14,.int .i64 0),(16,.slice O f f),(52,.slice OA ops.length oc),(53,.int .i64 (ops.length:Int)),(54,.int .i64 (i:Int)),(71,.slice O f f),(72,.int .i64 (f:Int)),(73,.int .i64 (j:Int))])
    (λj w'=>j<=f/\Ext w7 w'/\w'.ownsRow w7.heap.size 3 1 (.slice O f f) f (Jp (nz ((Zb f (o / 3)).take j++List.replicate (f-j) 0)))) (λj=>f-j) 0 sB
    ⟨Nat.zero_le _,G,aq⟩ ?_
   rintro j w9 ⟨hj,C,a5⟩;refine ciR (λh=>?_) (λh=>?_)
   .have lj:j<f:=by have:=oT h;omega
    clear h;refine ρ ?_;refine Jkp rfl rfl (by decide) rfl ?_;refine Go.Wk.kv 80 (congrArg (Value.int .u8) (quo8 a3)) ?_;refine ρ ?_;rw[i64M (z:=o / 3) om,show(j:Int)+((o / 3:Nat):Int)=((j+o / 3:Nat):Int) by omega,i64M (z:=j+o / 3) om];refine ld ((a7.ext (aa.trans C)).at (i:=1) rfl) ?_;refine ρ ?_;refine wrem rfl rfl om rfl ?_;refine Go.Wk.kv 85 (show Value.int .i64 (((j+o / 3:Nat):Int).tmod (f:Int))=.int .i64 (((j+o / 3) % f:Nat):Int) from rfl) ?_;obtain⟨s1,s2,s3,s4,s5⟩:=Zm a5 (q:=j) om (.int .i64 (((j+o / 3) % f:Nat):Int));have cx:((Zb f (o / 3)).take j++List.replicate (f-j) 0).length=f:=by simp[Ys];omega
    refine ixR j (Rd.own a5) lj ?_;refine Xk (s1.trans (Xf om)) s2 ?_;refine ρ ?_;refine Qw (j+1) sO ⟨lj,C.setCell s4 _,?_⟩ om;have e:(Jp (nz ((Zb f (o / 3)).take j++List.replicate (f-j) 0))).set j (.int .i64 (((j+o / 3) % f:Nat):Int))=Jp (nz ((Zb f (o / 3)).take (j+1)++List.replicate (f-(j+1)) 0)):=by
     rw[Qhf lj];have h1:((Zb f (o / 3)).take j).length=j:=by simp[Ys];omega
     have h2:(Zb f (o / 3)).take (j+1)=(Zb f (o / 3)).take j++[(j+o / 3) % f]:=by
      rw[Qr 0 (by rw[Ys];exact lj),Qhd lj]
     have h3:=Qnm ((Zb f (o / 3)).take j) (List.replicate (f-(j+1)) 0) ((j+o / 3) % f);rw[h1]at h3;rw[h2];exact h3
    rw[e]at s3;exact s3
   have bw:j=f:=by have:=oF h;omega
   clear h;subst bw;rw[Nat.sub_self,List.replicate_zero,List.append_nil,List.take_of_length_le (by rw[Ys];exact nR _)]at a5;have bq:NtsV w9 (.slice O j j) (Zb j (o / 3)):=⟨O,j,by rw[Ys],by rw[Ys];exact nR _,by rw[Ys];omega,by rw[Ys];exact Rd.own a5,λx hx=>by have:=Jfr x hx;rw[Ys]at this;omega⟩;have cw:(Zb j (o / 3)).length=j:=Ys _ _;refine ρ ?_;have be:=Qvt (b1.ext C) bq Jfr (Jsw _ _) (λr hr=>by rw[Ys];exact U r hr) (λr hr=>Qcg Jfr (Jsw _ _) (by rw[Ys];exact U r hr));refine cl be ?_;rintro u aj ⟨⟨y,rfl,hy⟩,D⟩;obtain⟨tx,vx,rfl⟩:=hy.form;refine ρ ?_;refine Jd _ sB ⟨C.trans D,_,hy,by rw[List.length_map];exact bi,λr hr=>?_⟩;obtain⟨r',_,rfl⟩:=List.mem_map.1 hr;rw[Qf,Ys]
  rintro v w8 ⟨G,L',bn,c4,bg⟩;obtain⟨cj,ch,rfl⟩:=bn.form;refine ρ ?_;refine Jzp ifA (.inr ⟨_,_,rfl⟩) ?_;refine ρ ?_;exact Jl (i+1) _ sO ⟨li,(a1.trans Z).trans G,L',bn,c4,bg⟩ om
 clear h;obtain⟨fl,rl,au,aw⟩:=hA.len;obtain⟨fa,ra,bb,c2⟩:=hA.at_;obtain⟨fr,rr,bu,c0⟩:=hA.rank;obtain⟨ty,vy,rfl⟩:=hA.form;refine ρ ?_;refine inv au (aw w5 (Ext.refl _)) ?_;rintro n1 w6 ⟨ar,Z⟩;refine clR (Jgr ar om) ?_;rintro _ w7 ⟨rfl,rfl⟩;refine ρ ?_;obtain⟨m,hm⟩:∃ m,m=min L.length 1000:=⟨_,rfl⟩;rw[show(if(1000:Int)<(L.length:Int) then(1000:Int) else(L.length:Int))=(m:Int) by rw[hm];split<;>omega];refine Qv (fun (k:Nat)=>[(4,.bool false),(9,Value.iface ty vy),(134,.int .u64 (m:Int)),(135,.int .u64 (k:Int))])
  (λk w'=>k<=m/\Ext w7 w') (λk=>m-k) 0 sB ⟨Nat.zero_le _,Ext.refl _⟩ ?_
 rintro k w8 ⟨hk,G⟩;have a9:=Z.trans G;refine ciR (λh=>?_) (λh=>?_)
 .have lk:k<m:=by have:=oT h;omega
  have b3:k<L.length:=om
  clear h;have b4:Ext w8 w8.drew:=(Ext.refl w8).drew;refine drR [(0,0),(0,1),(0,3),(0,4),(0,5),(1,2),(1,6),(0,7),(0,8),(0,9),(0,10),(0,11),(0,12),(0,13)] ?_;refine ρd ?_;refine Jvj bb ?_;refine Jg (Ge k om _) ?_;rintro nk w9 ⟨bs,C⟩;refine⟨C,?_⟩;have a8:=(a9.trans b4).trans C;refine Jjc bb (c2 w9 a8 k nk bs om) ?_;rintro u aj ⟨ay,D⟩;refine⟨D,?_⟩;unfold AyR at ay;rw[if_pos b3]at ay;obtain⟨vr,c7,rfl,af,bp⟩:=ay;obtain⟨RA,ck,rfl,ca,c9,c8⟩:=id af;have ak:=a8.trans D;refine ρd ?_;refine ρ ?_;refine inv bu (c0 aj ak k _ b3 af) ?_;rintro u cg ⟨⟨vn,c6,rfl,ba,bo⟩,b8⟩;refine clR (Ge k om _) ?_;rintro cm ce ⟨b9,ab⟩;refine clR (Va (ba.ext ab) b9) ?_;rintro _ cd ⟨rfl,b7⟩;rw[cmq_eq.2 rfl];refine ρ ?_;rw[Vr (z:=(k:Int)+1) om];exact Qw (k+1) sO ⟨lk,(((((G.trans b4).trans C).trans D).trans b8).trans ab).trans b7⟩ om
 clear h;refine clR (Jmp _) ?_;rintro _ w9 ⟨rfl,C⟩;refine ρ ?_;exact Jj ⟨rfl,(a2.trans a9).trans C⟩
end Go.Proofs.YtgobkbeokaaplaaGreatDoor
namespace Go.Proofs.YtgobkbeokaaplaaGreatDoor
open Go.RowKit Pl Go.Wk Go.ChangeShapes Go.WideShapes
variable {v vy:Value}
section
variable {H:Type} {enc:TypeId×Value->H} {w:World} {base b0:Nat} {spare:Nat->Bool} {held:Bool}
def U8sE(w:World)(v:Value): Prop:=∃(A:Option Addr) (c:Nat) (l:List Nat),v=.slice A l.length c/\l.length<=c/\Rd w 1 A l.length (u8s l)/\∀ o∈l,o<256
theorem Qmw{d:DataW H}{p:List MemPlace}(hv:Value.okWide Tryz.prog w .any b0 105 v)(h:DataW.Trod enc Tryz.prog w base spare held 105 v d p): U8sE w v:=by
 obtain⟨a,len,i,rfl⟩:=okWide_slice Tryz.underlying105 hv;obtain⟨o,D⟩:=h;obtain⟨l,A,c,e,j,J,G,_⟩:=Jqf (sz:=1) (B:=Rows.uptoBulk d) (λz:Nat=>[Value.int .u8 (z:Int)]) (λz=>z<256) Tryz.underlying105 kr (nR _) (λn U y C _=>by
  obtain⟨z,e,_,u⟩:=DataW.trod_int Tryz.underlying5 C;have Z:=bounds_u8 u;refine⟨z.toNat,?_,om⟩;rw[e,show((z.toNat:Nat):Int)=z by omega]) D
 rw[Jzr]at j;have O:Value.slice a len i=.slice A l.length c:=by
  injection e
 exact⟨A,c,l,O,G,j,J⟩
end
theorem Xwr{B0:Nat}{w:World}(hTB:TB B0 w)(h:Qyl w v)(hy:U8sE w vy): Ret Tryz.prog 7 [v,vy] w λu w'=>u=.bool true/\Ext w w':=by
 obtain⟨cs,c,rfl,j,i⟩:=h;obtain⟨A,k,l,rfl,D,C,o⟩:=hy;exact Xws hTB j i C o D
end Go.Proofs.YtgobkbeokaaplaaGreatDoor
