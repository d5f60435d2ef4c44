/- Part 4. -/
import Derived.Test.YtebcagekopgdhaaGreatDoorKwx48
set_option linter.unusedVariables false
set_option maxRecDepth 100000
set_option maxHeartbeats 40000000
namespace Go.Proofs.YtebcagekopgdhaaGreatDoor
open Go.RowKit Pl Go.Wk
attribute [local irreducible] WC WL QX WD WDB WP WN WG WH WM
structure RkM(K:SeK)(w:World)(y:Row)(S:Nat->Bool)(M m:Nat)(fm:Lit->Option Value): Prop where
 gr:GrN (λk=>k=K.mb) K.w1 w
 map:MapS Tryz.prog 3 w K.mb m fm
 mle:m<=M
 pd:PdF K y S fm
def RkV(K:SeK)(w:World)(y:Row)(S:Nat->Bool)(M:Nat): Prop:=∃ m fm,RkM K w y S M m fm
structure RkB(K:SeK)(b2 b3 b5 b6:Nat)(PA:Option Addr)(pc:Nat)(q:Row): Prop where
 x:Blk K.w1 b2 31 [K.x0,K.x1,K.x2,K.x3,K.x4]
 p:Blk K.w1 b3 37 [.slice PA q.length pc]
 b:Blk K.w1 b5 25 [.slice K.BA K.f K.bc]
 m:Blk K.w1 b6 173 [.map (some K.mb)]
 n2:b2≠K.mb
 n3:b3≠K.mb
 n5:b5≠K.mb
 n6:b6≠K.mb
 row:RdR K.w0 PA q
 le:q.length<=pc
section
variable {K:SeK} {w w':World} {y:Row} {S:Nat->Bool} {M m:Nat} {fm:Lit->Option Value}
theorem RkM.ext(h:RkM K w y S M m fm)(hx:Ext w w'): RkM K w' y S M m fm:=⟨h.gr.trans (GrN.ext hx),h.map.ext hx,h.mle,h.pd⟩
theorem RkV.ext(h:RkV K w y S M)(hx:Ext w w'): RkV K w' y S M:=by obtain ⟨m,fm,h⟩:=h;exact ⟨m,fm,h.ext hx⟩
theorem RkV.same{S':Nat->Bool}(h:RkV K w y S M)(e:∀ c,c<K.f->S c=S' c): RkV K w y S' M:=by
 obtain ⟨m,fm,h⟩:=h;refine ⟨m,fm,⟨h.gr,h.map,h.mle,λc o G=>h.pd.1 c o ((e c o).trans G),λC J=>?_⟩⟩;obtain ⟨c,u,U,O⟩:=h.pd.2 C J;exact ⟨c,u,by rw [<-e c u];exact U,O⟩
theorem RkV.more{M':Nat}(h:RkV K w y S M)(hM:M<=M'): RkV K w y S M':=by
 obtain ⟨m,fm,h⟩:=h;exact ⟨m,fm,h.gr,h.map,Nat.le_trans h.mle hM,h.pd⟩
theorem RkV.gr(h:RkV K w y S M): GrN (λk=>k=K.mb) K.w1 w:=by obtain ⟨m,fm,h⟩:=h;exact h.gr
theorem RkV.off(h:RkV K w y S M){b:Nat}(hg:GrN (λk=>k=b) w w')(hb:K.w1.heap.size<=b)(hF:SeF K): RkV K w' y S M:=by
 obtain ⟨m,fm,h⟩:=h;refine ⟨m,fm,?_,h.map.gr hg λe=>by have:=hF.m2;omega,h.mle,h.pd⟩;exact ((h.gr.mono λk _ h=>(.inl h:k=K.mb∨k=b)).trans (hg.mono λk _ h=>.inr h)).mono λk o h=>h.elim id λe=>by omega
theorem RkV.app(h:RkV K w y S M)(hF:SeF K)(hS:∀ c,c<K.f->S c=true->K.pf c<(y.length:Int))(z:Row): RkV K w (y++z) S M:=by
 obtain ⟨m,fm,h⟩:=h;exact ⟨m,fm,h.gr,h.map,h.mle,h.pd.app hF hS z⟩
theorem key_take{q:Row}{k:Nat}(hq:k<=q.length): (q.take k).length=k:=by rw [List.length_take];omega
def SF.key(K:SeK)(c:Nat)(y:Row): SF:=⟨λv w=>RowV w v (pmR (bk (K.kf c) 32) y),λh hx=>h.ext hx⟩
def SF.tr(K:SeK)(c:Nat)(y:Row): SF:=⟨λv _=>∃ d p,v=.tuple #[.agg #[.bool d,.pointer p],.bool (Vf (K.BB c) (pmR (bk (K.kf c) 32) y)).isSome]/\TrV (λ_=>False) K.w0 (K.t c y) (.pointer p)/\(K.t c y≠.nil->d=K.ds.getD c false),λh _=>h⟩
def SF.tr2(K:SeK)(c:Nat)(y:Row): SF:=⟨λv _=>∃ d p,v=.agg #[.bool d,.pointer p]/\TrV (λ_=>False) K.w0 (K.t c y) (.pointer p)/\(K.t c y≠.nil->d=K.ds.getD c false),λh _=>h⟩
def SF.tbox(s:Nat): SF:=⟨λv w=>∃ b,v=.pointer (some ⟨b,0,none⟩)/\s<=b/\Blk w b 138 [.bool false,.pointer none],λ⟨b,e,h1,h2⟩ hx=>⟨b,e,h1,h2.ext hx⟩⟩
theorem rkAdd_any{b2 b3 b5 b6 k:Nat}{PA:Option Addr}{pc:Nat}{q:Row}(hF:SeF K)(hb:RkB K b2 b3 b5 b6 PA pc q)(hV:RkV K w (q.take k) S M)(hM:M<=4096)(hg:K.X.Gp (q.take k))(hkq:k<=q.length)(hkf:k<=K.f){v:Int}(hv:v+1=(k:Int)):
  Ret Tryz.prog 110 [.int .i64 v,.pointer (some ⟨b5,0,none⟩),.pointer (some ⟨b2,0,none⟩),.pointer (some ⟨b3,0,none⟩),.pointer (some ⟨b6,0,none⟩)] w λu w'=>u=.tuple #[]/\GrN (λk=>k=K.mb) w w'/\RkV K w' (q.take k) (λc=>S c || decide (K.pf c=v)) (M+K.f):=by
 have bh:=hF.ip.f32;have a7:=key_take hkq;refine Jz Tryz.func110 Tryz.ntmps110 rfl kr rfl ?_;refine ρ ?_;refine ld ((Jd hb.b hV.gr hb.n5).at (i:=0) rfl) ?_;refine ρ ?_;refine Qd (fun (c:Nat)=>[(0,.int .i64 v),(2,.pointer (some ⟨b2,0,none⟩)),(3,.pointer (some ⟨b3,0,none⟩)),(4,.pointer (some ⟨b6,0,none⟩)),(10,.slice K.BA K.f K.bc),(11,.int .i64 (K.f:Int)),(12,.int .i64 (c:Int))])
  (λc w'=>c<=K.f/\GrN (λk=>k=K.mb) w w'/\RkV K w' (q.take k) (λj=>S j || (decide (j<c) && decide (K.pf j=v))) (M+c)) (λc=>K.f-c) 0 sB
  ⟨Nat.zero_le _,GrN.refl _ _,hV.same λc _=>by simp⟩ ?_
 rintro c w1 ⟨hc,aa,a3⟩;refine ρ ?_;refine ci (λh=>?_) (λh=>?_)
 .have lc:c<K.f:=by have:=oT h;omega
  clear h;have an:=hF.bg w1 a3.gr;refine ρ ?_;refine ixq 3 c an lc ?_;refine ρ ?_;refine lds (cs:=Qb K.kf K.pf c) (Qpl an lc) ?_;refine ρ ?_;refine alc zBag ?_;intro w2 bb ay b7 bf;refine ρ ?_;refine stb (cs':=Qb K.kf K.pf c) bf ?_ Jzd;intro w3 av aj ax;have J:Ext w1 w3:=ax w1 ay b7;refine ρ ?_;refine ld (av.at (i:=2) rfl) ?_;refine ρ ?_;refine ci (λh=>?_) (λh=>?_)
  .have hp:K.pf c=v:=Xf h;clear h;have a8:Ext w3 w3.drew:=(Ext.refl w3).drew;have aq:=a3.ext J;have ab:=aq.ext a8;have O:=hF.ext ab.gr;have a4:=Jd hb.x ab.gr hb.n2;have be:=Jd hb.p ab.gr hb.n3;have af:RdR w3.drew PA (q.take k):=by
    have:=(Rd.ext hb.row O).take (m:=k) hkq;rw [Jnc q hkq]at this;show Rd _ 3 PA (q.take k).length _;rw [a7];exact this
   have b1:=hF.ip.keyb hF.ne lc (m:=k) (by rw [hp];omega);have ak:=hF.ip.fitK hg c;have am:∀ {d:Bool},((Vf (K.BB c) (pmR (bk (K.kf c) 32) (q.take k))).isSome=true->d=K.ds.getD c false)->K.t c (q.take k)≠.nil->d=K.ds.getD c false:=fun {d} h hne=>h (by
    cases hi:Vf (K.BB c) (pmR (bk (K.kf c) 32) (q.take k)) with
    | none=>exact absurd (Jsk hi) hne
    | some i=>rfl)
   refine ρ ?_;refine drH (λi=>Nat.ble 14 i) ?_;refine hcut 2 (lst 16 14) (fun (y:Bool×Option Addr×Nat)=>[(32,.agg #[.bool y.1,.pointer y.2.1]),(33,.bool (Vf (K.BB c) (pmR (bk (K.kf c) 32) (q.take k))).isSome),(8,.pointer (some ⟨y.2.2,0,none⟩)),(0,.int .i64 v),(2,.pointer (some ⟨b2,0,none⟩)),(3,.pointer (some ⟨b3,0,none⟩)),(4,.pointer (some ⟨b6,0,none⟩)),(6,.int .i64 (c:Int)),(10,.slice K.BA K.f K.bc),(11,.int .i64 (K.f:Int)),(12,.int .i64 (c:Int))])
    (λy W=>Ext w3.drew W/\Blk W y.2.2 138 [.bool false,.pointer none]/\w3.drew.heap.size<=y.2.2/\TrV (λ_=>False) K.w0 (K.t c (q.take k)) (.pointer y.2.1)/\(K.t c (q.take k)≠.nil->y.1=K.ds.getD c false)) ?_ ?_
   rotate_left
   .intro rest;refine hmkq 14 12 17 2 [22,23,24,25,26,27,28,29,30,31,21,32,33,8] [SF.bk a4,SF.eq (.int .i64 (c:Int)),SF.bk a4,SF.eq (.int .i64 (c:Int)),SF.eq (.slice PA q.length pc),SF.eq (.int .i64 v),SF.eq (.int .i64 (k:Int)),SF.eq (.slice PA k pc),SF.key K c (q.take k),SF.tr K c (q.take k),SF.tr K c (q.take k),SF.tr2 K c (q.take k),SF.eq (.bool (Vf (K.BB c) (pmR (bk (K.kf c) 32) (q.take k))).isSome),SF.tbox w3.drew.heap.size] kr (by rfl) ?_ ?_ ?_
    .refine gmc (λvs U o C=>?_) ?_
     .simp only [slM];refine ldW (a4.ext o) ?_;refine ρ ?_;exact mdone (Ext.refl _) rfl
     refine gmc (λvs U o C=>?_) ?_
     .simp only [slM];refine ρ ?_;exact mdone (Ext.refl _) rfl
     refine gmc (λvs U o C=>?_) ?_
     .simp only [slM];refine ldW (a4.ext o) ?_;refine ρ ?_;exact mdone (Ext.refl _) rfl
     refine gmc (λvs U o C=>?_) ?_
     .simp only [slM];refine ρ ?_;exact mdone (Ext.refl _) rfl
     refine gmc (λvs U o C=>?_) ?_
     .simp only [slM];refine ld ((be.ext o).at (i:=0) rfl) ?_;refine ρ ?_;exact mdone (Ext.refl _) rfl
     refine gmc (λvs U o C=>?_) ?_
     .simp only [slM];refine ρ ?_;exact mdone (Ext.refl _) rfl
     refine gmc (λvs U o C=>?_) ?_
     .have e5:vs 5=_:=C 5;simp only [slM,e5];refine ρ ?_;exact mdone (Ext.refl _) (congrArg (Value.int .i64) hv)
     refine gmc (λvs U o C=>?_) ?_
     .have e4:vs 4=_:=C 4;have e6:vs 6=_:=C 6;have:=hb.le;simp only [slM,e4,e6];refine slh k ?_;refine ρ ?_;exact mdone (Ext.refl _) rfl
     refine gmc (λvs U o C=>?_) ?_
     .have e2:vs 2=_:=C 2;have e3:vs 3=_:=C 3;have e7:vs 7=_:=C 7;simp only [slM,e2,e3,e7];have ai:=Jrw (hF.ix.ext (O.trans o)) lc (c:=pc) (Rd.ext af o) (by have:=hb.le;omega) om (by rw [a7];exact b1);rw [a7]at ai;refine cl ai ?_;rintro uk W ⟨⟨KA,kc,rfl,ah,ag,a9,_⟩,hy⟩;exact Jh (mdone hy ⟨KA,kc,rfl,ah,ag,a9⟩)
     refine gmc (λvs U o C=>?_) ?_
     .have e0:vs 0=_:=C 0;have e1:vs 1=_:=C 1;obtain ⟨KA,kc,e8,ah,ag,a9⟩:=C 8;simp only [slM,e0,e1,e8];refine cl (Jdm (hF.tb.ext (O.trans o)) (O.trans o) hF.ix lc a9 ak) ?_;rintro u W ⟨d,p,rfl,Z,G,hy⟩;exact Jh (mdone hy ⟨d,p,rfl,Z,am G⟩)
     refine gmc (λvs U o C=>?_) ?_
     .obtain ⟨d,p,e9,Z,G⟩:=C 9;simp only [slM,e9];refine ρ ?_;exact mdone (Ext.refl _) ⟨d,p,rfl,Z,G⟩
     refine gmc (λvs U o C=>?_) ?_
     .obtain ⟨d,p,a2,Z,G⟩:=C 10;simp only [slM,a2];refine ρ ?_;exact mdone (Ext.refl _) ⟨d,p,rfl,Z,G⟩
     refine gmc (λvs U o C=>?_) ?_
     .obtain ⟨d,p,a2,Z,G⟩:=C 10;simp only [slM,a2];refine ρ ?_;exact mdone (Ext.refl _) rfl
     refine gmc (λvs U o C=>?_) gme
     .simp only [slM];refine alc Yj ?_;intro W b9 hy b8 a1;exact Jh (mdone hy ⟨b9,rfl,Nat.le_trans o.size b8,a1⟩)
    .intro vs W hy hf;obtain ⟨b9,ac,h9,a1⟩:=hf 13;obtain ⟨d,p,ad,Z,G⟩:=hf 11;have bi:vs 12=_:=hf 12;simp only [slM,ac,bi,ad];exact rest (d,p,b9) _ _ ⟨hy,a1,h9,Z,G⟩ sB
    .intro _ vs W hy hf;obtain ⟨b9,ac,h9,a1⟩:=hf 13;obtain ⟨d,p,ad,Z,G⟩:=hf 11;obtain ⟨d2,p2,a2,_,_⟩:=hf 10;simp only [slM,ac,ad,a2];refine Yf (fuel':=2) 12 kr kr rfl rfl ?_;refine ρp ?_;refine ρd ?_;refine Xx ?_;refine hlist (listed':=lst 16 14) kr ?_;exact rest (d,p,b9) _ _ ⟨hy,a1,h9,Z,G⟩ sB
   rintro ⟨d,p,b9⟩ W ⟨aw,au,ao,Z,C⟩;simp only at au ao Z C;refine Zf (fuel':=0) 17 [(2,14),(2,15)] (lst 16 16) kr kr rfl ?_;refine Jo ?_;refine stW au ?_;intro W2 ar bj ae;refine Jh (Ql ?_);refine Jo ?_;refine ρ ?_;refine Ql ?_;refine Uw (Xx ?_);refine hend kr ?_;have a5:Ext w3 W2:=ae w3 (a8.trans aw) (nL a8.size ao);have ba:=aq.ext a5;obtain ⟨m,fm,HW⟩:=id ba;refine ρ ?_;refine ld ((Jd hb.m HW.gr hb.n6).at (i:=0) rfl) ?_;refine ρ ?_;refine ldW ar ?_;refine ρ ?_;refine mup KI HW.map (by have:=HW.mle;unfold maxLen;omega) (keyI (c:=c) om) ?_;intro W3 bd aj;have a6:GrN (λk=>k=K.mb) W2 W3:=GrN.by aj λk hk=>by injection hk with hk;exact hk.symm
   have ap:RkV K W3 (q.take k) (λj=>(S j || (decide (j<c) && decide (K.pf j=v))) || decide (j=c)) (M+(c+1)):=⟨_,_,HW.gr.trans a6,bd,by have:=HW.mle;omega,HW.pd.put bh lc Z C⟩;refine ρ ?_;refine Qw (c+1) sO ⟨lc,(aa.trans (GrN.ext (J.trans a5))).trans a6,ap.same λj _=>?_⟩ om;by_cases e:j=c
   .subst e;simp [hp]
   .have:(decide (j<c+1))=decide (j<c):=by by_cases h1:j<c<;>simp [h1]<;>omega
    rw [this];simp [e]
  .have hp:¬ K.pf c=v:=Xg h;clear h;refine ρ ?_;refine Qw (c+1) sO ⟨lc,aa.trans (GrN.ext J),((a3.ext J).same λj _=>?_).more om⟩ om;by_cases e:j=c
   .subst e;simp [hp]
   .have:(decide (j<c+1))=decide (j<c):=by by_cases h1:j<c<;>simp [h1]<;>omega
    rw [this]
 .have b4:c=K.f:=by have:=oF h;omega
  subst b4;clear h;refine ρ ?_;refine Ue ⟨rfl,aa,a3.same λj hj=>?_⟩;simp [hj]
theorem rkProd_any{b2 b3 b5 b6:Nat}{PA:Option Addr}{pc:Nat}{q:Row}(hF:SeF K)(hb:RkB K b2 b3 b5 b6 PA pc q)(hV:RkV K w y S M):
  Ret Tryz.prog 113 [.pointer (some ⟨b6,0,none⟩)] w λu w'=>NatV w' u (K.X.prodS S y)/\Fresh w u/\Ext w w':=by
 have b8:=hF.ip.f32;obtain ⟨m,fm,H⟩:=id hV;have a2:=Jd hb.m H.gr hb.n6;obtain ⟨g,hg⟩:∃ g:(Lit->Bool)->Nat->Nat,g=λleft c=>if S c=true/\left (.int .i64 (c:Int))=false then K.X.T c y else 1:=⟨_,rfl⟩
 have ar:∀ left c,g left c<=4294967296^20:=λleft c=>by
  rw [hg];simp only;split
  .rw [K.T];exact hF.ip.big _ _
  .exact Nat.pow_pos (by decide)
 have ao:∀ left,Nb (Jc K.f (g left)):=λleft=>Nb.pow (k:=K.f) (Jzb (Nat.pow_pos (by decide)) λc _=>ar left c) om;refine Jz Tryz.func113 Tryz.ntmps113 rfl kr rfl ?_;refine ρ ?_;refine cl (Jcq 1 (by decide) _) ?_;rintro J w1 ⟨a8,ac,G⟩;refine ρ ?_;refine ld ((a2.ext G).at (i:=0) rfl) ?_;refine ρ ?_;refine rngm KI (H.map.ext G) ?_;intro w2 r cnt Z a7 af;have lr:w.heap.size<=r:=nL G.size a7;refine ρ ?_;refine Xr (fun (left:Lit->Bool) (cnt:Nat) (J:Value)=>[(2,J),(7,.pointer (some ⟨r,0,none⟩))])
  (λleft cnt J w'=>Ext w w'/\RgS Tryz.prog 3 w' K.mb r m fm left cnt/\NatX (λk=>k=r) w' J (Jc K.f (g left))/\Fresh w J) (λ_ cnt _=>cnt) _ cnt J sB ⟨G.trans Z,af,?_,ac⟩ ?_
 .have e:Jc K.f (g λkl=>(fm kl).isSome)=1:=Jnv λc hc=>by
   rw [hg];simp only;rw [if_neg];rintro ⟨h1,h2⟩;obtain ⟨d,p,h3,_⟩:=H.pd.1 c hc h1;rw [h3]at h2;cases h2
  rw [e];exact (NatX.old (N:=λ_=>False) ⟨a8,λ_ _ _ _ _ h=>h⟩ λk hk=>.inr (by rw [hk];exact a7)).ext Z
 clear a8 ac af Z G J cnt;rintro left cnt J w3 ⟨a4,ax,a1,au⟩;refine ρ ?_;refine nxtm KI ax (λhl=>?_) (λkey v kl w4 ag b1 aq ab ae ap a9 av=>?_)
 .refine ρ ?_;have e:Jc K.f (g left)=K.X.prodS S y:=Ur λc hc=>by
   rw [hg];simp only;rw [hl];simp
  rw [e]at a1;exact Jj ⟨a1.1,au,a4⟩
 .obtain ⟨c,hc,a6,rfl⟩:=H.pd.2 kl (by rw [ab];simp);obtain ⟨d,p,O,ht,_⟩:=H.pd.1 c hc a6;rw [ab]at O;injection O with O
  subst O;have U:Ext w w4:=a9.old a4 λk hk=>by rw [hk];exact lr
  refine ρ ?_;refine entm av ?_;refine ρ ?_;refine alc Yj ?_;intro w5 b5 aj aw ay;refine ρ ?_;refine stW ay ?_;intro w6 a2 b4 ai;have o:Ext w4 w6:=ai w4 aj aw;refine ρ ?_;refine ldW a2 ?_;refine ρ ?_;have a5:Ext K.w0 w6:=(hF.ext H.gr).trans (U.trans o);refine cl (Jlg (ht.ext a5) (by rw [<-K.T];exact Nb.pow (k:=1) (by rw [Nat.pow_one,K.T];exact hF.ip.big _ _) om)) ?_;rintro ut w7 ⟨ak,b7,C⟩;have an:NatV w7 J (Jc K.f (g left)):=(((a1.gr a9).ext o).ext C).1;refine ρ ?_;refine cl (Jwx an ak (ao left).len (Nb.len (Nb.pow (k:=1) (by rw [Nat.pow_one];exact hF.ip.big _ _) om))) ?_;rintro ur w8 ⟨am,aa,a3⟩;refine ρ ?_;refine Qa _ ag ur sO ⟨((U.trans o).trans C).trans a3,((ae.ext o).ext C).ext a3,?_,λad m c e=>?_⟩ ap
  .have ah:r<w7.heap.size:=nM (ae.lt) (o.trans C).size;have e:Jc K.f (g λz=>left z && !z.sameKey (.int .i64 (c:Int)))=Jc K.f (g left)*(K.t c y).sum:=by
    rw [Jcf hc,Jcf (g:=g left) hc];have h1:g left c=1:=by rw [hg];simp only;rw [if_neg];rintro ⟨_,h2⟩;rw [aq]at h2;cases h2
    have h2:g (λz=>left z && !z.sameKey (.int .i64 (c:Int))) c=(K.t c y).sum:=by
     rw [hg];simp only;rw [if_pos ⟨a6,by rw [WideAt.sameKey_self (Jdk om)];simp⟩,K.T]
    rw [h1,h2,Nat.one_mul,Nat.mul_comm];congr 1
    refine Ur λj hj=>?_;by_cases ej:j=c
    .rw [if_pos ej,if_pos ej]
    .rw [if_neg ej,if_neg ej,hg];simp only;have:(Lit.int .i64 (j:Int)).sameKey (.int .i64 (c:Int))=false:=Maps.sameKey_ne λe'=>ej (Jdc e');simp only [this,Bool.not_false,Bool.and_true]
   rw [e];exact aa.x am λk hk=>by rw [hk];exact ah
  .exact nL (((U.trans o).trans C).size) (aa ad m c e)
end
open Go.RowKit Pl Go.Wk
def tt2: TT:=(131,{ desc:=.invalid,size:=4,offs:=[0,1,2,3] })::tt
theorem tt2_ok: TOk Tryz.prog tt2:=⟨⟨_,Tryz.underlying131,kr,kr⟩,Jxp⟩
instance:Tab Tryz.prog tt2:=⟨tt2_ok,mixed⟩
theorem zDesc: Qt Tryz.prog 131=some (.agg #[.slice none 0 0,.slice none 0 0,.bool false,.int .i64 0]):=kr
theorem zBags: Qt Tryz.prog 25=some (.slice none 0 0):=kr
theorem zMapT: Qt Tryz.prog 173=some (.map none):=kr
theorem sumR_mono{n m:Nat}{g:Nat->Nat}(h:n<=m): Qs n g<=Qs m g:=by
 induction h with
 | refl=>exact Nat.le_refl _
 | step h ih=>rw [Qs];omega
theorem befT_le(d:Bool)(v:V): ∀ t:Tr,Tr.befT d v t<=t.sum
 | .nil=>Nat.le_refl _
 | .node l a y r=>by
  have h1:=befT_le d v l;have h2:=befT_le d v r;rw [Tr.befT,Tr.sum];split
  .omega
  .split<;>omega
theorem SeF.bef{K:SeK}(hF:SeF K){c:Nat}(hc:c<K.f){z:Row}{d:Bool}(hd:K.t c z≠.nil->d=K.ds.getD c false)(v:V):
  Tr.befT d v (K.t c z)=bef (K.ds.getD c false) v (K.X.E c (K.X.key c z)):=by
 rw [K.E];by_cases h:K.t c z=.nil
 .rw [h];rfl
 .have o:Iu d (K.t c z).toL:=by
   rw [hd h,<-K.E];exact (hF.ip.srt hF.ne).srt c hc _
  rw [(Tr.befT_eq o).1,hd h]
theorem SeF.onb{K:SeK}(hF:SeF K)(m:Nat)(z:Row): Nb (K.X.others m z):=by
 refine Nb.pow (k:=K.f) (Jzb (Nat.pow_pos (by decide)) λc _=>?_) hF.ip.f32;split
 .rw [K.T];exact hF.ip.big _ _
 .exact Nat.pow_pos (by decide)
theorem SeF.rk_le{K:SeK}(hF:SeF K){q:Row}(hq:q.length<=K.f){m:Nat}(hm:m<=q.length)(hg:K.X.Gp (q.take m)): Nb (rkS K.X K.ds q m) :=
 hF.ip.nbT.le (by have:=hF.ip.rk_inv hF.ne hq hm hg;rw [hF.ip.len];exact this)
section
variable {f:Nat} {ds:List Bool} {kf:Nat->Nat} {pf:Nat->Int} {BB:Nat->List BkT} {tot:Nat} {L:List Row}
theorem descend_any{B0:Nat}{w:World}{x:Value}{PA:Option Addr}{pc:Nat}{q:Row}(tb:TB B0 w)(ix:IxV w x f ds kf pf BB tot)(ip:IxP f ds kf pf BB tot L)(ne:tot≠0)(hq:RdR w PA q)(hqc:q.length<=pc)(hqf:q.length<=f):
  Ret Tryz.prog 70 [x,.slice PA q.length pc] w λu w'=>∃ (bv cv:Value) (st:Nat),u=.agg #[bv,cv,.bool (decide (0<(wiL L q).length)),.int .i64 (st:Int)]/\NatV w' bv (cntP ds L q)/\NatV w' cv (wiL L q).length/\(st<=Qs f λv=>hmB (BB v))/\Ext w w':=by
 obtain ⟨DA,dc,BA,cb,KA,ck,g3,cp,tv,gj,ge,rfl,gt,gu,hD,hB,hK,hP,f2,gk⟩:=id ix.ex;obtain ⟨TA,tc,rfl,_⟩:=id f2;have gz:=ip.f32;refine Jz Tryz.func70 Tryz.ntmps70 rfl kr rfl ?_;refine ρ ?_;refine bx ?_;intro w1 b2 ez gy cr;refine ρ ?_;refine bx ?_;intro w2 b3 ba gx eg;refine ρ ?_;refine alc zDesc ?_;intro w3 b4 af gw ee;have d6:=ez.trans ba;have ak:=d6.trans af;refine ρ ?_;refine ldW ((cr.ext ba).ext af) ?_;refine ρ ?_;refine cl (Jrz (ix.ext ak)) ?_;rintro u w4 ⟨⟨A,c,rfl,hc,hR,hf⟩,a5⟩;refine ρ ?_;refine alc zBags ?_;intro w5 b5 ey fj fz;refine ρ ?_;refine Ij fz ?_ rfl;intro w6 bt gn ew;have U:Ext w4 w6:=ew w4 ey fj;refine ρ ?_;refine mkm 3 ?_;intro w7 mb d4 gm hM;refine ρ ?_;refine alc zMapT ?_;intro w8 b6 eu fi fy;refine ρ ?_;refine Ij fy ?_ rfl;intro w9 eb dl et;have ai:Ext w7 w9:=et w7 eu fi;have bf:=d4.trans ai;have a4:=U.trans bf;have bg:=ak.trans (a5.trans a4)
 have e7:=hM.ext ai;have eh:=((cr.ext ba).ext af).ext (a5.trans a4);have ef:=(eg.ext af).ext (a5.trans a4);have ed:=ee.ext (a5.trans a4);have ec:=bt.ext bf;have gf:=hM.lt;have l1:=cr.lt;have l2:=eg.lt;have l3:=ee.lt;have l5:=bt.lt;have z1:=(ba.trans (af.trans (a5.trans U))).size;have z2:=(af.trans (a5.trans U)).size;have z3:=(a5.trans U).size;have z4:=U.size;have z7:=d4.size;have g5:=ai.size;have z0:=(ak.trans (a5.trans U)).size;have g7:=bg.size;obtain ⟨K,ay⟩:∃ K:SeK,K=⟨B0,w,w9,mb,w9.heap.size,.slice DA f dc,.slice BA f cb,.slice KA f ck,.slice g3 f cp,.slice TA (Jq tot).length tc,A,c,f,ds,kf,pf,BB,tot,L⟩:=⟨_,rfl⟩;have dx:Off (λk=>k=mb) w9 (λu=>Rd u 3 A f (Qf f (Qb kf pf))):=Jnm (hR.ext a4) λh0 ad e (e2:ad.block=mb)=>by
  obtain ⟨h4,e',f8⟩:=hR.2 h0;rw [e]at e';injection e' with e'
  have:=f8.1;rw [<-e']at this;omega
 have o:SeF K:=by
  subst ay;exact ⟨tb,ix,ip,ne,bg,by show w.heap.size<=mb;omega,e7.lt,Nat.le_refl _,hc,dx,Qcr⟩
 have J:RkB K b2 b3 b5 b6 PA pc q:=by
  subst ay;exact ⟨eh,ef,ec,eb,by show b2≠mb;omega,by show b3≠mb;omega,by show b5≠mb;omega,by show b6≠mb;omega,hq,hqc⟩
 have fp:RkV K w9 (q.take 0) (λ_=>false) 0:=by
  subst ay;exact ⟨0,λ_=>none,GrN.refl _ _,e7,Nat.le_refl _,λc _ h=>(by cases h),λkl h=>absurd rfl h⟩
 have g0:K.f=f/\K.ds=ds/\K.kf=kf/\K.pf=pf/\K.BB=BB/\K.tot=tot/\K.L=L/\K.w1=w9/\K.w0=w/\K.mb=mb:=by subst ay;exact ⟨rfl,rfl,rfl,rfl,rfl,rfl,rfl,rfl,rfl,rfl⟩
 obtain ⟨rfl,rfl,rfl,rfl,rfl,rfl,rfl,f0,c5,bl⟩:=g0;clear ay;have de:∀ c,c<K.f->K.pf c<(c:Int):=λc hc=>(o.ip.par ne hc).2;have fb:K.X.Ok:=o.ip.ok ne;have fa:∀ v z,(K.t v z).ht<=hmB (K.BB v):=λv z=>Qkz _ _;have di:∀ v z,(K.t v z).ht<=65536:=λv z=>nL (Tr.ht_le _) (o.ip.siz _ _);have bi:∀ v z,Nb (K.t v z).sum:=λv z=>Nb.pow (k:=1) (by rw [Nat.pow_one];exact o.ip.big _ _) om;have d9:∀ v z,(K.t v z).sz<=1000000:=λv z=>nL (o.ip.siz _ _) (by decide);refine ρ ?_;refine alc zDesc ?_;intro gb C aj fh ea;refine ρ ?_;refine clv (rkAdd_any (k:=0) o J (fp.ext aj) om (AX.Gp.nil) (Nat.zero_le _) (Nat.zero_le _) (v:=-1) rfl) ?_;rintro u ga ⟨rfl,av,ax⟩;have l9:=ea.lt;have g6:=aj.size;have n9:¬ C=K.mb:=by rw [bl];omega
 have n4:¬ b4=K.mb:=by rw [bl];omega
 have b7:=Jd ea av n9;have b8:=Jd (ed.ext aj) av n4;have cy:b4≠C:=om
 have cx:K.w1.heap.size<=C:=by rw [f0];exact fh
 refine ρ ?_;refine ld ((Jd J.p ax.gr J.n3).at (i:=0) rfl) ?_;refine ρ ?_;refine Xr (fun (i:Nat) (bv:Value) (st:Nat)=>[(4,.pointer (some ⟨b4,0,none⟩)),(6,.pointer (some ⟨b6,0,none⟩)),(7,.func (.func 110) #[] #[.pointer (some ⟨b5,0,none⟩),.pointer (some ⟨b2,0,none⟩),.pointer (some ⟨b3,0,none⟩),.pointer (some ⟨b6,0,none⟩)]),(8,.func (.func 113) #[] #[.pointer (some ⟨b6,0,none⟩)]),(9,.pointer (some ⟨C,0,none⟩)),(23,.slice PA q.length pc),(24,.int .i64 (q.length:Int)),(25,.int .i64 (i:Int))])
  (λi bv st w'=>i<=q.length/\K.X.Gp (q.take i)/\RkV K w' (q.take i) (pS K.pf i i) (32*(i+1))/\Blk w' C 131 [bv,.slice none 0 0,.bool false,.int .i64 (st:Int)]/\Blk w' b4 131 [.slice none 0 0,.slice none 0 0,.bool false,.int .i64 0]/\NatX (λk=>k=K.mb∨k=C∨k=b4) w' bv (rkS K.X K.ds q i)/\(st<=Qs i λv=>hmB (K.BB v))/\st<=65536*i) (λi _ _=>q.length-i) 0 (.slice none 0 0) 0 sB
  ⟨Nat.zero_le _,AX.Gp.nil,?_,b7,b8,NatX.nil _,Nat.le_refl _,Nat.le_refl _⟩ ?_
 .refine (ax.same λc hc=>?_).more om;have:=o.ip.par ne hc;unfold pS;rw [Bool.eq_iff_iff];simp only [Bool.or_eq_true,Bool.and_eq_true,decide_eq_true_eq];constructor
  .rintro (h|h)
   .cases h
   .exact ⟨Nat.zero_le _,om⟩
  .rintro ⟨_,h⟩;right;omega
 clear b7 b8 ax av;rintro i bv st v5 ⟨hi,ag,a9,cq,cm,aw,f5,gl⟩;have cd:(q.take i).length=i:=key_take hi;have d5:=o.ext a9.gr;refine ρ ?_;refine ci (λh=>?_) (λh=>?_)
 .have li:i<q.length:=by have:=oT h;omega
  have a8:i<K.f:=om
  clear h;have dd:=Rd.ext hq (c5 ▸ d5);refine ρ ?_;refine ixq 3 i dd li ?_;refine ρ ?_;refine lds (cs:=(q.getD i V0).cells) (λj u' c9=>RdR.cell dd li c9) ?_;refine ρ ?_;refine alc (cs:=V0.cells) Gq ?_;intro v6 g2 ae e0 bw;refine ρ ?_;refine stb (cs':=(q.getD i V0).cells) bw ?_ (V.one _);intro v7 fx dm er;have ah:Ext v5 v7:=er v5 ae e0;have fl:=a9.ext ah;obtain ⟨m0,fm,H⟩:=id fl;obtain ⟨d,p,fe,hT,hd⟩:=H.pd.1 i a8 (by unfold pS;simp [de i a8]);refine ρ ?_;refine ld ((Jd J.m H.gr J.n6).at (i:=0) rfl) ?_;refine ρ ?_;refine mlk KI H.map zTreeV (keyI (c:=i) om) ?_;rw [fe];refine ρ ?_;refine alc Yj ?_;intro v8 g1 ep dz bu;refine ρ ?_;refine stW bu ?_;intro v9 cw bn c2;have aa:Ext v7 v9:=c2 v7 ep dz;have H9:=H.ext aa;refine ρ ?_;refine ld ((Jd J.m H9.gr J.n6).at (i:=0) rfl) ?_;refine ρ ?_;refine mdn KI H9.map (keyI (c:=i) om) ?_;intro c0 e8 dn;have a1:GrN (λk=>k=K.mb) v9 c0:=GrN.by dn λk hk=>by injection hk with hk;exact hk.symm
  have g4:K.mb<v7.heap.size:=H.map.lt;have bm:K.mb<v5.heap.size:=nM o.m2 a9.gr.size;have gi:=bw.lt;have g9:=ah.size;have g8:=aa.size;have gh:=bu.lt;have en:¬ g2=K.mb:=om
  have em:¬ g1=K.mb:=om
  have bp:RkV K c0 (q.take i) (pS K.pf (i+1) i) (32*(i+1)):=RkV.same ⟨_,_,H9.gr.trans a1,e8,H9.mle,H9.pd.drop o.ip.f32 a8⟩ λc _=>Jpl;have bd:=Jd (fx.ext aa) a1 en;have bc:=Jd cw a1 em;have a2:GrN (λk=>k=K.mb) v5 c0:=((GrN.ext ah).trans (GrN.ext aa)).trans a1;have e9:=Jd cq a2 n9;have br:=Jd cm a2 n4;have ch:=aw.gr (a2.mono λk _ h=>.inl h);refine ρ ?_;refine ldW bc ?_;refine ρ ?_;refine lds (cs:=(q.getD i V0).cells) (λj u' c9=>bd.at c9) ?_;refine ρ ?_;have c4:=o.ext bp.gr;refine cl (Qpd (hT.ext c4) (bi _ _) (d9 _ _)) ?_;rintro u bz ⟨sv,e,rfl,he,f4,d3⟩;have c1:Ext bz bz.drew:=(Ext.refl bz).drew;have O:=d3.trans c1;have e1:=bp.ext O;have cn:=e9.ext O;have du:=ch.ext O;have gs:=fa i (q.take i);have gq:=di i (q.take i);refine ρ ?_;refine drN (λ_=>False) 10 [(0,0),(0,1),(0,2),(0,3),(1,4),(1,5),(1,6),(0,7),(2,8)] kr ?_;refine ρn ?_;refine nld (λw' hg=>(cn.ext hg.toExt).at (i:=0) rfl) ?_
  refine ρn ?_;refine nop ?_;refine clv (rkProd_any o J e1) ?_;rw [Qbk];rintro pv el ⟨f7,_,G⟩;refine ρ ?_;refine Je (GrN.ext G) ?_;refine ρn ?_;refine nop ?_;have da:=(f4.ext c1).ext G;refine cl (Jwx da f7 ((bi i (q.take i)).le (befT_le _ _ _)).len (o.onb _ _).len) ?_;rintro mv gc ⟨dh,_,ab⟩;rw [o.bef a8 hd]at dh;refine ρ ?_;refine Je (GrN.ext ab) ?_;refine ρn ?_;refine nop ?_;have cg:=((du.ext G).ext ab).1;have ca:Nb (bef (K.ds.getD i false) (q.getD i V0) (K.X.E i (K.X.key i (q.take i)))*K.X.others i (q.take i)):=by
   refine (o.pnb i (q.take i)).le ?_;have h1:=fb.pend_split (y:=q.take i) (by rw [cd];exact a8);rw [cd]at h1;rw [h1,<-o.bef a8 hd,K.T];exact nO _ (befT_le _ _ _)
  refine cl (Jqj cg dh (o.rk_le hqf hi ag).len ca.len) ?_;rintro gd d0 ⟨ao,dq,be⟩;have f6:rkS K.X K.ds q i+bef (K.ds.getD i false) (q.getD i V0) (K.X.E i (K.X.key i (q.take i)))*K.X.others i (q.take i)=rkS K.X K.ds q (i+1):=rfl;rw [f6]at ao;obtain ⟨ZA,zc,rfl,_⟩:=id ao;refine ρ ?_;refine Je (GrN.ext be) ?_;refine ρn ?_;have Z:=(G.trans ab).trans be;have ek:=c1.trans Z;have b1:=cn.ext Z;refine Xv ?_;refine sto (b1.at (i:=0) rfl) (b1.frozen 0) ?_;obtain ⟨a3,an⟩:∃ a3,a3=d0.setCell ((⟨C,0,none⟩:Addr).add 0) (.slice ZA (Jq (rkS K.X K.ds q (i+1))).length zc):=⟨_,rfl⟩;rw [<-an];have au:GrN (λk=>k=C) d0 a3:=by rw [an];exact GrN.set _ rfl
  have ac:Blk a3 C 131 [.slice ZA (Jq (rkS K.X K.ds q (i+1))).length zc,.slice none 0 0,.bool false,.int .i64 (st:Int)]:=by rw [an];exact b1.set 0 _
  have e4:=(e1.ext Z).off au cx o;have e6:=Jd ((br.ext O).ext Z) au cy;have eo:C<el.heap.size:=(cn.ext G).lt;have dg:NatX (λk=>k=K.mb∨k=C∨k=b4) a3 (.slice ZA (Jq (rkS K.X K.ds q (i+1))).length zc) (rkS K.X K.ds q (i+1)):=by
   refine NatX.gr (N:=λk=>k=K.mb∨k=C∨k=b4) ⟨ao,λh0 ad m c e=>?_⟩ (au.mono λk _ h=>.inr (.inl h));have h1:=dq ad m c e;have h2:=ab.size;have h3:=(br.ext (O.trans G)).lt;rintro (h|h|h)
   .have:=nM bm (a2.size);have:=(O.trans G).size;omega
   .omega
   .omega
  refine ω5 ?_;refine Us ?_;refine ρn ?_;refine ρ ?_;refine ld (ac.at (i:=3) rfl) ?_;refine ρ ?_;refine sto (ac.at (i:=3) rfl) (ac.frozen 3) ?_;obtain ⟨a7,am⟩:∃ a7,a7=a3.setCell ((⟨C,0,none⟩:Addr).add 3) (.int .i64 ((st+e:Nat):Int)):=⟨_,rfl⟩;have c8:a3.setCell ((⟨C,0,none⟩:Addr).add 3) (.int .i64 ((st:Int)+(e:Int)))=a7:=am.symm;refine Eq.mpr (congrArg _ c8) ?_;have ar:GrN (λk=>k=C) a3 a7:=by rw [am];exact GrN.set _ rfl
  have bs:Blk a7 C 131 [.slice ZA (Jq (rkS K.X K.ds q (i+1))).length zc,.slice none 0 0,.bool false,.int .i64 ((st+e:Nat):Int)]:=by rw [am];exact ac.set 3 _
  have bo:=e4.off ar cx o;have bq:=Jd e6 ar cy;have bj:=dg.gr (ar.mono λk _ h=>.inr (.inl h));have dw:=o.has a8 (z:=q.take i) hd (q.getD i V0);have db:(st+e<=Qs (i+1) λv=>hmB (K.BB v)):=by rw [Qs];omega
  have dk:K.X.Gp (q.take (i+1))↔Tr.hasT d (q.getD i V0) (K.t i (q.take i))=true:=(rk_gp (o.ip.srt ne) li ag).trans dw.symm;refine ρ ?_;refine ci (λh=>?_) (λh=>?_)
  .have df:¬ K.X.Gp (q.take (i+1)):=λhg=>by
    rw [dk.1 hg]at h;cases h
   clear h;have bh:wiL K.L q=[]:=o.ip.wi_none ne λhg=>df (hg.pre (i+1));refine ρ ?_;refine ldW bs ?_;refine ρ ?_;refine stW bq ?_;intro cz e5 a6 d2;refine ρ ?_;have c3:=d2 w (c5 ▸ o.ext bo.gr) om;have ce:GrN (λk=>k=b4) a7 cz:=GrN.by a6 λk hk=>by injection hk with hk;exact hk.symm
   refine Jqv e5 ⟨_,_,st+e,by rw [bh];rfl,?_,?_,Nat.le_trans db (sumR_mono om),c3⟩
   .rw [o.ip.rk_stop ne hqf li ag df];exact (bj.gr (ce.mono λk _ h=>.inr (.inr h))).1
   .rw [bh];exact NatV.nil _
  .have d1:Tr.hasT d (q.getD i V0) (K.t i (q.take i))=true:=by
    cases hh:Tr.hasT d (q.getD i V0) (K.t i (q.take i)) with
    | true=>rfl
    | false=>rw [hh]at h;cases h
   clear h;have dj:=dk.2 d1;have f3:q.take (i+1)=q.take i++[q.getD i V0]:=Qy V0 li;have cj:RkV K a7 (q.take (i+1)) (pS K.pf (i+1) i) (32*(i+1)):=by
    rw [f3];exact bo.app o (λc _ hs=>by
     rw [cd];unfold pS at hs;simp only [Bool.and_eq_true,decide_eq_true_eq]at hs;exact hs.2) _
   refine ρ ?_;refine clv (rkAdd_any (k:=i+1) o J cj om dj om om (v:=(i:Int)) om) ?_;rintro u cz ⟨rfl,a6,e3⟩;refine ρ ?_;exact Qa (i+1) _ (st+e) sO ⟨li,dj,(e3.same λc hc=>Jpm (de c hc)).more om,Jd bs a6 n9,Jd bq a6 n4,bj.gr (a6.mono λk _ h=>.inl h),db,om⟩ om
 .have f9:i=q.length:=by have:=oF h;omega
  clear h;subst f9;rw [List.take_length]at ag a9;refine ρ ?_;refine clv (rkProd_any o J a9) ?_;rw [Qbj];rintro cv v6 ⟨dt,ff,ae⟩;obtain ⟨ej,ei,rfl,_⟩:=id aw.1;obtain ⟨CA,cc,rfl,_⟩:=id dt;have co:=cq.ext ae;have fu:=cm.ext ae;have fo:=a9.ext ae;have dv:=aw.ext ae;have eo:=cq.lt;have gg:=cm.lt;have bm:K.mb<v5.heap.size:=nM o.m2 a9.gr.size;have fg:NatX (λk=>k=K.mb∨k=C∨k=b4) v6 (.slice CA (Jq (K.X.pend q.length q)).length cc) (K.X.pend q.length q):=⟨dt,λ_ ad m c e=>by
   have:=ff ad m c e;rintro (h|h|h)<;>omega⟩
  refine ρ ?_;refine sto (co.at (i:=1) rfl) (co.frozen 1) ?_;obtain ⟨v7,c7⟩:∃ v7,v7=v6.setCell ((⟨C,0,none⟩:Addr).add 1) (.slice CA (Jq (K.X.pend q.length q)).length cc):=⟨_,rfl⟩;rw [<-c7];have dm:GrN (λk=>k=C) v6 v7:=by rw [c7];exact GrN.set _ rfl
  have bb:Blk v7 C 131 [.slice ej (Jq (rkS K.X K.ds q q.length)).length ei,.slice CA (Jq (K.X.pend q.length q)).length cc,.bool false,.int .i64 (st:Int)]:=by rw [c7];exact co.set 1 _
  refine ρ ?_;refine ld (bb.at (i:=1) rfl) ?_;refine ρ ?_;refine sto (bb.at (i:=2) rfl) (bb.frozen 2) ?_;have d7:=o.ip.wi_len ne hqf ag;have fd:decide (0<((Jq (K.X.pend q.length q)).length:Int))=decide (0<(wiL K.L q).length):=by
   rw [d7];show decide _=decide (0<K.X.pend q.length q);rcases Nat.eq_zero_or_pos (K.X.pend q.length q) with h0|h0
   .rw [h0,limbs_0];rfl
   .rw [decide_eq_true h0,decide_eq_true (by have:=limbs_pos' (show K.X.pend q.length q≠0 by omega);omega)]
  obtain ⟨v8,c6⟩:∃ v8,v8=v7.setCell ((⟨C,0,none⟩:Addr).add 2) (.bool (decide (0<(wiL K.L q).length))):=⟨_,rfl⟩;have d8:v7.setCell ((⟨C,0,none⟩:Addr).add 2) (.bool (decide (0<((Jq (K.X.pend q.length q)).length:Int))))=v8:=by rw [fd];exact c6.symm
  refine Eq.mpr (congrArg _ d8) ?_;have fc:GrN (λk=>k=C) v7 v8:=by rw [c6];exact GrN.set _ rfl
  have fw:Blk v8 C 131 [.slice ej (Jq (rkS K.X K.ds q q.length)).length ei,.slice CA (Jq (K.X.pend q.length q)).length cc,.bool (decide (0<(wiL K.L q).length)),.int .i64 (st:Int)]:=by rw [c6];exact bb.set 2 _
  have aq:=dm.trans fc;have fk:=fo.off aq cx o;have ft:=Jd fu aq cy;refine ρ ?_;refine ldW fw ?_;refine ρ ?_;refine stW ft ?_;intro v9 fq bn c2;have c3:=c2 w (c5 ▸ o.ext fk.gr) om;have dl:GrN (λk=>k=b4) v8 v9:=GrN.by bn λk hk=>by injection hk with hk;exact hk.symm
  have ap:GrN (λk=>k=K.mb∨k=C∨k=b4) v6 v9:=(aq.mono λk _ h=>.inr (.inl h)).trans (dl.mono λk _ h=>.inr (.inr h));refine ρ ?_;refine Jqv fq ⟨_,_,st,rfl,?_,?_,Nat.le_trans f5 (sumR_mono hqf),c3⟩
  .rw [o.ip.rk_end ne hqf ag];exact (dv.gr ap).1
  .rw [d7];exact (fg.gr ap).1
end
open Go.RowKit Pl Go.Wk
section
variable {w:World} {x:Value} {f:Nat} {ds:List Bool} {kf:Nat->Nat} {pf:Nat->Int} {BB:Nat->List BkT} {tot:Nat} {L:List Row}
theorem rkPrefix_any{B0:Nat}(tb:TB B0 w)(h:IxA w x f ds kf pf BB tot L){PA:Option Addr}{pc:Nat}{q:Row}(hq:RdR w PA q)(hqc:q.length<=pc):
  Ret Tryz.prog 31 [x,.slice PA q.length pc] w λu w'=>Ext w w'/\(f<q.length->u=.tuple #[.slice none 0 0,.slice none 0 0,.int .i64 0,.int .i64 6]) /\
   (q.length<=f->∃ (lv hv:Value) (st:Nat),u=.tuple #[lv,hv,.int .i64 (st:Int),.int .i64 0]/\NatV w' lv (cntP ds L q)/\NatV w' hv (cntP ds L q+(wiL L q).length)/\st<=Qs f λv=>hmB (BB v)):=by
 have ix:=h.ix;have Z:=h.ip;obtain ⟨DA,dc,BA,cb,KA,ck,au,cp,tv,am,ak,rfl,aq,ar,hD,hB,hK,hP,ac,an⟩:=id ix.ex;obtain ⟨TA,tc,rfl,_⟩:=id ac;refine Jz Tryz.func31 Tryz.ntmps31 rfl kr rfl ?_;refine ρ ?_;refine bx ?_;intro w1 b U hb a3;refine ρ ?_;refine ldW a3 ?_;refine ρ ?_;refine cl (Jrx (ix.ext U)) ?_;rintro u w2 ⟨rfl,J⟩;refine ρ ?_;refine ci (λh=>?_) (λh=>?_)
 .have ao:f<q.length:=by have:=oT h;omega
  refine ρ ?_;exact fin4 ⟨U.trans J,λ_=>rfl,λh=>om⟩
 have ae:q.length<=f:=by have:=oF h;omega
 clear h;refine ρ ?_;refine ldW (a3.ext J) ?_;refine ρ ?_;refine cl (Qfw (ix.ext (U.trans J)) Z.nbT) ?_;rintro u w3 ⟨ab,_,a6⟩;have o:=(U.trans J).trans a6;obtain ⟨UA,uc,rfl,_⟩:=id ab;refine ρ ?_;refine ci (λh=>?_) (λh=>?_)
 .have h0:tot=0:=by
   have:=Xf h;rcases Nat.eq_zero_or_pos tot with h'|h'
   .exact h'
   .have:=limbs_pos' (show tot≠0 by omega);omega
  have hL:L=[]:=List.eq_nil_of_length_eq_zero (by rw [<-Z.len];exact h0);refine ρ ?_;refine fin4 ⟨o,λh=>om,λ_=>⟨_,_,0,rfl,?_,?_,Nat.zero_le _⟩⟩
  .rw [hL];exact NatV.nil _
  .rw [hL];exact NatV.nil _
 have ne:tot≠0:=λe=>by
  have:=Xg h;rw [e,limbs_0]at this;exact this rfl
 clear h;refine ρ ?_;refine ldW ((a3.ext J).ext a6) ?_;refine ρ ?_;refine cl (descend_any (tb.ext o) (ix.ext o) Z ne (Rd.ext hq o) hqc ae) ?_;rintro u w4 ⟨bv,cv,st,rfl,a2,a7,ad,aa⟩;obtain ⟨XA,xc,rfl,_⟩:=id a2;obtain ⟨YA,yc,rfl,_⟩:=id a7;refine ρ ?_;refine alc zDesc ?_;intro w5 b8 a9 ah ai;refine ρ ?_;refine stW ai ?_;intro w6 aj ap a8;have a5:Ext w4 w6:=a8 w4 a9 ah;have a4:Ext w6 w6.drew:=(Ext.refl w6).drew;have C:=a5.trans a4;have G:=aj.ext a4;have n1:(Jq (cntP ds L q)).length<=1000:=(Z.nbT.le (by rw [Z.len];exact cntP_le ds L q)).len;have n2:(Jq (wiL L q).length).length<=1000:=(Z.nbT.le (by rw [Z.len];exact List.length_filter_le _ _)).len;refine ρ ?_;refine drN (λ_=>False) 15 [(0,0),(0,1),(0,3),(0,4),(0,5),(0,6),(0,8),(0,9),(1,2),(1,7),(0,10),(0,11),(0,12),(0,13)] kr ?_;refine ρn ?_;refine nld (λw' hg=>(G.ext hg.toExt).at (i:=0) rfl) ?_;refine ρn ?_;refine nld (λw' hg=>(G.ext hg.toExt).at (i:=0) rfl) ?_
 refine ρn ?_;refine nld (λw' hg=>(G.ext hg.toExt).at (i:=1) rfl) ?_;refine ρn ?_;refine nld (λw' hg=>(G.ext hg.toExt).at (i:=3) rfl) ?_;refine ρn ?_;refine nop ?_;refine cl (Jcr (a2.ext C) n1) ?_;rintro lv w7 ⟨af,_,O⟩;refine ρ ?_;refine Je (GrN.ext O) ?_;refine ρn ?_;refine nop ?_;refine cl (natAdd_any ((a2.ext C).ext O) ((a7.ext C).ext O) n1 n2) ?_;rintro hv w8 ⟨ag,a1⟩;refine ρ ?_;refine Je (GrN.ext a1) ?_;refine ρn ?_;refine ρ ?_;exact fin4 ⟨((o.trans aa).trans C).trans (O.trans a1),λh=>om,λ_=>⟨lv,hv,st,rfl,af.ext a1,ag,ad⟩⟩
end
end Go.Proofs.YtebcagekopgdhaaGreatDoor
