/- Part 8. -/
import Derived.Test.YtbcdghbonlifdaaGreatDoorY07
set_option linter.unusedVariables false
set_option maxRecDepth 100000
set_option maxHeartbeats 40000000
namespace Go.Proofs.YtbcdghbonlifdaaGreatDoor
open Go.RowKit Pl Go.Wk
attribute [local irreducible] WC WL QX WD WDB WP WN WG WH WM
variable {M' b b2 b3 b5 b6 k pc:Nat}{PA:Option Addr}{q:Row}
structure RkM(K:SeK)(w:World)(y:Row)(S:Nat->Bool)(M m:Nat)(fm:Lit->Option Value): Prop where
 gr:GrN (λk=>k=K.mb) K.w1 w
 map:MapS Tryz.prog 3 w K.mb m fm
 mle:m<=M
 pd:PdF K y S fm
def RkV(K:SeK)(w:World)(y:Row)(S:Nat->Bool)(M:Nat): Prop:=∃ m fm,RkM K w y S M m fm
structure RkB(K:SeK)(b2 b3 b5 b6:Nat)(PA:Option Addr)(pc:Nat)(q:Row): Prop where
 x:Blk K.w1 b2 77 [K.x0,K.x1,K.x2,K.x3,K.x4]
 p:Blk K.w1 b3 46 [.slice PA q.length pc]
 b:Blk K.w1 b5 73 [.slice K.BA K.f K.bc]
 m:Blk K.w1 b6 205 [.map (some K.mb)]
 n2:b2≠K.mb
 n3:b3≠K.mb
 n5:b5≠K.mb
 n6:b6≠K.mb
 row:RdR K.w0 PA q
 le:q.length<=pc
section
variable {K:SeK} {w w':World} {y:Row} {S:Nat->Bool} {M m:Nat} {fm:Lit->Option Value}
theorem RkM.ext(h:RkM K w y S M m fm)(hx:Ext w w'): RkM K w' y S M m fm:=⟨h.gr.trans (GrN.ext hx),h.map.ext hx,h.mle,h.pd⟩
theorem RkV.ext(h:RkV K w y S M)(hx:Ext w w'): RkV K w' y S M:=by obtain⟨m,fm,h⟩:=h;exact⟨m,fm,h.ext hx⟩
theorem RkV.same{S':Nat->Bool}(h:RkV K w y S M)(e:∀ c,c<K.f->S c=S' c): RkV K w y S' M:=by
 obtain⟨m,fm,h⟩:=h;refine⟨m,fm,⟨h.gr,h.map,h.mle,λc i hs=>h.pd.1 c i ((e c i).trans hs),λj o=>?_⟩⟩;obtain⟨c,D,C,u⟩:=h.pd.2 j o;grind
theorem RkV.more(h:RkV K w y S M)(hM:M<=M'): RkV K w y S M':=by
 obtain⟨m,fm,h⟩:=h;exact⟨m,fm,h.gr,h.map,Nat.le_trans h.mle hM,h.pd⟩
theorem RkV.gr(h:RkV K w y S M): GrN (λk=>k=K.mb) K.w1 w:=by obtain⟨m,fm,h⟩:=h;exact h.gr
theorem RkV.off(h:RkV K w y S M)(hg:GrN (λk=>k=b) w w')(hb:K.w1.heap.size<=b)(hF:SeF K): RkV K w' y S M:=by
 obtain⟨m,fm,h⟩:=h;refine⟨m,fm,?_,h.map.gr hg λe=>by have:=hF.m2;omega,h.mle,h.pd⟩;exact((h.gr.mono λk _ h=>(.inl h:k=K.mb∨k=b)).trans (hg.mono λk _ h=>.inr h)).mono λk i h=>h.elim id λe=>by omega
theorem RkV.app(h:RkV K w y S M)(hF:SeF K)(hS:∀ c,c<K.f->S c=true->K.pf c<(y.length:Int))(z:Row): RkV K w (y++z) S M:=by
 obtain⟨m,fm,h⟩:=h;exact⟨m,fm,h.gr,h.map,h.mle,h.pd.app hF hS z⟩
theorem Qkj(hq:k<=q.length): (q.take k).length=k:=by grind
def SF.key(K:SeK)(c:Nat)(y:Row): SF:=⟨λv w=>RowV w v (pmR (bk (K.kf c) 32) y),λh hx=>h.ext hx⟩
def SF.tr(K:SeK)(c:Nat)(y:Row): SF:=⟨λv _=>∃ d p,v=.tuple #[.agg #[.bool d,.pointer p],.bool (Zp (K.BB c) (pmR (bk (K.kf c) 32) y)).isSome]/\TrV (λ_=>False) K.w0 (K.t c y) (.pointer p)/\(K.t c y≠.nil->d=K.ds.getD c false),λh _=>h⟩
def SF.tr2(K:SeK)(c:Nat)(y:Row): SF:=⟨λv _=>∃ d p,v=.agg #[.bool d,.pointer p]/\TrV (λ_=>False) K.w0 (K.t c y) (.pointer p)/\(K.t c y≠.nil->d=K.ds.getD c false),λh _=>h⟩
def SF.tbox(s:Nat): SF:=⟨λv w=>∃ b,v=.pointer (some ⟨b,0,none⟩)/\s<=b/\Blk w b 91 [.bool false,.pointer none],λ⟨b,e,h1,h2⟩ hx=>⟨b,e,h1,h2.ext hx⟩⟩
theorem Qqf(hF:SeF K)(hb:RkB K b2 b3 b5 b6 PA pc q)(hV:RkV K w (q.take k) S M)(hM:M<=4096)(hg:K.X.Gp (q.take k))(hkq:k<=q.length)(hkf:k<=K.f){v:Int}(hv:v+1=(k:Int)):
  Ret Tryz.prog 136 [.int .i64 v,.pointer (some ⟨b5,0,none⟩),.pointer (some ⟨b2,0,none⟩),.pointer (some ⟨b3,0,none⟩),.pointer (some ⟨b6,0,none⟩)] w λu w'=>u=.tuple #[]/\GrN (λk=>k=K.mb) w w'/\RkV K w' (q.take k) (λc=>S c || decide (K.pf c=v)) (M+K.f):=by
 have f32:=hF.ip.f32;have a6:=Qkj hkq;refine enE Tryz.func136 Tryz.ntmps136 ?_;refine ldR ((Jv hb.b hV.gr hb.n5).at (i:=0) rfl) ?_;refine ρ ?_;refine Qm (fun (c:Nat)=>[(0,.int .i64 v),(2,.pointer (some ⟨b2,0,none⟩)),(3,.pointer (some ⟨b3,0,none⟩)),(4,.pointer (some ⟨b6,0,none⟩)),(10,.slice K.BA K.f K.bc),(11,.int .i64 (K.f:Int)),(12,.int .i64 (c:Int))])
  (λc w'=>c<=K.f/\GrN (λk=>k=K.mb) w w'/\RkV K w' (q.take k) (λj=>S j || (decide (j<c) && decide (K.pf j=v))) (M+c)) (λc=>K.f-c) 0 sB
  ⟨Nat.zero_le _,GrN.refl _ _,hV.same λc _=>by simp⟩ ?_
 rintro c w1 ⟨hc,a9,a2⟩;refine ciR (λh=>?_) (λh=>?_)
 .have lc:c<K.f:=by have:=oT h;omega
  clear h;have am:=hF.bg w1 a2.gr;refine Qn 3 c am lc ?_;refine Jl (cs:=Xj K.kf K.pf c) (Qcs am lc) ?_;refine Jw Jwh ?_;intro w2 bb ax b1 bd;refine Qf (cs':=Xj K.kf K.pf c) bd ?_ Jzs;intro w3 au ai aw;have D:Ext w1 w3:=aw w1 ax b1;refine ldR (au.at (i:=2) rfl) ?_;refine ciR (λh=>?_) (λh=>?_)
  .have hp:K.pf c=v:=Zf h;clear h;have a7:Ext w3 w3.drew:=(Ext.refl w3).drew;have ap:=a2.ext D;have aa:=ap.ext a7;have G:=hF.ext aa.gr;have a3:=Jv hb.x aa.gr hb.n2;have ba:=Jv hb.p aa.gr hb.n3;have ae:RdR w3.drew PA (q.take k):=by
    have:=(Rd.ext hb.row G).take (m:=k) hkq;rw[Jhs q hkq]at this;show Rd _ 3 PA (q.take k).length _;rw[a6];exact this
   have ay:=hF.ip.keyb hF.ne lc (m:=k) (by rw[hp];omega);have aj:=hF.ip.fitK hg c;have ak:∀ {d:Bool},((Zp (K.BB c) (pmR (bk (K.kf c) 32) (q.take k))).isSome=true->d=K.ds.getD c false)->K.t c (q.take k)≠.nil->d=K.ds.getD c false:=fun {d} h hne=>h (by
    cases hi:Zp (K.BB c) (pmR (bk (K.kf c) 32) (q.take k)) with
    | none=>exact absurd (Jdv hi) hne
    | some i=>rfl)
   refine ρ ?_;refine drH (λi=>Nat.ble 14 i) ?_;refine Jkl 2 (lst 16 14) (fun (y:Bool×Option Addr×Nat)=>[(32,.agg #[.bool y.1,.pointer y.2.1]),(33,.bool (Zp (K.BB c) (pmR (bk (K.kf c) 32) (q.take k))).isSome),(8,.pointer (some ⟨y.2.2,0,none⟩)),(0,.int .i64 v),(2,.pointer (some ⟨b2,0,none⟩)),(3,.pointer (some ⟨b3,0,none⟩)),(4,.pointer (some ⟨b6,0,none⟩)),(6,.int .i64 (c:Int)),(10,.slice K.BA K.f K.bc),(11,.int .i64 (K.f:Int)),(12,.int .i64 (c:Int))])
    (λy W=>Ext w3.drew W/\Blk W y.2.2 91 [.bool false,.pointer none]/\w3.drew.heap.size<=y.2.2/\TrV (λ_=>False) K.w0 (K.t c (q.take k)) (.pointer y.2.1)/\(K.t c (q.take k)≠.nil->y.1=K.ds.getD c false)) ?_ ?_
   rotate_left
   .intro rest;refine Qwp 17 12 2 _ (lst 16 14) [0,1,2,3,4,5,6,7,8,9,10,11,12,13] [22,23,24,25,26,27,28,29,30,31,21,32,33,8] [SF.bk a3,SF.eq (.int .i64 (c:Int)),SF.bk a3,SF.eq (.int .i64 (c:Int)),SF.eq (.slice PA q.length pc),SF.eq (.int .i64 v),SF.eq (.int .i64 (k:Int)),SF.eq (.slice PA k pc),SF.key K c (q.take k),SF.tr K c (q.take k),SF.tr K c (q.take k),SF.tr2 K c (q.take k),SF.eq (.bool (Zp (K.BB c) (pmR (bk (K.kf c) 32) (q.take k))).isSome),SF.tbox w3.drew.heap.size] kr (by rfl) ?_ ?_ ?_
    .refine gsc (λvs J o hd=>?_) ?_
     .simp only[slM];refine ldW (a3.ext o) ?_;refine ρ ?_;exact Zg (Ext.refl _) rfl
     refine gsc (λvs J o hd=>?_) ?_
     .simp only[slM];refine ρ ?_;exact Zg (Ext.refl _) rfl
     refine gsc (λvs J o hd=>?_) ?_
     .simp only[slM];refine ldW (a3.ext o) ?_;refine ρ ?_;exact Zg (Ext.refl _) rfl
     refine gsc (λvs J o hd=>?_) ?_
     .simp only[slM];refine ρ ?_;exact Zg (Ext.refl _) rfl
     refine gsc (λvs J o hd=>?_) ?_
     .simp only[slM];refine ld ((ba.ext o).at (i:=0) rfl) ?_;refine ρ ?_;exact Zg (Ext.refl _) rfl
     refine gsc (λvs J o hd=>?_) ?_
     .simp only[slM];refine ρ ?_;exact Zg (Ext.refl _) rfl
     refine gsc (λvs J o hd=>?_) ?_
     .have e5:vs 5=_:=hd 5;simp only[slM,e5];refine ρ ?_;exact Zg (Ext.refl _) (congrArg (Value.int .i64) hv)
     refine gsc (λvs J o hd=>?_) ?_
     .have e4:vs 4=_:=hd 4;have e6:vs 6=_:=hd 6;have:=hb.le;simp only[slM,e4,e6];refine slh k ?_;refine ρ ?_;exact Zg (Ext.refl _) rfl
     refine gsc (λvs J o hd=>?_) ?_
     .have e2:vs 2=_:=hd 2;have e3:vs 3=_:=hd 3;have e7:vs 7=_:=hd 7;simp only[slM,e2,e3,e7];have ah:=Jds (hF.ix.ext (G.trans o)) lc (c:=pc) (Rd.ext ae o) (by have:=hb.le;omega) om (by rw[a6];exact ay);rw[a6]at ah;refine cl ah ?_;rintro uk W ⟨⟨KA,kc,rfl,ag,af,a8,_⟩,hy⟩;exact Jc (Zg hy ⟨KA,kc,rfl,ag,af,a8⟩)
     refine gsc (λvs J o hd=>?_) ?_
     .have e0:vs 0=_:=hd 0;have e1:vs 1=_:=hd 1;obtain⟨KA,kc,e8,ag,af,a8⟩:=hd 8;simp only[slM,e0,e1,e8];refine cl (Jvx (hF.tb.ext (G.trans o)) (G.trans o) hF.ix lc a8 aj) ?_;rintro u W ⟨d,p,rfl,O,C,hy⟩;exact Jc (Zg hy ⟨d,p,rfl,O,ak C⟩)
     refine gsc (λvs J o hd=>?_) ?_
     .obtain⟨d,p,e9,O,C⟩:=hd 9;simp only[slM,e9];refine ρ ?_;exact Zg (Ext.refl _) ⟨d,p,rfl,O,C⟩
     refine gsc (λvs J o hd=>?_) ?_
     .obtain⟨d,p,a1,O,C⟩:=hd 10;simp only[slM,a1];refine ρ ?_;exact Zg (Ext.refl _) ⟨d,p,rfl,O,C⟩
     refine gsc (λvs J o hd=>?_) ?_
     .obtain⟨d,p,a1,O,C⟩:=hd 10;simp only[slM,a1];refine ρ ?_;exact Zg (Ext.refl _) rfl
     refine gsc (λvs J o hd=>?_) gse
     simp only[slM];refine alc Vs ?_;intro W b9 hy b4 Z;exact Jc (Zg hy ⟨b9,rfl,Nat.le_trans o.size b4,Z⟩)
    .intro vs W hy hf;obtain⟨b9,ab,h9,Z⟩:=hf 13;obtain⟨d,p,ac,O,C⟩:=hf 11;have be:vs 12=_:=hf 12;simp only[slM,ab,be,ac];exact rest (d,p,b9) _ _ ⟨hy,Z,h9,O,C⟩ sB
    intro _ vs W hy hf;obtain⟨b9,ab,h9,Z⟩:=hf 13;obtain⟨d,p,ac,O,C⟩:=hf 11;obtain⟨d2,p2,a1,_,_⟩:=hf 10;simp only[slM,ab,ac,a1];refine Uf (fuel':=2) 12 kr kr rfl rfl ?_;refine ρp ?_;refine ρd ?_;refine Xw ?_;refine hlist (listed':=lst 16 14) kr ?_;exact rest (d,p,b9) _ _ ⟨hy,Z,h9,O,C⟩ sB
   rintro⟨d,p,b9⟩ W ⟨av,ar,an,O,hd⟩;simp only at ar an O hd;refine Zz (fuel':=0) 17 [(2,14),(2,15)] (lst 16 16) kr kr rfl ?_;refine Qk ?_;refine stW ar ?_;intro W2 aq bf ad;refine Jc (Xz ?_);refine Qk ?_;refine ρ ?_;refine Xz ?_;refine Uu (Xw ?_);refine Vo kr ?_;have a4:Ext w3 W2:=ad w3 (a7.trans av) (nL a7.size an);have b7:=ap.ext a4;obtain⟨m,fm,HW⟩:=id b7;refine ldR ((Jv hb.m HW.gr hb.n6).at (i:=0) rfl) ?_;refine Jo aq ?_;refine ρ ?_;refine mup KI HW.map (by have:=HW.mle;unfold maxLen;omega) (Jxk (c:=c) om) ?_;intro W3 b8 ai;have a5:GrN (λk=>k=K.mb) W2 W3:=GrN.by ai λk hk=>by injection hk with hk;exact hk.symm
   have ao:RkV K W3 (q.take k) (λj=>(S j || (decide (j<c) && decide (K.pf j=v))) || decide (j=c)) (M+(c+1)):=⟨_,_,HW.gr.trans a5,b8,by have:=HW.mle;omega,HW.pd.put f32 lc O hd⟩;refine ρ ?_;refine Qy (c+1) sO ⟨lc,(a9.trans (GrN.ext (D.trans a4))).trans a5,ao.same λj _=>?_⟩ om;by_cases e:j=c
   .subst e;simp[hp]
   have:(decide (j<c+1))=decide (j<c):=by by_cases h1:j<c<;>simp[h1]<;>omega
   rw[this];simp[e]
  have hp:¬ K.pf c=v:=Zd h;clear h;refine ρ ?_;refine Qy (c+1) sO ⟨lc,a9.trans (GrN.ext D),((a2.ext D).same λj _=>?_).more om⟩ om;by_cases e:j=c
  .subst e;simp[hp]
  have:(decide (j<c+1))=decide (j<c):=by by_cases h1:j<c<;>simp[h1]<;>omega
  rw[this]
 have az:c=K.f:=by have:=oF h;omega
 subst az;clear h;refine ρ ?_;refine Gd ⟨rfl,a9,a2.same λj hj=>?_⟩;simp[hj]
theorem Qqc(hF:SeF K)(hb:RkB K b2 b3 b5 b6 PA pc q)(hV:RkV K w y S M):
  Ret Tryz.prog 137 [.pointer (some ⟨b6,0,none⟩)] w λu w'=>NatV w' u (K.X.prodS S y)/\Fresh w u/\Ext w w':=by
 have f32:=hF.ip.f32;obtain⟨m,fm,H⟩:=id hV;have a2:=Jv hb.m H.gr hb.n6;obtain⟨g,hg⟩:∃ g:(Lit->Bool)->Nat->Nat,g=λleft c=>if S c=true/\left (.int .i64 (c:Int))=false then K.X.T c y else 1:=⟨_,rfl⟩
 have aq:∀ left c,g left c<=4294967296^20:=λleft c=>by
  rw[hg];simp only;split
  .rw[K.T];exact hF.ip.big _ _
  repeat grind
 have ao:∀ left,Nb (Jg K.f (g left)):=λleft=>Nb.pow (k:=K.f) (Jqv (Nat.pow_pos (by decide)) λc _=>aq left c) om;refine enE Tryz.func137 Tryz.ntmps137 ?_;refine clR (Jxc 1 (by decide) _) ?_;rintro G w1 ⟨a8,ac,D⟩;refine ldR ((a2.ext D).at (i:=0) rfl) ?_;refine ρ ?_;refine rngm KI (H.map.ext D) ?_;intro w2 r cnt Z a7 af;have lr:w.heap.size<=r:=nL D.size a7;refine ρ ?_;refine Zj (fun (left:Lit->Bool) (cnt:Nat) (G:Value)=>[(2,G),(7,.pointer (some ⟨r,0,none⟩))])
  (λleft cnt G w'=>Ext w w'/\RgS Tryz.prog 3 w' K.mb r m fm left cnt/\NatX (λk=>k=r) w' G (Jg K.f (g left))/\Fresh w G) (λ_ cnt _=>cnt) _ cnt G sB ⟨D.trans Z,af,?_,ac⟩ ?_
 .have e:Jg K.f (g λkl=>(fm kl).isSome)=1:=Jlf λc hc=>by
   rw[hg];simp only;rw[if_neg];rintro⟨h1,h2⟩;obtain⟨d,p,h3,_⟩:=H.pd.1 c hc h1;rw[h3]at h2;cases h2
  rw[e];exact(NatX.old (N:=λ_=>False) ⟨a8,λ_ _ _ _ _ h=>h⟩ λk hk=>.inr (by rw[hk];exact a7)).ext Z
 clear a8 ac af Z D G cnt;rintro left cnt G w3 ⟨a4,aw,a1,ar⟩;refine ρ ?_;refine nxtm KI aw (λhl=>?_) (λkey v kl w4 ag ay az ab ae ap a9 au=>?_)
 .refine ρ ?_;have e:Jg K.f (g left)=K.X.prodS S y:=Up λc hc=>by grind
  rw[e]at a1;exact Jj ⟨a1.1,ar,a4⟩
 obtain⟨c,hc,a6,rfl⟩:=H.pd.2 kl (by rw[ab];simp);obtain⟨d,p,J,ht,_⟩:=H.pd.1 c hc a6;rw[ab]at J;injection J with J
 subst J;have O:Ext w w4:=a9.old a4 λk hk=>by rw[hk];exact lr
 refine ρ ?_;refine entm au ?_;refine Jw Vs ?_;intro w5 b5 aj av ax;refine Qo ax ?_;intro w6 a2 b1 ai;have o:Ext w4 w6:=ai w4 aj av;refine Jo a2 ?_;refine ρ ?_;have a5:Ext K.w0 w6:=(hF.ext H.gr).trans (O.trans o);refine cl (Jgr (ht.ext a5) (by rw[<-K.T];exact Nb.pow (k:=1) (by rw[Nat.pow_one,K.T];exact hF.ip.big _ _) om)) ?_;rintro ut w7 ⟨ak,b4,C⟩;have an:NatV w7 G (Jg K.f (g left)):=(((a1.gr a9).ext o).ext C).1;refine clR (Jkc an ak (ao left).len (Nb.len (Nb.pow (k:=1) (by rw[Nat.pow_one];exact hF.ip.big _ _) om))) ?_;rintro ur w8 ⟨am,aa,a3⟩;refine ρ ?_;refine Xx _ ag ur sO ⟨((O.trans o).trans C).trans a3,((ae.ext o).ext C).ext a3,?_,λad m c e=>?_⟩ ap
 .have ah:r<w7.heap.size:=nM (ae.lt) (o.trans C).size;have e:Jg K.f (g λz=>left z && !z.sameKey (.int .i64 (c:Int)))=Jg K.f (g left)*(K.t c y).sum:=by
   rw[Jwz hc,Jwz (g:=g left) hc];have h1:g left c=1:=by grind
   have h2:g (λz=>left z && !z.sameKey (.int .i64 (c:Int))) c=(K.t c y).sum:=by
    rw[hg];simp only;rw[if_pos ⟨a6,by rw[WideAt.sameKey_self (Jdl om)];simp⟩,K.T]
   rw[h1,h2,Nat.one_mul,Nat.mul_comm];congr 1
   refine Up λj hj=>?_;by_cases ej:j=c
   .rw[if_pos ej,if_pos ej]
   rw[if_neg ej,if_neg ej,hg];simp only;have:(Lit.int .i64 (j:Int)).sameKey (.int .i64 (c:Int))=false:=Maps.sameKey_ne λe'=>ej (Jdf e');grind
  rw[e];exact aa.x am λk hk=>by rw[hk];exact ah
 exact nL (((O.trans o).trans C).size) (aa ad m c e)
end
open Go.RowKit Pl Go.Wk
variable {B0 c m n pc:Nat}{q z:Row}{K:SeK}
def tt2: TT:=(165,{ desc:=.invalid,size:=4,offs:=[0,1,2,3] })::tt
theorem Qhs: TOk Tryz.prog tt2:=⟨⟨_,Tryz.underlying165,kr,kr⟩,Jjb⟩
instance:Tab Tryz.prog tt2:=⟨Qhs,mixed⟩
theorem Jbl: Qu Tryz.prog 165=some (.agg #[.slice none 0 0,.slice none 0 0,.bool false,.int .i64 0]):=kr
theorem zBags: Qu Tryz.prog 73=some (.slice none 0 0):=kr
theorem zMapT: Qu Tryz.prog 205=some (.map none):=kr
theorem Jtl{g:Nat->Nat}(h:n<=m): Qb n g<=Qb m g:=by
 induction h with
 | refl=>exact nR _
 | step h ih=>rw[Qb];omega
theorem Jfn(d:Bool)(v:V): ∀ t:Tr,Tr.befT d v t<=t.sum
 | .nil=>nR _
 | .node l a y r=>by
  have h1:=Jfn d v l;have h2:=Jfn d v r;rw[Tr.befT,Tr.sum];grind
theorem SeF.bef(hF:SeF K)(hc:c<K.f){d:Bool}(hd:K.t c z≠.nil->d=K.ds.getD c false)(v:V):
  Tr.befT d v (K.t c z)=bef (K.ds.getD c false) v (K.X.E c (K.X.key c z)):=by
 rw[K.E];by_cases h:K.t c z=.nil
 .rw[h];rfl
 have hs:Gq d (K.t c z).toL:=by
  rw[hd h,<-K.E];exact(hF.ip.srt hF.ne).srt c hc _
 rw[(Tr.befT_eq hs).1,hd h]
theorem SeF.onb(hF:SeF K)(m:Nat)(z:Row): Nb (K.X.others m z):=by
 refine Nb.pow (k:=K.f) (Jqv (Nat.pow_pos (by decide)) λc _=>?_) hF.ip.f32;split
 .rw[K.T];exact hF.ip.big _ _
 repeat grind
theorem SeF.rk_le(hF:SeF K)(hq:q.length<=K.f)(hm:m<=q.length)(hg:K.X.Gp (q.take m)): Nb (rkS K.X K.ds q m) :=
 hF.ip.nbT.le (by have:=hF.ip.rk_inv hF.ne hq hm hg;rw[hF.ip.len];exact this)
section
variable {f:Nat} {ds:List Bool} {kf:Nat->Nat} {pf:Nat->Int} {BB:Nat->List BkT} {tot:Nat} {L:List Row}
theorem Qvs{w:World}{x:Value}{PA:Option Addr}(tb:TB B0 w)(ix:IxV w x f ds kf pf BB tot)(ip:IxP f ds kf pf BB tot L)(ne:tot≠0)(hq:RdR w PA q)(hqc:q.length<=pc)(hqf:q.length<=f):
  Ret Tryz.prog 96 [x,.slice PA q.length pc] w λu w'=>∃(bv cv:Value) (st:Nat),u=.agg #[bv,cv,.bool (decide (0<(wiL L q).length)),.int .i64 (st:Int)]/\NatV w' bv (Qh ds L q)/\NatV w' cv (wiL L q).length/\(st<=Qb f λv=>hmB (BB v))/\Ext w w':=by
 obtain⟨DA,dc,BA,cb,KA,ck,g3,cp,tv,gj,ge,rfl,gu,gw,hD,hB,hK,hP,f4,gk⟩:=id ix.ex;obtain⟨TA,tc,rfl,_⟩:=id f4;have f32:=ip.f32;refine enE Tryz.func96 Tryz.ntmps96 ?_;refine bxR ?_;intro w1 b2 f2 gz cx;refine bxR ?_;intro w2 b3 b8 gy ei;refine Jw Jbl ?_;intro w3 b4 af gx eg;have d8:=f2.trans b8;have ak:=d8.trans af;refine Jo ((cx.ext b8).ext af) ?_;refine clR (Jmv (ix.ext ak)) ?_;rintro u w4 ⟨⟨A,c,rfl,hc,hR,hf⟩,a5⟩;refine Jw zBags ?_;intro w5 b5 f0 fl fz;refine ρ ?_;refine Vh fz ?_ rfl;intro w6 bs gn ez;have O:Ext w4 w6:=ez w4 f0 fl;refine ρ ?_;refine mkm 3 ?_;intro w7 mb d6 gm hM;refine Jw zMapT ?_;intro w8 b6 ey fk fy;refine ρ ?_;refine Vh fy ?_ rfl;intro w9 ed dn ew;have ai:Ext w7 w9:=ew w7 ey fk;have be:=d6.trans ai;have a4:=O.trans be;have bf:=ak.trans (a5.trans a4);have e9:=hM.ext ai;have ej:=((cx.ext b8).ext af).ext (a5.trans a4);have eh:=(ei.ext af).ext (a5.trans a4)
 have ef:=eg.ext (a5.trans a4);have ee:=bs.ext be;have gf:=hM.lt;have l1:=cx.lt;have l2:=ei.lt;have l3:=eg.lt;have l5:=bs.lt;have z1:=(b8.trans (af.trans (a5.trans O))).size;have z2:=(af.trans (a5.trans O)).size;have z3:=(a5.trans O).size;have z4:=O.size;have z7:=d6.size;have g5:=ai.size;have z0:=(ak.trans (a5.trans O)).size;have g7:=bf.size;obtain⟨K,ay⟩:∃ K:SeK,K=⟨B0,w,w9,mb,w9.heap.size,.slice DA f dc,.slice BA f cb,.slice KA f ck,.slice g3 f cp,.slice TA (Jq tot).length tc,A,c,f,ds,kf,pf,BB,tot,L⟩:=⟨_,rfl⟩;have e0:Off (λk=>k=mb) w9 (λu=>Rd u 3 A f (Ql f (Xj kf pf))):=Kf (hR.ext a4) λh0 ad e (e2:ad.block=mb)=>by
  obtain⟨h4,e',fa⟩:=hR.2 h0;rw[e]at e';injection e' with e'
  have:=fa.1;rw[<-e']at this;omega
 have o:SeF K:=by
  subst ay;exact⟨tb,ix,ip,ne,bf,by show w.heap.size<=mb;omega,e9.lt,Nat.le_refl _,hc,e0,Jlr⟩
 have G:RkB K b2 b3 b5 b6 PA pc q:=by
  subst ay;exact⟨ej,eh,ee,ed,by show b2≠mb;omega,by show b3≠mb;omega,by show b5≠mb;omega,by show b6≠mb;omega,hq,hqc⟩
 have fq:RkV K w9 (q.take 0) (λ_=>false) 0:=by
  subst ay;exact⟨0,λ_=>none,GrN.refl _ _,e9,Nat.le_refl _,λc _ h=>(by cases h),λkl h=>absurd rfl h⟩
 have g0:K.f=f/\K.ds=ds/\K.kf=kf/\K.pf=pf/\K.BB=BB/\K.tot=tot/\K.L=L/\K.w1=w9/\K.w0=w/\K.mb=mb:=by subst ay;exact⟨rfl,rfl,rfl,rfl,rfl,rfl,rfl,rfl,rfl,rfl⟩
 obtain⟨rfl,rfl,rfl,rfl,rfl,rfl,rfl,f3,c7,bj⟩:=g0;clear ay;have dg:∀ c,c<K.f->K.pf c<(c:Int):=λc hc=>(o.ip.par ne hc).2;have fd:K.X.Ok:=o.ip.ok ne;have fc:∀ v z,(K.t v z).ht<=hmB (K.BB v):=λv z=>Jtd _ _;have dk:∀ v z,(K.t v z).ht<=65536:=λv z=>nL (Tr.ht_le _) (o.ip.siz _ _);have bh:∀ v z,Nb (K.t v z).sum:=λv z=>Nb.pow (k:=1) (by rw[Nat.pow_one];exact o.ip.big _ _) om;have db:∀ v z,(K.t v z).sz<=1000000:=λv z=>nL (o.ip.siz _ _) (by decide);refine Jw Jbl ?_;intro gb C aj fj ec;refine ρ ?_;refine clv (Qqf (k:=0) o G (fq.ext aj) om (AX.Gp.nil) (Nat.zero_le _) (Nat.zero_le _) (v:=-1) rfl) ?_;rintro u ga ⟨rfl,av,ax⟩;have l9:=ec.lt;have g6:=aj.size;have n9:¬ C=K.mb:=by rw[bj];omega
 have n4:¬ b4=K.mb:=by rw[bj];omega
 have b1:=Jv ec av n9;have b7:=Jv (ef.ext aj) av n4;have d0:b4≠C:=om
 have cz:K.w1.heap.size<=C:=by rw[f3];exact fj
 refine ldR ((Jv G.p ax.gr G.n3).at (i:=0) rfl) ?_;refine ρ ?_;refine Zj (fun (i:Nat) (bv:Value) (st:Nat)=>[(4,.pointer (some ⟨b4,0,none⟩)),(6,.pointer (some ⟨b6,0,none⟩)),(7,.func (.func 136) #[] #[.pointer (some ⟨b5,0,none⟩),.pointer (some ⟨b2,0,none⟩),.pointer (some ⟨b3,0,none⟩),.pointer (some ⟨b6,0,none⟩)]),(8,.func (.func 137) #[] #[.pointer (some ⟨b6,0,none⟩)]),(9,.pointer (some ⟨C,0,none⟩)),(23,.slice PA q.length pc),(24,.int .i64 (q.length:Int)),(25,.int .i64 (i:Int))])
  (λi bv st w'=>i<=q.length/\K.X.Gp (q.take i)/\RkV K w' (q.take i) (pS K.pf i i) (32*(i+1))/\Blk w' C 165 [bv,.slice none 0 0,.bool false,.int .i64 (st:Int)]/\Blk w' b4 165 [.slice none 0 0,.slice none 0 0,.bool false,.int .i64 0]/\NatX (λk=>k=K.mb∨k=C∨k=b4) w' bv (rkS K.X K.ds q i)/\(st<=Qb i λv=>hmB (K.BB v))/\st<=65536*i) (λi _ _=>q.length-i) 0 (.slice none 0 0) 0 sB
  ⟨Nat.zero_le _,AX.Gp.nil,?_,b1,b7,NatX.nil _,Nat.le_refl _,Nat.le_refl _⟩ ?_
 .refine(ax.same λc hc=>?_).more om;have:=o.ip.par ne hc;unfold pS;rw[Bool.eq_iff_iff];simp only[Bool.or_eq_true,Bool.and_eq_true,decide_eq_true_eq];constructor
  .rintro(h|h)
   .cases h
   exact⟨Nat.zero_le _,om⟩
  rintro⟨_,h⟩;right;omega
 clear b1 b7 ax av;rintro i bv st v5 ⟨hi,ag,a9,cw,co,aw,f7,gl⟩;have cg:(q.take i).length=i:=Qkj hi;have d7:=o.ext a9.gr;refine ciR (λh=>?_) (λh=>?_)
 .have li:i<q.length:=by have:=oT h;omega
  have a8:i<K.f:=om
  clear h;have df:=Rd.ext hq (c7 ▸ d7);refine Qn 3 i df li ?_;refine Jl (cs:=(q.getD i V0).cells) (λj u' cd=>RdR.cell df li cd) ?_;refine Jw (cs:=V0.cells) Vf ?_;intro v6 g2 ae e3 bz;refine Qf (cs':=(q.getD i V0).cells) bz ?_ (V.one _);intro v7 fx dq eu;have ah:Ext v5 v7:=eu v5 ae e3;have fo:=a9.ext ah;obtain⟨m0,fm,H⟩:=id fo;obtain⟨d,p,fg,hT,hd⟩:=H.pd.1 i a8 (by unfold pS;simp[dg i a8]);refine ldR ((Jv G.m H.gr G.n6).at (i:=0) rfl) ?_;refine ρ ?_;refine mlk KI H.map Qfg (Jxk (c:=i) om) ?_;rw[fg];refine Jw Vs ?_;intro v8 g1 et e1 bw;refine Qo bw ?_;intro v9 cy bm c4;have aa:Ext v7 v9:=c4 v7 et e1;have H9:=H.ext aa;refine ldR ((Jv G.m H9.gr G.n6).at (i:=0) rfl) ?_;refine ρ ?_;refine mdn KI H9.map (Jxk (c:=i) om) ?_;intro c2 ea dt;have a1:GrN (λk=>k=K.mb) v9 c2:=GrN.by dt λk hk=>by injection hk with hk;exact hk.symm
  have g4:K.mb<v7.heap.size:=H.map.lt;have bl:K.mb<v5.heap.size:=nM o.m2 a9.gr.size;have gi:=bz.lt;have g9:=ah.size;have g8:=aa.size;have gh:=bw.lt;have ep:¬ g2=K.mb:=om
  have eo:¬ g1=K.mb:=om
  have bo:RkV K c2 (q.take i) (pS K.pf (i+1) i) (32*(i+1)):=RkV.same ⟨_,_,H9.gr.trans a1,ea,H9.mle,H9.pd.drop o.ip.f32 a8⟩ λc _=>Jlm;have bc:=Jv (fx.ext aa) a1 ep;have bb:=Jv cy a1 eo;have a2:GrN (λk=>k=K.mb) v5 c2:=((GrN.ext ah).trans (GrN.ext aa)).trans a1;have eb:=Jv cw a2 n9;have bq:=Jv co a2 n4;have cm:=aw.gr (a2.mono λk _ h=>.inl h);refine Jo bb ?_;refine Jl (cs:=(q.getD i V0).cells) (λj u' cd=>bc.at cd) ?_;refine ρ ?_;have c6:=o.ext bo.gr;refine cl (Qcm (hT.ext c6) (bh _ _) (db _ _)) ?_;rintro u c1 ⟨sv,e,rfl,he,f6,d5⟩;have c3:Ext c1 c1.drew:=(Ext.refl c1).drew;have J:=d5.trans c3;have e4:=bo.ext J;have cq:=eb.ext J;have dw:=cm.ext J;have gt:=fc i (q.take i);have gq:=dk i (q.take i);refine ρ ?_;refine drN (λ_=>False) 10 (Go.Wk.sc 9 [4,5,6,108]) kr ?_;refine ρn ?_;refine nld (λw' hg=>(cq.ext hg.toExt).at (i:=0) rfl) ?_;refine ρn ?_;refine nop ?_;refine clv (Qqc o G e4) ?_
  rw[Qqw];rintro pv en ⟨f9,_,D⟩;refine ρ ?_;refine Jr (GrN.ext D) ?_;refine ρn ?_;refine nop ?_;have dd:=(f6.ext c3).ext D;refine cl (Jkc dd f9 ((bh i (q.take i)).le (Jfn _ _ _)).len (o.onb _ _).len) ?_;rintro mv gc ⟨dj,_,ab⟩;rw[o.bef a8 hd]at dj;refine ρ ?_;refine Jr (GrN.ext ab) ?_;refine ρn ?_;refine nop ?_;have cj:=((dw.ext D).ext ab).1;have ce:Nb (bef (K.ds.getD i false) (q.getD i V0) (K.X.E i (K.X.key i (q.take i)))*K.X.others i (q.take i)):=by
   refine(o.pnb i (q.take i)).le ?_;have h1:=fd.pend_split (y:=q.take i) (by rw[cg];exact a8);rw[cg]at h1;rw[h1,<-o.bef a8 hd,K.T];exact nO _ (Jfn _ _ _)
  refine cl (Kl cj dj (o.rk_le hqf hi ag).len ce.len) ?_;rintro gd d2 ⟨ao,du,bd⟩;have f8:rkS K.X K.ds q i+bef (K.ds.getD i false) (q.getD i V0) (K.X.E i (K.X.key i (q.take i)))*K.X.others i (q.take i)=rkS K.X K.ds q (i+1):=rfl;rw[f8]at ao;obtain⟨ZA,zc,rfl,_⟩:=id ao;refine ρ ?_;refine Jr (GrN.ext bd) ?_;refine ρn ?_;have Z:=(D.trans ab).trans bd;have em:=c3.trans Z;have az:=cq.ext Z;refine Xu ?_;refine sto (az.at (i:=0) rfl) (az.frozen 0) ?_;obtain⟨a3,an⟩:∃ a3,a3=d2.setCell ((⟨C,0,none⟩:Addr).add 0) (.slice ZA (Jq (rkS K.X K.ds q (i+1))).length zc):=⟨_,rfl⟩;rw[<-an];have au:GrN (λk=>k=C) d2 a3:=by rw[an];exact GrN.set _ rfl
  have ac:Blk a3 C 165 [.slice ZA (Jq (rkS K.X K.ds q (i+1))).length zc,.slice none 0 0,.bool false,.int .i64 (st:Int)]:=by rw[an];exact az.set 0 _
  have e6:=(e4.ext Z).off au cz o;have e8:=Jv ((bq.ext J).ext Z) au d0;have er:C<en.heap.size:=(cq.ext D).lt;have di:NatX (λk=>k=K.mb∨k=C∨k=b4) a3 (.slice ZA (Jq (rkS K.X K.ds q (i+1))).length zc) (rkS K.X K.ds q (i+1)):=by
   refine NatX.gr (N:=λk=>k=K.mb∨k=C∨k=b4) ⟨ao,λh0 ad m c e=>?_⟩ (au.mono λk _ h=>.inr (.inl h));have h1:=du ad m c e;have h2:=ab.size;have h3:=(bq.ext (J.trans D)).lt;rintro(h|h|h)
   .have:=nM bl (a2.size);have:=(J.trans D).size;omega
   .omega
   omega
  refine ω5 ?_;refine Us ?_;refine ρn ?_;refine ldR (ac.at (i:=3) rfl) ?_;refine Xe (ac.at (i:=3) rfl) (ac.frozen 3) ?_;obtain⟨a7,am⟩:∃ a7,a7=a3.setCell ((⟨C,0,none⟩:Addr).add 3) (.int .i64 ((st+e:Nat):Int)):=⟨_,rfl⟩;have ca:a3.setCell ((⟨C,0,none⟩:Addr).add 3) (.int .i64 ((st:Int)+(e:Int)))=a7:=am.symm;refine Eq.mpr (congrArg _ ca) ?_;have ar:GrN (λk=>k=C) a3 a7:=by rw[am];exact GrN.set _ rfl
  have br:Blk a7 C 165 [.slice ZA (Jq (rkS K.X K.ds q (i+1))).length zc,.slice none 0 0,.bool false,.int .i64 ((st+e:Nat):Int)]:=by rw[am];exact ac.set 3 _
  have bn:=e6.off ar cz o;have bp:=Jv e8 ar d0;have bi:=di.gr (ar.mono λk _ h=>.inr (.inl h));have dz:=o.has a8 (z:=q.take i) hd (q.getD i V0);have de:(st+e<=Qb (i+1) λv=>hmB (K.BB v)):=by rw[Qb];omega
  have dm:K.X.Gp (q.take (i+1))↔Tr.hasT d (q.getD i V0) (K.t i (q.take i))=true:=(Jhx (o.ip.srt ne) li ag).trans dz.symm;refine ciR (λh=>?_) (λh=>?_)
  .have dh:¬ K.X.Gp (q.take (i+1)):=λhg=>by
    rw[dm.1 hg]at h;cases h
   clear h;have bg:wiL K.L q=[]:=o.ip.wi_none ne λhg=>dh (hg.pre (i+1));refine Jo br ?_;refine Qo bp ?_;intro d1 e7 a6 d4;refine ρ ?_;have c5:=d4 w (c7 ▸ o.ext bn.gr) om;have ch:GrN (λk=>k=b4) a7 d1:=GrN.by a6 λk hk=>by injection hk with hk;exact hk.symm
   refine Jjt e7 ⟨_,_,st+e,by rw[bg];rfl,?_,?_,Nat.le_trans de (Jtl om),c5⟩
   .rw[o.ip.rk_stop ne hqf li ag dh];exact(bi.gr (ch.mono λk _ h=>.inr (.inr h))).1
   rw[bg];exact NatV.nil _
  have d3:Tr.hasT d (q.getD i V0) (K.t i (q.take i))=true:=by
   cases hh:Tr.hasT d (q.getD i V0) (K.t i (q.take i)) with
   | true=>rfl
   | false=>rw[hh]at h;cases h
  clear h;have dl:=dm.2 d3;have f5:q.take (i+1)=q.take i++[q.getD i V0]:=Qr V0 li;have cn:RkV K a7 (q.take (i+1)) (pS K.pf (i+1) i) (32*(i+1)):=by
   rw[f5];exact bn.app o (λc _ hs=>by
    rw[cg];unfold pS at hs;simp only[Bool.and_eq_true,decide_eq_true_eq]at hs;exact hs.2) _
  refine ρ ?_;refine clv (Qqf (k:=i+1) o G cn om dl om om (v:=(i:Int)) om) ?_;rintro u d1 ⟨rfl,a6,e5⟩;refine ρ ?_;exact Xx (i+1) _ (st+e) sO ⟨li,dl,(e5.same λc hc=>Jln (dg c hc)).more om,Jv br a6 n9,Jv bp a6 n4,bi.gr (a6.mono λk _ h=>.inl h),de,om⟩ om
 have fb:i=q.length:=by have:=oF h;omega
 clear h;subst fb;rw[List.take_length]at ag a9;refine ρ ?_;refine clv (Qqc o G a9) ?_;rw[Qqv];rintro cv v6 ⟨dv,fh,ae⟩;obtain⟨el,ek,rfl,_⟩:=id aw.1;obtain⟨CA,cc,rfl,_⟩:=id dv;have cr:=cw.ext ae;have fu:=co.ext ae;have fp:=a9.ext ae;have dx:=aw.ext ae;have er:=cw.lt;have gg:=co.lt;have bl:K.mb<v5.heap.size:=nM o.m2 a9.gr.size;have fi:NatX (λk=>k=K.mb∨k=C∨k=b4) v6 (.slice CA (Jq (K.X.pend q.length q)).length cc) (K.X.pend q.length q):=⟨dv,λ_ ad m c e=>by
  have:=fh ad m c e;rintro(h|h|h)<;>omega⟩
 refine Xe (cr.at (i:=1) rfl) (cr.frozen 1) ?_;obtain⟨v7,c9⟩:∃ v7,v7=v6.setCell ((⟨C,0,none⟩:Addr).add 1) (.slice CA (Jq (K.X.pend q.length q)).length cc):=⟨_,rfl⟩;rw[<-c9];have dq:GrN (λk=>k=C) v6 v7:=by rw[c9];exact GrN.set _ rfl
 have ba:Blk v7 C 165 [.slice el (Jq (rkS K.X K.ds q q.length)).length ek,.slice CA (Jq (K.X.pend q.length q)).length cc,.bool false,.int .i64 (st:Int)]:=by rw[c9];exact cr.set 1 _
 refine ldR (ba.at (i:=1) rfl) ?_;refine Xe (ba.at (i:=2) rfl) (ba.frozen 2) ?_;have d9:=o.ip.wi_len ne hqf ag;have ff:decide (0<((Jq (K.X.pend q.length q)).length:Int))=decide (0<(wiL K.L q).length):=by
  rw[d9];show decide _=decide (0<K.X.pend q.length q);rcases Nat.eq_zero_or_pos (K.X.pend q.length q) with h0|h0
  .rw[h0,limbs_0];rfl
  rw[decide_eq_true h0,decide_eq_true (by have:=limbs_pos' (show K.X.pend q.length q≠0 by omega);omega)]
 obtain⟨v8,c8⟩:∃ v8,v8=v7.setCell ((⟨C,0,none⟩:Addr).add 2) (.bool (decide (0<(wiL K.L q).length))):=⟨_,rfl⟩;have da:v7.setCell ((⟨C,0,none⟩:Addr).add 2) (.bool (decide (0<((Jq (K.X.pend q.length q)).length:Int))))=v8:=by rw[ff];exact c8.symm
 refine Eq.mpr (congrArg _ da) ?_;have fe:GrN (λk=>k=C) v7 v8:=by rw[c8];exact GrN.set _ rfl
 have fw:Blk v8 C 165 [.slice el (Jq (rkS K.X K.ds q q.length)).length ek,.slice CA (Jq (K.X.pend q.length q)).length cc,.bool (decide (0<(wiL K.L q).length)),.int .i64 (st:Int)]:=by rw[c8];exact ba.set 2 _
 have aq:=dq.trans fe;have fn:=fp.off aq cz o;have ft:=Jv fu aq d0;refine Jo fw ?_;refine Qo ft ?_;intro v9 fr bm c4;have c5:=c4 w (c7 ▸ o.ext fn.gr) om;have dn:GrN (λk=>k=b4) v8 v9:=GrN.by bm λk hk=>by injection hk with hk;exact hk.symm
 have ap:GrN (λk=>k=K.mb∨k=C∨k=b4) v6 v9:=(aq.mono λk _ h=>.inr (.inl h)).trans (dn.mono λk _ h=>.inr (.inr h));refine ρ ?_;refine Jjt fr ⟨_,_,st,rfl,?_,?_,Nat.le_trans f7 (Jtl hqf),c5⟩
 .rw[o.ip.rk_end ne hqf ag];exact(dx.gr ap).1
 rw[d9];exact(fi.gr ap).1
end
open Go.RowKit Pl Go.Wk
variable {B0 pc:Nat}
section
variable {w:World} {x:Value} {f:Nat} {ds:List Bool} {kf:Nat->Nat} {pf:Nat->Int} {BB:Nat->List BkT} {tot:Nat} {L:List Row}
theorem Qns(tb:TB B0 w)(h:IxA w x f ds kf pf BB tot L){PA:Option Addr}{q:Row}(hq:RdR w PA q)(hqc:q.length<=pc):
  Ret Tryz.prog 163 [x,.slice PA q.length pc] w λu w'=>Ext w w'/\(f<q.length->u=.tuple #[.slice none 0 0,.slice none 0 0,.int .i64 0,.int .i64 6]) /\
   (q.length<=f->∃(lv hv:Value) (st:Nat),u=.tuple #[lv,hv,.int .i64 (st:Int),.int .i64 0]/\NatV w' lv (Qh ds L q)/\NatV w' hv (Qh ds L q+(wiL L q).length)/\st<=Qb f λv=>hmB (BB v)):=by
 have ix:=h.ix;have O:=h.ip;obtain⟨DA,dc,BA,cb,KA,ck,ar,cp,tv,ak,aj,rfl,ap,aq,hD,hB,hK,hP,ab,am⟩:=id ix.ex;obtain⟨TA,tc,rfl,_⟩:=id ab;refine enE Tryz.func163 Tryz.ntmps163 ?_;refine bxR ?_;intro w1 b J hb a2;refine Jo a2 ?_;refine clR (Jkh (ix.ext J)) ?_;rintro u w2 ⟨rfl,D⟩;refine ciR (λh=>?_) (λh=>?_)
 .have an:f<q.length:=by have:=oT h;omega
  refine ρ ?_;exact Jjv ⟨J.trans D,λ_=>rfl,λh=>om⟩
 have ad:q.length<=f:=by grind
 clear h;refine Jo (a2.ext D) ?_;refine clR (Jvw (ix.ext (J.trans D)) O.nbT) ?_;rintro u w3 ⟨aa,_,a5⟩;have j:=(J.trans D).trans a5;obtain⟨UA,uc,rfl,_⟩:=id aa;refine ciR (λh=>?_) (λh=>?_)
 .have h0:tot=0:=by
   have:=Zf h;grind [Nat.eq_zero_or_pos,tot,limbs_pos']
  have hL:L=[]:=List.eq_nil_of_length_eq_zero (by rw[<-O.len];exact h0);refine ρ ?_;refine Jjv ⟨j,λh=>om,λ_=>⟨_,_,0,rfl,?_,?_,Nat.zero_le _⟩⟩
  .rw[hL];exact NatV.nil _
  rw[hL];exact NatV.nil _
 have ne:tot≠0:=λe=>by
  have:=Zd h;grind [limbs_0]
 clear h;refine Jo ((a2.ext D).ext a5) ?_;refine clR (Qvs (tb.ext j) (ix.ext j) O ne (Rd.ext hq j) hqc ad) ?_;rintro u w4 ⟨bv,cv,st,rfl,a1,a6,ac,a9⟩;obtain⟨XA,xc,rfl,_⟩:=id a1;obtain⟨YA,yc,rfl,_⟩:=id a6;refine Jw Jbl ?_;intro w5 b8 a8 ag ah;refine Qo ah ?_;intro w6 ai ao a7;have a4:Ext w4 w6:=a7 w4 a8 ag;have a3:Ext w6 w6.drew:=(Ext.refl w6).drew;have o:=a4.trans a3;have C:=ai.ext a3;have n1:(Jq (Qh ds L q)).length<=1000:=(O.nbT.le (by rw[O.len];exact Jyr ds L q)).len;have n2:(Jq (wiL L q).length).length<=1000:=(O.nbT.le (by rw[O.len];exact List.length_filter_le _ _)).len;refine ρ ?_;refine drN (λ_=>False) 15 [(0,0),(0,1),(0,3),(0,4),(0,5),(0,6),(0,8),(0,9),(1,2),(1,7),(0,10),(0,11),(0,12),(0,13)] kr ?_;refine ρn ?_;refine nld (λw' hg=>(C.ext hg.toExt).at (i:=0) rfl) ?_;refine ρn ?_;refine nld (λw' hg=>(C.ext hg.toExt).at (i:=0) rfl) ?_;refine ρn ?_
 refine nld (λw' hg=>(C.ext hg.toExt).at (i:=1) rfl) ?_;refine ρn ?_;refine nld (λw' hg=>(C.ext hg.toExt).at (i:=3) rfl) ?_;refine ρn ?_;refine nop ?_;refine cl (Jvk (a1.ext o) n1) ?_;rintro lv w7 ⟨ae,_,G⟩;refine ρ ?_;refine Jr (GrN.ext G) ?_;refine ρn ?_;refine nop ?_;refine cl (Qts ((a1.ext o).ext G) ((a6.ext o).ext G) n1 n2) ?_;rintro hv w8 ⟨af,Z⟩;refine ρ ?_;refine Jr (GrN.ext Z) ?_;refine ρn ?_;refine ρ ?_;exact Jjv ⟨((j.trans a9).trans o).trans (G.trans Z),λh=>om,λ_=>⟨lv,hv,st,rfl,ae.ext Z,af,ac⟩⟩
end
open Go.RowKit Pl Go.Wk
variable {B0 f pc:Nat}
theorem Qqd{w:World}{x:Value}{ds:List Bool}{kf:Nat->Nat}{pf:Nat->Int}{BB:Nat->List BkT}{tot:Nat}{L:List Row}(tb:TB B0 w)(h:IxA w x f ds kf pf BB tot L){PA:Option Addr}{q:Row}(hq:RdR w PA q)(hqc:q.length<=pc):
  Ret Tryz.prog 57 [x,.slice PA q.length pc] w λu w'=>Ext w w'/\(q.length≠f->u=.tuple #[.slice none 0 0,.bool false,.int .i64 0,.int .i64 6]) /\
   (q.length=f->∃(kv:Value) (st:Nat),u=.tuple #[kv,.bool (decide (0<(wiL L q).length)),.int .i64 (st:Int),.int .i64 0]/\NatV w' kv (Qh ds L q)/\st<=Qb f λv=>hmB (BB v)):=by
 have ix:=h.ix;have ip:=h.ip;obtain⟨DA,dc,BA,cb,KA,ck,ak,cp,tv,af,ae,rfl,ai,aj,hD,hB,hK,hP,a7,ag⟩:=id ix.ex;obtain⟨TA,tc,rfl,_⟩:=id a7;refine enE Tryz.func57 Tryz.ntmps57 ?_;refine bxR ?_;intro w1 b D hb O;refine Jo O ?_;refine clR (Jkh (ix.ext D)) ?_;rintro u w2 ⟨rfl,o⟩;refine ciR (λh=>?_) (λh=>?_)
 .have a9:q.length≠f:=λe=>by rw[e]at h;simp at h
  refine ρ ?_;exact Jjv ⟨D.trans o,λ_=>rfl,λh=>absurd h a9⟩
 have a1:q.length=f:=by grind
 clear h;refine Jo (O.ext o) ?_;refine clR (Jvw (ix.ext (D.trans o)) ip.nbT) ?_;rintro u w3 ⟨a6,_,Z⟩;have j:=(D.trans o).trans Z;obtain⟨UA,uc,rfl,_⟩:=id a6;refine ciR (λh=>?_) (λh=>?_)
 .have h0:tot=0:=by
   have:=Zf h;grind [Nat.eq_zero_or_pos,tot,limbs_pos']
  have hL:L=[]:=List.eq_nil_of_length_eq_zero (by rw[<-ip.len];exact h0);refine ρ ?_;refine Jjv ⟨j,λh=>absurd a1 h,λ_=>⟨.slice none 0 0,0,by subst hL;rfl,?_,Nat.zero_le _⟩⟩;rw[hL];exact NatV.nil _
 have ne:tot≠0:=λe=>by
  have:=Zd h;grind [limbs_0]
 clear h;refine Jo ((O.ext o).ext Z) ?_;refine clR (Qvs (tb.ext j) (ix.ext j) ip ne (Rd.ext hq j) hqc om) ?_;rintro u w4 ⟨bv,cv,st,rfl,a2,aa,a8,a5⟩;obtain⟨XA,xc,rfl,_⟩:=id a2;obtain⟨YA,yc,rfl,_⟩:=id aa;refine Jw Jbl ?_;intro w5 b8 a4 ab ac;refine Qo ac ?_;intro w6 ad ah a3;have G:Ext w4 w6:=a3 w4 a4 ab;have J:Ext w6 w6.drew:=(Ext.refl w6).drew;have C:=ad.ext J;refine ρ ?_;refine drN (λ_=>False) 11 (Go.Wk.sc 10 []) kr ?_;refine ρn ?_;refine nld (λw' hg=>(C.ext hg.toExt).at (i:=0) rfl) ?_;refine ρn ?_;refine nld (λw' hg=>(C.ext hg.toExt).at (i:=2) rfl) ?_;refine ρn ?_;refine nld (λw' hg=>(C.ext hg.toExt).at (i:=3) rfl) ?_;refine ρn ?_;refine ρ ?_;exact Jjv ⟨((j.trans a5).trans G).trans J,λh=>absurd a1 h,λ_=>⟨_,st,rfl,(a2.ext G).ext J,a8⟩⟩
open Go.RowKit Pl Go.Wk
section
variable {w:World} {x:Value} {f:Nat} {ds:List Bool} {kf:Nat->Nat} {pf:Nat->Int} {BB:Nat->List BkT} {tot:Nat} {L:List Row}
theorem Qkw(h:IxV w x f ds kf pf BB tot): Ret Tryz.prog 63 [x] w λu w'=>BoolsV w' u ds/\Ext w w':=by
 obtain⟨DA,dc,BA,cb,KA,ck,PA,cp,tv,a1,Z,rfl,a2,a3,hD,hB,hK,hP,G,hv⟩:=h.ex;obtain⟨TA,tc,rfl,_⟩:=id G;have o:=h.dl;have O:=h.f32;refine enE Tryz.func63 Tryz.ntmps63 ?_;refine bxR ?_;intro w1 b j hb J;refine ldR (J.at (i:=0) rfl) ?_;refine ρ ?_;have C:=Rd.ext hD j;rw[o]at C;refine cl (Xvh C (λu hu=>?_) om) ?_
 .obtain⟨b,_,rfl⟩:=List.mem_map.1 hu;rfl
 rintro u w2 ⟨⟨A',c',rfl,a4,hR⟩,D⟩;refine ρ ?_;refine Jj ⟨⟨A',c',by rw[o],om,om,?_⟩,j.trans D⟩;grind
end
end Go.Proofs.YtbcdghbonlifdaaGreatDoor
namespace Go.Proofs.YtbcdghbonlifdaaGreatDoor
open Pl Go.Wk
variable {cs:List Nat}{N a b f n s t v:Nat}{z zM:Row}
abbrev PAt:= List Nat×List Row
def pa0: PAt:=([],[])
def BagL(L:List PAt)(s:Nat)(z:Row): Prop:=∀ a∈L,∃ r∈a.2,∀ j,j<a.1.length->s.testBit (a.1.getD j 0)=true->r.getD j V0=z.getD (a.1.getD j 0) V0
abbrev vrL(L:List PAt)(i:Nat): List Nat:=(L.getD i pa0).1
abbrev rwL(L:List PAt)(i:Nat): List Row:=(L.getD i pa0).2
theorem Qdh{α:Type}{d:α}{L:List α}{P:α->Prop}: (∀ i,i<L.length->P (L.getD i d))↔∀ a∈L,P a:=by grind [List.getElem_of_mem,Qc,getD_mem']
theorem bagL_iff{L:List PAt}: Io L.length (vrL L) (rwL L) s z↔BagL L s z :=
 Qdh (d:=pa0) (P:=λa=>∃ r∈a.2,∀ j,j<a.1.length->s.testBit (a.1.getD j 0)=true->r.getD j V0=z.getD (a.1.getD j 0) V0)
theorem Xbr{n:Nat}{L:List PAt}{l:List Row}(hasc:∀ a∈L,Xq a.1)(hc:∀ v,s.testBit v=true->∃ a∈L,v∈a.1)(hl:Lt [] l)(h:∀ x∈l,∃ z:Row,x=pmR (bk s 32) z/\BagL L s z): l.length<=Jg L.length λi=>(rwL L i).length:=by
 have o:∀ i,i<L.length->Xq (vrL L i):=by grind
 refine Qyd (F:=λg=>(bk s 32).map (Jqx L.length (vrL L) g)) (λg g' C=>List.map_congr_left λv _=>Qxn C v) (Qzt hl) λx G=>?_;obtain⟨z,rfl,D⟩:=h x G;rw[<-bagL_iff]at D;obtain⟨g,C⟩:∃ g:Nat->Row,∀ i,i<L.length->g i∈rwL L i/\∀ j,j<(vrL L i).length->s.testBit ((vrL L i).getD j 0)=true->(g i).getD j V0=z.getD ((vrL L i).getD j 0) V0:=by
  refine⟨λi=>if hi:i<L.length then Classical.choose (D i hi) else[],λi hi=>?_⟩;grind
 refine⟨g,λi hi=>(C i hi).1,?_⟩;unfold pmR;refine List.map_congr_left λv O=>?_;obtain⟨_,u⟩:=bk_mem.1 O;obtain⟨a,Z,J⟩:=hc v u;obtain⟨i,hi,rfl⟩:=List.getElem_of_mem Z;refine(Qxm o ⟨i,hi,by grind⟩ λi hi j hj e=>?_).symm;grind
def ren(f s v:Nat): Nat:=if v<f then v else v+s
theorem Qnv(h:a<b): ren f s a<ren f s b:=by unfold ren;grind
theorem Qnw(h:ren f s a=ren f s b): a=b:=by unfold ren at h;grind
theorem Jcm(h:v<f): ren f s v=v:=if_pos h
theorem Jqq(h:f<=v): ren f s v=v+s:=if_neg om
theorem Jhz: ren f 0 v=v:=by unfold ren;split<;>rfl
structure UMem where
 N: Nat
 perm:List Nat
 ats:List PAt
structure UOk(f:Nat)(M:UMem): Prop where
 n6:M.N<=6
 m5:M.ats.length<=5
 asc:∀ a∈M.ats,Xq a.1
 lt:∀ a∈M.ats,∀ v∈a.1,v<M.N
 cov:∀ v,v<M.N->∃ a∈M.ats,v∈a.1
 srt:∀ a∈M.ats,Lt [] a.2
 len:∀ a∈M.ats,∀ r∈a.2,r.length=a.1.length
 fit:∀ a∈M.ats,∀ r∈a.2,∀ u∈r,Xn u=true/\Xa u
 cnt:Jg M.ats.length (λi=>(rwL M.ats i).length)<=5000
 big:∀ a∈M.ats,a.2.length<=12
 pm:PermOk M.N f M.perm
def Qa(f s:Nat)(a:PAt): PAt:=(a.1.map (ren f s),a.2)
def jAs(f:Nat): Nat->List UMem->List PAt
 | _,[]=>[]
 | s,M::Ms=>M.ats.map (Qa f s)++jAs f (s+(M.N-f)) Ms
def jPm(f:Nat): Nat->List UMem->List Nat
 | _,[]=>[]
 | s,M::Ms=>M.perm.map (ren f s)++jPm f (s+(M.N-f)) Ms
def jN(f:Nat): Nat->List UMem->Nat
 | s,[]=>f+s
 | s,M::Ms=>jN f (s+(M.N-f)) Ms
def Yu(f:Nat): Nat->List UMem->List Nat
 | s,[]=>[f+s]
 | s,M::Ms=>(f+s)::Yu f (s+(M.N-f)) Ms
theorem Uo{f:Nat}: ∀ {s:Nat} {Ms:List UMem},f+s<=jN f s Ms
 | _,[]=>nR _
 | s,M::Ms=>by have:=Uo (f:=f) (s:=s+(M.N-f)) (Ms:=Ms);unfold jN;omega
theorem Jmq{f:Nat}: ∀ {s:Nat} {Ms:List UMem},(∀ M∈Ms,UOk f M)->jN f s Ms<=f+s+Ms.length*(6-f)
 | _,[],_=>by simp[jN]
 | s,M::Ms,h=>by
  have:=Jmq (f:=f) (s:=s+(M.N-f)) (Ms:=Ms) λm hm=>h m (List.mem_cons_of_mem _ hm);have:=(h M mC).n6;rw[jN,List.length_cons,Nat.succ_mul];omega
theorem Jxl{f:Nat}: ∀ {s:Nat} {Ms:List UMem},(∀ M∈Ms,UOk f M)->(jAs f s Ms).length<=Ms.length*5
 | _,[],_=>by simp[jAs]
 | s,M::Ms,h=>by
  have:=Jxl (f:=f) (s:=s+(M.N-f)) (Ms:=Ms) λm hm=>h m (List.mem_cons_of_mem _ hm);have:=(h M mC).m5;rw[jAs,List.length_append,List.length_map,List.length_cons];omega
theorem Jvv{f:Nat}: ∀ {s:Nat} {Ms:List UMem} {a:PAt},a∈jAs f s Ms->∃ s' M a',M∈Ms/\a'∈M.ats/\a=Qa f s' a'/\s<=s'/\f+s'+(M.N-f)<=jN f s Ms
 | _,[],_,h=>by cases h
 | s,M::Ms,a,h=>by
  rw[jAs,List.mem_append]at h;rcases h with h|h
  .obtain⟨a',h1,rfl⟩:=List.mem_map.1 h;exact⟨s,M,a',List.mem_cons_self,h1,rfl,Nat.le_refl _,by grind [jN,Uo]⟩
  obtain⟨s',M',a',h1,h2,h3,h4,h5⟩:=Jvv h;exact⟨s',M',a',List.mem_cons_of_mem _ h1,h2,h3,om,h5⟩
theorem Qdf{l:List Nat}(h:Xq l): Xq (l.map (ren f s)):=by grind [Xq,Qnv]
section
variable {f:Nat} {Ms:List UMem} {s:Nat}
theorem Jmt(h:∀ M∈Ms,UOk f M): ∀ a∈jAs f s Ms,Xq a.1:=λa i=>by
 obtain⟨C,M,u,o,j,rfl,_⟩:=Jvv i;exact Qdf ((h M o).asc u j)
theorem Jdr(h:∀ M∈Ms,UOk f M): ∀ a∈jAs f s Ms,∀ v∈a.1,v<jN f s Ms:=λa o v i=>by
 obtain⟨J,M,G,D,C,rfl,_,O⟩:=Jvv o;obtain⟨u,j,rfl⟩:=List.mem_map.1 i;have:=(h M D).lt G C u j;unfold ren;split<;>omega
theorem Jdq(h:∀ M∈Ms,UOk f M){P:List Row->Prop}(hP:∀ M∈Ms,∀ a∈M.ats,P a.2): ∀ a∈jAs f s Ms,P a.2:=λa i=>by
 obtain⟨C,M,u,o,j,rfl,_⟩:=Jvv i;exact hP M o u j
theorem Xql(h:∀ M∈Ms,UOk f M): ∀ a∈jAs f s Ms,∀ r∈a.2,r.length=a.1.length:=λa j r i=>by
 obtain⟨D,M,C,u,o,rfl,_⟩:=Jvv j;rw[(h M u).len C o r i];simp[Qa]
end
theorem Jmr{f:Nat}: ∀ {s:Nat} {Ms:List UMem} {v:Nat},f+s<=v->v<jN f s Ms->∃ s' M,M∈Ms/\(∀ a∈M.ats.map (Qa f s'),a∈jAs f s Ms)/\f+s'<=v/\v<f+s'+(M.N-f)/\f+s'∈Yu f s Ms/\f+s'+(M.N-f)∈Yu f s Ms
 | _,[],v,h1,h2=>by rw[jN]at h2;omega
 | s,M::Ms,v,h1,h2=>by
  rcases Nat.lt_or_ge v (f+s+(M.N-f)) with h3|h3
  .refine⟨s,M,List.mem_cons_self,λa ha=>by grind [jAs,List.mem_append_left],h1,h3,by rw[Yu];grind,?_⟩;rw[Yu];refine List.mem_cons_of_mem _ ?_;cases Ms with
   | nil=>rw[Yu,List.mem_singleton];omega
   | cons M' Ms=>rw[Yu];exact List.mem_cons.2 (.inl om)
  rw[jN]at h2;obtain⟨s',M',h4,h5,h6,h7,h8,h9⟩:=Jmr (f:=f) (s:=s+(M.N-f)) (Ms:=Ms) (v:=v) om h2;grind [List.mem_cons_of_mem,jAs,List.mem_append_right,Yu]
theorem Qkt{Ms:List UMem}(h:∀ M∈Ms,UOk f M)(hne:Ms≠[])(hv:v<jN f 0 Ms): ∃ a∈jAs f 0 Ms,v∈a.1:=by
 rcases Nat.lt_or_ge v f with h1|h1
 .cases Ms with
  | nil=>exact absurd rfl hne
  | cons M Ms=>
   have j:=h M mC;obtain⟨a,u,i⟩:=j.cov v (by have:=j.pm.fn;omega);grind [Qa,jAs,List.mem_append_left,List.mem_map_of_mem,List.mem_map.2,Jhz]
 obtain⟨o,M,C,J,G,D,_⟩:=Jmr (f:=f) (s:=0) om hv;obtain⟨a,u,i⟩:=(h M C).cov (v-o) om;grind [Qa,List.mem_map_of_mem,List.mem_map.2,Jqq]
theorem Jmp{f:Nat}: ∀ {s:Nat} {Ms:List UMem},(∀ M∈Ms,UOk f M)->(jPm f s Ms).length=jN f s Ms-(f+s)/\(∀ v∈jPm f s Ms,f+s<=v/\v<jN f s Ms)/\(jPm f s Ms).Nodup
 | s,[],_=>by simp[jPm,jN]
 | s,M::Ms,h=>by
  obtain⟨h1,h2,h3⟩:=Jmp (f:=f) (s:=s+(M.N-f)) (Ms:=Ms) λm hm=>h m (List.mem_cons_of_mem _ hm);have hM:=(h M mC).pm;have hge:=Uo (f:=f) (s:=s+(M.N-f)) (Ms:=Ms);have hm:∀ v∈M.perm.map (ren f s),f+s<=v/\v<f+s+(M.N-f):=λv hv=>by
   obtain⟨u,hu,rfl⟩:=List.mem_map.1 hv;have:=hM.rng u hu;grind [Jqq]
  refine⟨?_,λv hv=>?_,?_⟩
  .rw[jPm,jN,List.length_append,List.length_map,h1,hM.len];omega
  .grind [jPm,jN]
  rw[jPm,List.nodup_append];refine⟨?_,h3,λa ha b hb e=>?_⟩
  .unfold List.Nodup;rw[List.pairwise_map];exact hM.nd.imp λhab e=>hab (Qnw e)
  repeat grind
theorem Jdn{Ms:List UMem}(h:∀ M∈Ms,UOk f M): PermOk (jN f 0 Ms) f (jPm f 0 Ms):=by
 obtain⟨u,o,j⟩:=Jmp (s:=0) h;exact⟨by grind [Uo],by rw[u];omega,λv i=>by have:=o v i;omega,j⟩
theorem Qqh: ren f s (ren f t v)=ren f (t+s) v:=by grind [Jcm,Jqq]
theorem Qnx(a:PAt): Qa f s (Qa f t a)=Qa f (t+s) a:=by grind [Qa,List.map_map,List.map_congr_left,Qqh]
theorem Qks{f s:Nat}: ∀ {t:Nat} {Ms:List UMem},(jAs f t Ms).map (Qa f s)=jAs f (t+s) Ms
 | _,[]=>rfl
 | t,M::Ms=>by
  rw[jAs,jAs,List.map_append,List.map_map,Qks,show t+(M.N-f)+s=t+s+(M.N-f) by omega];grind [List.map_congr_left,Qnx]
theorem Qkp{f s:Nat}: ∀ {t:Nat} {Ms:List UMem},(jPm f t Ms).map (ren f s)=jPm f (t+s) Ms
 | _,[]=>rfl
 | t,M::Ms=>by
  rw[jPm,jPm,List.map_append,List.map_map,Qkp,show t+(M.N-f)+s=t+s+(M.N-f) by omega];grind [List.map_congr_left,Qqh]
theorem Qkr{f s:Nat}: ∀ {t:Nat} {Ms:List UMem},jN f (t+s) Ms=jN f t Ms+s
 | t,[]=>by rw[jN,jN];omega
 | t,M::Ms=>by rw[jN,jN,show t+s+(M.N-f)=t+(M.N-f)+s by omega,Qkr]
theorem Jkg{f:Nat}: ∀ {s:Nat} {A B:List UMem},jAs f s (A++B)=jAs f s A++jAs f (jN f s A-f) B
 | s,[],B=>by grind [jAs,jN,Nat.add_sub_cancel_left]
 | s,M::A,B=>by rw[List.cons_append,jAs,jAs,Jkg,List.append_assoc,jN]
theorem Jvs{f:Nat}: ∀ {s:Nat} {A B:List UMem},jPm f s (A++B)=jPm f s A++jPm f (jN f s A-f) B
 | s,[],B=>by grind [jPm,jN,Nat.add_sub_cancel_left]
 | s,M::A,B=>by rw[List.cons_append,jPm,jPm,Jvs,List.append_assoc,jN]
theorem Jvt{f:Nat}: ∀ {s:Nat} {A B:List UMem},jN f s (A++B)=jN f (jN f s A-f) B
 | s,[],B=>by rw[List.nil_append,jN,Nat.add_sub_cancel_left]
 | s,M::A,B=>by rw[List.cons_append,jN,Jvt,jN]
def Qg(f:Nat)(G:List UMem): UMem:=⟨jN f 0 G,jPm f 0 G,jAs f 0 G⟩
theorem Qkm{f:Nat}: ∀ {s:Nat} {Gs:List (List UMem)},jAs f s (Gs.map (Qg f))=jAs f s Gs.flatten/\jPm f s (Gs.map (Qg f))=jPm f s Gs.flatten/\jN f s (Gs.map (Qg f))=jN f s Gs.flatten
 | s,[]=>⟨rfl,rfl,rfl⟩
 | s,G::Gs=>by
  obtain⟨h1,h2,h3⟩:=Qkm (f:=f) (s:=s+(jN f 0 G-f)) (Gs:=Gs);have e0:jN f s G=jN f 0 G+s:=by have:=Qkr (f:=f) (s:=s) (t:=0) (Ms:=G);grind
  have hge:=Uo (f:=f) (s:=0) (Ms:=G);have e1:jN f s G-f=s+(jN f 0 G-f):=om
  have ea:(jAs f 0 G).map (Qa f s)=jAs f s G:=by have:=Qks (f:=f) (s:=s) (t:=0) (Ms:=G);grind
  have ep:(jPm f 0 G).map (ren f s)=jPm f s G:=by have:=Qkp (f:=f) (s:=s) (t:=0) (Ms:=G);grind
  refine⟨?_,?_,?_⟩
  .rw[List.map_cons,List.flatten_cons,jAs,Jkg,e1,<-h1];show(jAs f 0 G).map (Qa f s)++jAs f (s+(jN f 0 G-f)) _=_;rw[ea]
  .rw[List.map_cons,List.flatten_cons,jPm,Jvs,e1,<-h2];show(jPm f 0 G).map (ren f s)++jPm f (s+(jN f 0 G-f)) _=_;rw[ep]
  rw[List.map_cons,List.flatten_cons,jN,Jvt,e1,<-h3];rfl
theorem Xqj{M:UMem}(h:f<=M.N): Qg f [M]=M:=by
 have o:jN f 0 [M]=M.N:=by rw[jN,jN];omega
 have j:jPm f 0 [M]=M.perm:=by
  rw[jPm,jPm,List.append_nil];conv=>rhs;rw[<-List.map_id M.perm]
  grind [List.map_congr_left,Jhz]
 have i:jAs f 0 [M]=M.ats:=by
  rw[jAs,jAs,List.append_nil];conv=>rhs;rw[<-List.map_id M.ats]
  refine List.map_congr_left λa _=>?_;unfold Qa;have:a.1.map (ren f 0)=a.1:=by
   conv=>rhs;rw[<-List.map_id a.1]
   grind [List.map_congr_left,Jhz]
  rw[this];rfl
 unfold Qg;rw[o,j,i]
def Qdv(cs:List Nat)(u x:Nat): Prop:=∀ c∈cs,(u<c↔x<c)
def NbC(f:Nat)(cs:List Nat)(nb:Nat->Nat->Bool): Prop:=∀ u x,f<=u->nb u x=true->x<f∨Qdv cs u x
theorem NbC.step{nb:Nat->Nat->Bool}(h:NbC f cs nb)(hv:f<=v): NbC f cs (Ul v nb):=λu x j i=>by
 unfold Ul at i;by_cases e1:nb v u=true
 .rw[if_pos e1]at i;simp only[Bool.and_eq_true,Bool.or_eq_true]at i;rcases i.1.1 with h1|h1
  .exact h u x j h1
  rcases h v x hv h1 with h2|h2
  .exact .inl h2
  rcases h v u hv e1 with h3|h3
  .omega
  exact .inr λc o=>(h3 c o).symm.trans (h2 c o)
 rw[if_neg e1]at i;exact h u x j i
theorem NbC.at{f:Nat}{cs:List Nat}: ∀ {l:List Nat} {nb:Nat->Nat->Bool},NbC f cs nb->(∀ v∈l,f<=v)->NbC f cs (Yp nb l)
 | [],_,h,_=>h
 | v::l,nb,h,hl=>NbC.at (l:=l) (nb:=Ul v nb) (h.step (hl v mC)) λu hu=>hl u (List.mem_cons_of_mem _ hu)
theorem Qyc{f:Nat}: ∀ {s:Nat} {Ms:List UMem},∀ c∈Yu f s Ms,f+s<=c
 | _,[],c,h=>by grind [Yu,List.mem_singleton]
 | s,M::Ms,c,h=>by
  rw[Yu]at h;rcases List.mem_cons.1 h with h|h
  .omega
  have:=Qyc c h;omega
theorem Jms{f:Nat}: ∀ {s:Nat} {Ms:List UMem},(∀ M∈Ms,UOk f M)->∀ a∈jAs f s Ms,∀ u∈a.1,∀ x∈a.1,f<=u->f<=x->f+s<=u/\Qdv (Yu f s Ms) u x
 | _,[],_,a,h,_,_,_,_,_,_=>by cases h
 | s,M::Ms,h,a,ha,u,hu,x,hx,fu,fx=>by
  rw[jAs,List.mem_append]at ha;rcases ha with ha|ha
  .obtain⟨a',h1,rfl⟩:=List.mem_map.1 ha;have hM:=h M mC;have key:∀ u∈(Qa f s a').1,f<=u->f+s<=u/\u<f+s+(M.N-f):=λu hu fu=>by
    obtain⟨u',h2,rfl⟩:=List.mem_map.1 hu;have h3:=hM.lt a' h1 u' h2;have:f<=u':=by unfold ren at fu;split at fu<;>omega
    rw[Jqq this];omega
   have k1:=key u hu fu;have k2:=key x hx fx;refine⟨k1.1,λc hc=>?_⟩;rw[Yu]at hc;rcases List.mem_cons.1 hc with hc|hc
   .omega
   have:=Qyc c hc;omega
  obtain⟨h1,h2⟩:=Jms (λm hm=>h m (List.mem_cons_of_mem _ hm)) a ha u hu x hx fu fx;obtain⟨h3,_⟩:=Jms (λm hm=>h m (List.mem_cons_of_mem _ hm)) a ha x hx u hu fx fu;refine⟨om,λc hc=>?_⟩;rw[Yu]at hc;rcases List.mem_cons.1 hc with hc|hc
  .omega
  exact h2 c hc
section
variable {f:Nat} {Ms:List UMem} (h:∀ M∈Ms,UOk f M)
include h
theorem nbC0: NbC f (Yu f 0 Ms) (nb0 (jN f 0 Ms) (Zo (jAs f 0 Ms).length (vrL (jAs f 0 Ms)))):=λu x C j=>by
 unfold nb0 at j;simp only[Bool.and_eq_true,decide_eq_true_eq,bne_iff_ne,List.any_eq_true]at j;obtain⟨⟨h1,Z⟩,e,D,O,J⟩:=j;obtain⟨i,hi,rfl⟩:=List.mem_map.1 D;have o:=List.mem_range.1 hi;have G:(jAs f 0 Ms).getD i pa0∈jAs f 0 Ms:=getD_mem' pa0 _ o;rcases Nat.lt_or_ge x f with h5|h5
 .exact .inl h5
 exact .inr (Jms h _ G u (edgeOf_bit.1 O) x (edgeOf_bit.1 J) C h5).2
theorem Xbq{kf:Nat->Nat}{pf:Nat->Int}(hb:Jwd (jN f 0 Ms) (Zo (jAs f 0 Ms).length (vrL (jAs f 0 Ms))) (Xc (jPm f 0 Ms) f) kf pf)(hne:Ms≠[])(hv:v<jN f 0 Ms):
  ∃ s' M,M∈Ms/\(∀ a∈M.ats.map (Qa f s'),a∈jAs f 0 Ms)/\∀ x,(kf v ||| 2^v).testBit x=true->x<f∨f+s'<=x/\x<f+s'+(M.N-f):=by
 have hp:=Jdn h;have C:∀ e∈Zo (jAs f 0 Ms).length (vrL (jAs f 0 Ms)),e<2^jN f 0 Ms:=λe he=>by
  obtain⟨i,hi,rfl⟩:=List.mem_map.1 he;exact Jkq (Jdr h _ (getD_mem' pa0 _ (List.mem_range.1 hi)))
 have o:∀ x,(kf v ||| 2^v).testBit x=true->x=v∨Vy (nb0 (jN f 0 Ms) (Zo (jAs f 0 Ms).length (vrL (jAs f 0 Ms)))) (Xc (jPm f 0 Ms) f) v x=true:=λx j=>by
  rw[Nat.testBit_or,Nat.testBit_two_pow,Bool.or_eq_true,decide_eq_true_eq]at j;rcases j with j|j
  .rw[(hb v hv).2.1]at j;exact .inr j
  exact .inl j.symm
 have J:∀ x,Vy (nb0 (jN f 0 Ms) (Zo (jAs f 0 Ms).length (vrL (jAs f 0 Ms)))) (Xc (jPm f 0 Ms) f) v x=true->x<jN f 0 Ms:=λx j=>Jdk (λa b O=>(Jkb C O).2.1) j;rcases Nat.lt_or_ge v f with h1|h1
 .obtain⟨M,hM⟩:∃ M,M∈Ms:=by cases Ms with
   | nil=>exact absurd rfl hne
   | cons M Ms=>exact⟨M,List.mem_cons_self⟩
  have hs:∃ s' M,M∈Ms/\∀ a∈M.ats.map (Qa f s'),a∈jAs f 0 Ms:=by cases Ms with
   | nil=>exact absurd rfl hne
   | cons M Ms=>exact⟨0,M,List.mem_cons_self,λa ha=>by grind [jAs,List.mem_append_left]⟩
  obtain⟨s',M',h2,h3⟩:=hs;refine⟨s',M',h2,h3,λx j=>.inl ?_⟩;rcases o x j with G|G
  .omega
  have h5:=(Jdj (Jlx C) hp.ond (hp.omem.2 hv) G).1;have Z:=hp.omem.2 (J x G);rcases List.mem_append.1 Z with D|D
  .refine absurd ?_ h5;obtain⟨p,q,e⟩:=List.append_of_mem D;have a1:∀ y∈jPm f 0 Ms,(y != v)=true:=λy hy=>bne_iff_ne.2 (by have:=(hp.rng y hy).1;omega);grind [pre,Xc,List.takeWhile_append_of_pos,List.mem_append_left]
  repeat grind
 obtain⟨s',M,h2,h3,G,h5,Z,D⟩:=Jmr (f:=f) (s:=0) om hv;refine⟨s',M,h2,h3,λx j=>?_⟩;rcases o x j with h8|h8
 .exact .inr om
 have Zz:∀ u∈pre (Xc (jPm f 0 Ms) f) v,f<=u:=λu hu=>by
  have hm:v∈jPm f 0 Ms:=by
   rcases List.mem_append.1 (hp.omem.2 hv) with h9|h9
   repeat grind
  obtain⟨r,e,hn⟩:=Jwp hm;have e2:pre (Xc (jPm f 0 Ms) f) v=pre (jPm f 0 Ms) v:=by grind [Xc,jPm,pre,List.range,Jcr]
  rw[e2]at hu;exact(hp.rng u ((List.takeWhile_sublist _).subset hu)).1
 rcases(nbC0 h).at Zz v x h1 h8 with h9|h9
 .exact .inl h9
 refine .inr ⟨?_,?_⟩
 .have:=h9 _ Z;omega
 have:=h9 _ D;omega
theorem jBldI{ds:List Bool}{ts:List TA}(hds:ds.length=f)(hne:Ms≠[])(h3:Ms.length<=4)(hts:ts.map (·.2)=(jAs f 0 Ms).map λa=>(⟨nz a.1,a.1.length,a.2⟩:Atm)):
  BldI (jN f 0 Ms) f ds (jPm f 0 Ms) ts (vrL (jAs f 0 Ms)) (rwL (jAs f 0 Ms)):=by
 have a3:ts.length=(jAs f 0 Ms).length:=by have:=congrArg List.length hts;simpa using this
 have hn:jN f 0 Ms<=24:=by
  have J:=Jmq (s:=0) h;cases Ms with
  | nil=>exact absurd rfl hne
  | cons M Ms=>
   have:=(h M mC).n6;have:=(h M mC).pm.fn;have h4:(M::Ms).length*(6-f)<=4*(6-f):=nO _ h3;omega
 have hm:=Jxl (s:=0) h;have j:∀ {P:PAt->Prop},(∀ a∈jAs f 0 Ms,P a)->∀ i,i<ts.length->P ((jAs f 0 Ms).getD i pa0):=by grind
 refine⟨⟨om,om,λi hi=>?_,j (P:=λa=>Xq a.1) (Jmt h),j (P:=λa=>∀ u∈a.1,u<jN f 0 Ms) (Jdr h),λv hv=>?_,j (P:=λa=>Lt [] a.2) (Jdq h λM D=>(h M D).srt),j (P:=λa=>∀ r∈a.2,r.length=a.1.length) (Xql h),j (P:=λa=>a.2.length<=65536) (Jdq (P:=λl=>l.length<=65536) h λM D a o=>nL ((h M D).big a o) (by decide))⟩,Jdn h,hds,j (P:=λa=>∀ r∈a.2,∀ u∈r,Xn u=true/\Xa u) (Jdq (P:=λl=>∀ r∈l,∀ u∈r,Xn u=true/\Xa u) h λM D=>(h M D).fit),λkf pf hb v hv=>⟨λl hl hx=>?_,λi hi=>.inl (j (P:=λa=>a.2.length<=12) (Jdq (P:=λl=>l.length<=12) h λM D=>(h M D).big) i hi)⟩⟩
 .have J:(ts.map (·.2)).getD i a0=(ts.getD i ta0).2:=by simp[List.getD,hi]
  grind
 .obtain⟨a,o,C⟩:=Qkt h hne hv;obtain⟨i,hi,rfl⟩:=List.getElem_of_mem o;exact⟨i,om,by grind⟩
 rw[a3]at hb hx;obtain⟨G,M,D,O,a4⟩:=Xbq h hb hne hv;have Z:=h M D;have hr:Jg (M.ats.map (Qa f G)).length (λi=>(rwL (M.ats.map (Qa f G)) i).length)<=5000:=by
  refine nL (Nat.le_of_eq ?_) Z.cnt;rw[List.length_map];refine Up λi hi=>?_;have:(M.ats.map (Qa f G)).getD i pa0=Qa f G (M.ats.getD i pa0):=by simp[List.getD,hi]
  rw[rwL,this];rfl
 refine nL (Xbr (n:=0) (L:=M.ats.map (Qa f G)) (s:=kf v ||| 2^v) (λa o=>?_) (λx a2=>?_) hl λx a1=>?_) (nL hr om)
 .obtain⟨a',J,rfl⟩:=List.mem_map.1 o;exact Qdf (Z.asc a' J)
 .rcases a4 x a2 with J|J
  .obtain⟨a,o,C⟩:=Z.cov x (by have:=Z.pm.fn;omega);exact⟨_,List.mem_map_of_mem o,List.mem_map.2 ⟨x,C,Jcm J⟩⟩
  obtain⟨a,o,C⟩:=Z.cov (x-G) om;exact⟨_,List.mem_map_of_mem o,List.mem_map.2 ⟨x-G,C,by grind [Jqq]⟩⟩
 obtain⟨z,hz,e,hB⟩:=hx x a1;exact⟨z,e,λa o=>(bagL_iff.1 hB) a (O a o)⟩
end
def Jbk(n:Nat)(L:List PAt)(z:Row): Prop:=z.length=n/\∀ a∈L,pmR a.1 z∈a.2
theorem ansL_iff{L:List PAt}: Zu n L.length (vrL L) (rwL L) z↔Jbk n L z :=
 and_congr_right λ_=>Qdh (d:=pa0) (P:=λa=>pmR a.1 z∈a.2)
def UAns(f:Nat)(M:UMem)(y:Row): Prop:=∃ z,Jbk M.N M.ats z/\z.take f=y
theorem Qxd(hc:∀ v∈cs,v<N)(h:∀ v,v<N->z.getD (ren f s v) V0=zM.getD v V0): pmR (cs.map (ren f s)) z=pmR cs zM:=by grind [pmR,List.map_map,List.map_congr_left]
theorem jans{f:Nat}: ∀ {s:Nat} {Ms:List UMem} {p:Row},(∀ M∈Ms,UOk f M)->p.length=f+s->((∃ z,Jbk (jN f s Ms) (jAs f s Ms) z/\z.take (f+s)=p)↔∀ M∈Ms,UAns f M (p.take f))
 | s,[],p,_,hp=>⟨λ_ M hM=>(by cases hM),λ_=>⟨p,⟨hp,λa ha=>(by cases ha)⟩,by grind⟩⟩
 | s,M::Ms,p,h,hp=>by
  have hM:=h M mC;have hfN:=hM.pm.fn;have h':∀ m∈Ms,UOk f m:=by grind
  have hge:=Uo (f:=f) (s:=s+(M.N-f)) (Ms:=Ms);constructor
  .rintro⟨z,⟨hz,ha⟩,rfl⟩;rw[jN]at hz;have ih:=(jans (f:=f) (s:=s+(M.N-f)) (Ms:=Ms) (p:=z.take (f+(s+(M.N-f)))) h' (by grind)).1 ⟨z,⟨hz,λa ha'=>ha a (by grind [jAs,List.mem_append_right])⟩,rfl⟩;intro m hm;rw[List.take_take,Nat.min_eq_left om]at ih ⊢;rcases List.mem_cons.1 hm with rfl|hm
   .have hget:∀ v,v<m.N->((List.range m.N).map λv=>z.getD (ren f s v) V0).getD v V0=z.getD (ren f s v) V0:=by grind
    refine⟨(List.range m.N).map λv=>z.getD (ren f s v) V0,⟨by simp,λa ha'=>?_⟩,?_⟩
    .have h1:=ha (Qa f s a) (by grind [jAs,List.mem_append_left,List.mem_map_of_mem]);have h2:pmR (Qa f s a).1 z=pmR a.1 ((List.range m.N).map λv=>z.getD (ren f s v) V0):=Qxd (hM.lt a ha') λv hv=>(hget v hv).symm;rw[h2]at h1;exact h1
    repeat grind [List.ext_getElem,List.length_take,List.length_map,List.length_range,Jcm,Qc,V0]
   exact ih m hm
  intro hA;obtain⟨zM,⟨hzl,hza⟩,hzf⟩:=hA M mC;have hpl:(p++zM.drop f).length=f+(s+(M.N-f)):=by grind
  obtain⟨z,⟨hz,hzA⟩,hzt⟩:=(jans (f:=f) (s:=s+(M.N-f)) (Ms:=Ms) (p:=p++zM.drop f) h' hpl).2 λm hm=>by grind
  have hget:∀ i,i<f+(s+(M.N-f))->z.getD i V0=(p++zM.drop f).getD i V0:=λi hi=>by grind
  refine⟨z,⟨by rw[jN];exact hz,λa ha=>?_⟩,?_⟩
  .rw[jAs,List.mem_append]at ha;rcases ha with ha|ha
   .obtain⟨a',h1,rfl⟩:=List.mem_map.1 ha;have h2:pmR (Qa f s a').1 z=pmR a'.1 zM:=Qxd (hM.lt a' h1) λv hv=>by
     unfold ren;split
     .rename_i hvf;rw[hget v om];have e1:(p++zM.drop f).getD v V0=p.getD v V0:=by grind
      have e2:zM.getD v V0=(zM.take f).getD v V0:=by simp[List.getD,hvf]
      grind
     repeat grind
    rw[h2];exact hza a' h1
   exact hzA a ha
  repeat grind [Nat.min_eq_left,List.take_length]
open Pl Go.Wk
variable {d found:Bool}{l:List (V×Nat)}{ds:List Bool}{U:List Row}{c i j k s v:Nat}{may:Nat->Prop}{p q r y:Row}{a best want:V}
def Jvf(s:Nat): Bool:=[false,true,true,false,true,false,false,true].getD s false
def sgP(c:Nat->Nat): Nat->Nat
 | 0=>0
 | i+1=>if Jvf (i+1) then sgP c i+c (i+1) else sgP c i
def sgM(c:Nat->Nat): Nat->Nat
 | 0=>0
 | i+1=>if Jvf (i+1) then sgM c i else sgM c i+c (i+1)
structure UnP(k f:Nat)(ds:List Bool)(M:Nat->List Row)(U:List Row): Prop where
 k1:1<=k
 k3:k<=3
 ul:Lt ds U
 um:∀ y,y∈U↔∃ i,i<k/\y∈M (2^i)
 ml:∀ s,1<=s->s<2^k->Lt ds (M s)
 mm:∀ s,1<=s->s<2^k->∀ y,y∈M s↔∀ i,i<k->s.testBit i=true->y∈M (2^i)
 len:∀ y∈U,y.length=f
theorem cnt2{P b0 b1:Row->Bool}: ∀ {U:List Row},(∀ y∈U,(b0 y || b1 y)=true)->(U.filter λy=>b0 y && P y).length+(U.filter λy=>b1 y && P y).length=(U.filter P).length+(U.filter λy=>(b0 y && b1 y) && P y).length
 | [],_=>rfl
 | y::U,h=>by
  have ih:=cnt2 (P:=P) (b0:=b0) (b1:=b1) (U:=U) λx hx=>h x (List.mem_cons_of_mem _ hx);grind
theorem cnt3{P b0 b1 b2 : Row → Bool}: ∀ {U : List Row}, (∀ y ∈ U, (b0 y || b1 y || b2 y) = true) → (U.filter fun y => b0 y && P y).length + (U.filter fun y => b1 y && P y).length + (U.filter fun y => b2 y && P y).length + (U.filter fun y => (b0 y && b1 y && b2 y) && P y).length =
      (U.filter P).length + (U.filter fun y => (b0 y && b1 y) && P y).length + (U.filter fun y => (b0 y && b2 y) && P y).length + (U.filter fun y => (b1 y && b2 y) && P y).length
  | [], _ => rfl
  | y :: U, h => by
    have ih := cnt3 (P := P) (b0 := b0) (b1 := b1) (b2 := b2) (U := U) fun x hx => h x (List.mem_cons_of_mem _ hx)
    have h0 := h y mC
    simp only [List.filter_cons]
    grind
theorem Jmc{l:List Row}(h:Lt ds l)(P:Row->Bool): Lt ds (l.filter P):=List.Pairwise.sublist List.filter_sublist h
section
variable {k f:Nat} {ds:List Bool} {M:Nat->List Row} {U:List Row} (h:UnP k f ds M U)
include h
theorem UnP.sub(h1:1<=s)(h2:s<2^k)(hy:y∈M s): y∈U:=by
 obtain⟨i,hi⟩:∃ i,s.testBit i=true:=Nat.exists_testBit_of_ne_zero om;have j:i<k:=by grind [Nat.lt_or_ge,Nat.testBit_lt_two_pow,Nat.lt_of_lt_of_le,Nat.pow_le_pow_right]
 exact(h.um y).2 ⟨i,j,(h.mm s h1 h2 y).1 hy i j hi⟩
theorem UnP.fil(h1:1<=s)(h2:s<2^k){b:Row->Bool}(hb:∀ y,b y=true↔∀ i,i<k->s.testBit i=true->y∈M (2^i))(P:Row->Bool): ((M s).filter P).length=(U.filter λy=>b y && P y).length:=by
 have:M s=U.filter b:=Iq (h.ml s h1 h2) (Jmc h.ul b) λy=>by
  rw[List.mem_filter,hb];exact⟨λj=>⟨h.sub h1 h2 j,(h.mm s h1 h2 y).1 j⟩,λj=>(h.mm s h1 h2 y).2 j.2⟩
 grind [List.filter_filter,List.filter_congr,Bool.and_comm]
theorem UnP.signed(P:Row->Bool): sgP (λs=>((M s).filter P).length) (2^k-1)=(U.filter P).length+sgM (λs=>((M s).filter P).length) (2^k-1):=by
 obtain⟨m,hm⟩:∃ m:Nat->Row->Bool,m=λi y=>decide (y∈M (2^i)):=⟨_,rfl⟩;obtain⟨j,G⟩:∃ j:Nat->Row->Bool,j=λs y=>(List.range k).all λi=>!(s.testBit i) || m i y:=⟨_,rfl⟩;have key:∀ s,1<=s->s<2^k->((M s).filter P).length=(U.filter λy=>j s y && P y).length:=λs o u=>h.fil o u (λy=>by grind) P;have hu:∀ y∈U,∃ i,i<k/\m i y=true:=λy D=>by
  obtain⟨i,hi,o⟩:=(h.um y).1 D;exact⟨i,hi,by rw[hm];simpa using o⟩
 have a2:=h.k1;have a1:=h.k3;clear h hm;obtain rfl|rfl|rfl:k=1∨k=2∨k=3:=om
 .have C:=key 1 (by decide) (by decide);show 0+((M 1).filter P).length=_+0;rw[C,Nat.zero_add,Nat.add_zero];grind [List.filter_congr,Nat.testBit]
 .have C:=key 1 (by decide) (by decide);have Z:=key 2 (by decide) (by decide);have O:=key 3 (by decide) (by decide);show 0+((M 1).filter P).length+((M 2).filter P).length=_+(0+((M 3).filter P).length);have o:j 1=m 0:=by grind
  have u:j 2=m 1:=by grind
  have J:j 3=λy=>m 0 y && m 1 y:=by grind
  rw[C,Z,O,o,u,J];have:=cnt2 (P:=P) (b0:=m 0) (b1:=m 1) (U:=U) λy D=>by grind
  grind
 have C:=key 1 (by decide) (by decide);have Z:=key 2 (by decide) (by decide);have O:=key 3 (by decide) (by decide);have e4:=key 4 (by decide) (by decide);have e5:=key 5 (by decide) (by decide);have e6:=key 6 (by decide) (by decide);have e7:=key 7 (by decide) (by decide);show 0+((M 1).filter P).length+((M 2).filter P).length+((M 4).filter P).length+((M 7).filter P).length=_+(0+((M 3).filter P).length+((M 5).filter P).length+((M 6).filter P).length);have hs:∀ s,j s=λy=>(!(s.testBit 0) || m 0 y) && ((!(s.testBit 1) || m 1 y) && ((!(s.testBit 2) || m 2 y) && true)):=λs=>by subst G;rfl
 have o:j 1=m 0:=by grind
 have u:j 2=m 1:=by grind
 have h4:j 4=m 2:=by grind
 have J:j 3=λy=>m 0 y && m 1 y:=by grind
 have h5:j 5=λy=>m 0 y && m 2 y:=by grind
 have h6:j 6=λy=>m 1 y && m 2 y:=by grind
 have h7:j 7=λy=>m 0 y && m 1 y && m 2 y:=by grind
 rw[C,Z,O,e4,e5,e6,e7,o,u,J,h4,h5,h6,h7];have:=cnt3 (P:=P) (b0:=m 0) (b1:=m 1) (b2:=m 2) (U:=U) λy D=>by grind
 simp only at this ⊢;omega
end
theorem Qyv{b:V}: Jy (p++[a]) (p++[b]) ds=neg (ds.getD p.length false) (cmpV a b):=by
 have key:∀(p:Row) (ds:List Bool),Jy (p++[a]) (p++[b]) ds=neg (ds.getD p.length false) (cmpV a b):=by
  intro p;induction p with
  | nil=>
   grind [cmpV,Jy,Jlv]
  | cons x p ih=>
   grind [cmpV,Jy,Vd,List.getD]
 exact key p ds
theorem Xwq(h:Lt ds U)(hk:k<U.length): Qh ds U q<=k↔¬ Jy ((U.getD k []).take q.length) q ds<0:=by
 have o:∀ i j,i<=j->j<U.length->Jy ((U.getD i []).take q.length) ((U.getD j []).take q.length) ds<=0:=λi j D J=>by
  refine Qys _ _ ds _ ?_;rcases Nat.eq_or_lt_of_le D with e|e
  .rw[e,Uj];exact Int.le_refl _
  exact Int.le_of_lt (Xjq h e J)
 have Z:Qh ds U q=Qh ds (U.take (k+1)) q+Qh ds (U.drop (k+1)) q:=by rw[<-Jnv,List.take_append_drop]
 have O:Qh ds U q=Qh ds (U.take k) q+Qh ds (U.drop k) q:=by rw[<-Jnv,List.take_append_drop]
 constructor
 .intro G u;have:Qh ds (U.take (k+1)) q=(U.take (k+1)).length:=Qym λx C=>by
   obtain⟨i,hi,rfl⟩:=List.getElem_of_mem C;rw[List.length_take]at hi;rw[List.getElem_take,<-Qc [] _ (show i<U.length by omega)];exact(Kk ds).le_lt (o i k om hk) u
  grind
 intro G;have:Qh ds (U.drop k) q=0:=Jnt λx C u=>by
  obtain⟨i,hi,rfl⟩:=List.getElem_of_mem C;rw[List.length_drop]at hi;rw[List.getElem_drop,<-Qc [] _ (show k+i<U.length by omega)]at u;exact G ((Kk ds).le_lt (o k (k+i) om om) u)
 grind [Qh,Jyr,List.length_take]
theorem Xwp(h:Lt ds U)(hk:k<U.length)(hv:v<(U.getD k []).length): Qh ds U ((U.getD k []).take v++[a])<=k↔neg (ds.getD v false) (cmpV a ((U.getD k []).getD v V0))<=0:=by
 rw[Xwq h hk];have i:((U.getD k []).take v).length=v:=by grind
 have e:(U.getD k []).take ((U.getD k []).take v++[a]).length=(U.getD k []).take v++[(U.getD k []).getD v V0]:=by
  rw[List.length_append,i];exact Qr V0 hv
 grind [Qyv,Jzx]
section
variable {k f:Nat} {ds:List Bool} {M:Nat->List Row} {U:List Row} (h:UnP k f ds M U)
include h
theorem UnP.before(q:Row): sgP (λs=>Qh ds (M s) q) (2^k-1)=Qh ds U q+sgM (λs=>Qh ds (M s) q) (2^k-1):=h.signed _
theorem UnP.total: sgP (λs=>(M s).length) (2^k-1)=U.length+sgM (λs=>(M s).length) (2^k-1):=by
 have:=h.signed λ_=>true;have e:∀ l:List Row,l.filter (λ_=>true)=l:=by grind [List.filter_eq_self.2]
 grind
theorem UnP.has(hr:r.length=f): r∈U↔∃ s,1<=s/\s<2^k/\0<(wiL (M s) r).length:=by
 constructor
 .intro C;obtain⟨i,hi,u⟩:=(h.um r).1 C;refine⟨2^i,Nat.one_le_two_pow,Nat.pow_lt_pow_right om hi,?_⟩;refine List.length_pos_of_mem (a:=r) ?_;grind [wiL,List.take_length]
 rintro⟨s,u,J,G⟩;obtain⟨x,o⟩:=List.exists_mem_of_length_pos G;unfold wiL at o;rw[List.mem_filter,decide_eq_true_eq]at o;have j:=h.sub u J o.1;have D:=h.len x j;grind
end
structure BestP(d:Bool)(want:V)(may:Nat->Prop)(i:Nat)(found:Bool)(best:V): Prop where
 le:found=true->neg d (cmpV best want)<=0
 has:(∃ j,j<i/\may j)->found=true/\best=want
theorem BestP.start(d:Bool)(want:V)(may:Nat->Prop)(best:V): BestP d want may 0 false best:=⟨λh=>(by cases h),λ⟨j,i,_⟩=>absurd i (Nat.not_lt_zero j)⟩
theorem BestP.skip(h:BestP d want may i found best)(hn:¬ may i): BestP d want may (i+1) found best :=
 ⟨h.le,λ⟨j,u,o⟩=>h.has ⟨j,by grind⟩⟩
theorem BestP.take{val:V}(h:BestP d want may i found best)(hv:neg d (cmpV val want)<=0)(hm:may i->val=want)(hf:found=false∨0<neg d (cmpV val best)): BestP d want may (i+1) true val :=
 ⟨λ_=>hv,λ⟨j,u,o⟩=>⟨rfl,by
  rcases Nat.lt_or_ge j i with h2|h2
  .obtain⟨D,C⟩:=h.has ⟨j,h2,o⟩;grind
  repeat grind⟩⟩
theorem BestP.keep{val:V}(h:BestP d want may i true best)(hm:may i->val=want)(hf:neg d (cmpV val best)<=0): BestP d want may (i+1) true best :=
 ⟨h.le,λ⟨j,u,o⟩=>⟨rfl,by
  rcases Nat.lt_or_ge j i with h2|h2
  .exact(h.has ⟨j,h2,o⟩).2
  have:j=i:=om
  subst this;have e:=hm o;rw[e,Jzx]at hf;have C:=h.le rfl;refine(Jxq d).zero _ _ ?_;grind⟩⟩
structure LastP(d:Bool)(want:V)(l:List (V×Nat))(c:Nat): Prop where
 le:c<=l.length
 yes:∀ i,i<c->neg d (cmpV (l.getD i (V0,0)).1 want)<=0
 no:∀ i,c<=i->i<l.length->¬ neg d (cmpV (l.getD i (V0,0)).1 want)<=0
theorem LastP.end(h:LastP d want l c)(hs:Gq d l)(hw:want∈l.map (·.1)): 0<c/\(l.getD (c-1) (V0,0)).1=want:=by
 obtain⟨p,hp,e⟩:=List.mem_map.1 hw;obtain⟨i,hi,rfl⟩:=List.getElem_of_mem hp;have D:(l.getD i (V0,0)).1=want:=by grind
 have j:i<c:=by
  rcases Nat.lt_or_ge i c with h1|h1
  .exact h1
  have:=h.no i h1 hi;grind [Vd,Jlv]
 have C:=h.le;rcases Nat.lt_or_ge i (c-1) with h1|h1
 .have u:=h.yes (c-1) om;have o:=List.pairwise_iff_getElem.1 hs i (c-1) hi om h1;grind [Qc,V0,Jzx]
 repeat grind
theorem Qmm(hs:Gq d l)(hij:i<=j)(hj:j<l.length)(h:neg d (cmpV (l.getD j (V0,0)).1 want)<=0): neg d (cmpV (l.getD i (V0,0)).1 want)<=0:=by
 rcases Nat.eq_or_lt_of_le hij with e|e
 .rw[e];exact h
 have o:=List.pairwise_iff_getElem.1 hs i j om hj e;rw[<-Qc (V0,0) l (show i<l.length by omega),<-Qc (V0,0) l hj]at o;exact(Jxq d).trans _ _ _ (Int.le_of_lt o) h
open Pl Go.Wk
variable {ds:List Bool}{f i n s:Nat}{y:Row}{α:Type}
def Zy(c:Cse)(ats:List Atm): UMem:=⟨c.N,toN c.pm,(List.range c.m).map λi=>(c.vars i,rsA ats i)⟩
section
variable {c:Cse} {ats:List Atm} (h:CseOk c ats)
include h
theorem CseOk.uok: UOk c.F (Zy c ats):=by
 have j:∀ {P:PAt->Prop},(∀ i,i<c.m->P (c.vars i,rsA ats i))->∀ a∈(Zy c ats).ats,P a:=λhP a O=>by
  obtain⟨i,hi,rfl⟩:=List.mem_map.1 O;grind
 refine⟨h.nN.2,?_,j (P:=λa=>Xq a.1) λi hi=>(h.vars hi).2.1,j (P:=λa=>∀ v∈a.1,v<c.N) λi hi=>(h.vars hi).2.2.1,λv G=>?_,j (P:=λa=>Lt [] a.2) λi hi=>(h.set hi).1,j (P:=λa=>∀ r∈a.2,r.length=a.1.length) λi hi=>h.slen hi,
  j (P:=λa=>∀ r∈a.2,∀ u∈r,Xn u=true/\Xa u) λi hi r J u D=>?_,?_,j (P:=λa=>a.2.length<=12) λi hi=>?_,h.pm.1⟩
 .have:=h.few.v5;grind [Zy,List.length_map,List.length_range,Cse.m]
 .obtain⟨i,hi,C⟩:=h.cov G;exact⟨_,List.mem_map.2 ⟨i,List.mem_range.2 hi,rfl⟩,C⟩
 .have o:=((h.set hi).2 r).1 J;have h1:=((h.mka i hi).ok r o).2;exact⟨List.all_eq_true.1 h1 u D,h.fit i (by rw[<-h.len];exact hi) r o u D⟩
 .have h3:=h.cnt;have Z:Jg c.m (λi=>(rsA ats i).length)<=Jg c.m λi=>(c.crs i).length:=Qqx λi hi=>Jwr (h.set hi);have e:Jg (Zy c ats).ats.length (λi=>(rwL (Zy c ats).ats i).length)=Jg c.m λi=>(rsA ats i).length:=by
   have el:(Zy c ats).ats.length=c.m:=by simp[Zy]
   rw[el];refine Up λi hi=>?_;simp[rwL,Zy,List.getD,hi]
  rw[e];omega
 have:=Jwr (h.set hi);have Z:=h.few.row i (by rw[<-h.len];exact hi);grind [Cse.crs,rsA]
theorem CseOk.uans: UAns c.F (Zy c ats) y↔y∈c.ans:=by
 rw[h.ans.2 y];have e:∀ z,Jbk (Zy c ats).N (Zy c ats).ats z↔Zu c.N c.m c.vars (rsA ats) z:=λz=>by
  unfold Jbk Zu;refine and_congr_right λ_=>⟨λj i hi=>j _ (List.mem_map.2 ⟨i,List.mem_range.2 hi,rfl⟩),λj a u=>?_⟩;obtain⟨i,hi,rfl⟩:=List.mem_map.1 u;grind
 exact⟨λ⟨z,j,o⟩=>⟨z,(e z).1 j,o⟩,λ⟨z,j,o⟩=>⟨z,(e z).2 j,o⟩⟩
end
def Yl(l:List α)(s i:Nat): List α:=((List.range i).filter λi=>s.testBit i).filterMap λi=>l[i]?
theorem Jlk{l:List α}(hi:i<l.length): Yl l s (i+1)=if s.testBit i=true then Yl l s i++[l[i]] else Yl l s i:=by grind [Yl,List.range_succ,List.filter_cons_of_pos,List.getElem?_eq_getElem,List.filter_cons_of_neg]
theorem Jll{α:Type}{l:List α}{s:Nat}: ∀ i,i<=l.length->(Yl l s i).Sublist (l.take i)
 | 0,_=>by simp[Yl]
 | i+1,hi=>by
  have ih:=Jll (l:=l) (s:=s) i om;have hi':i<l.length:=om
  rw[Jlk hi',List.take_add_one,List.getElem?_eq_getElem hi'];grind
def pick(l:List α)(s:Nat): List α:=Yl l s l.length
theorem pick_sub{l:List α}: (pick l s).Sublist l:=by
 have:=Jll (l:=l) (s:=s) l.length (nR _);rwa [List.take_length]at this
theorem flat_len{a b:List (List α)}(h:a.Sublist b): a.flatten.length<=b.flatten.length:=by
 induction h with
 | slnil=>exact nR _
 | cons x _ ih=>rw[List.flatten_cons,List.length_append];omega
 | cons_cons x _ ih=>rw[List.flatten_cons,List.flatten_cons,List.length_append,List.length_append];omega
theorem pick_mem{l:List α}{x:α}: x∈pick l s↔∃ i,i<l.length/\s.testBit i=true/\l[i]?=some x:=by grind [pick,Yl,List.mem_filter.2,List.mem_range.2]
theorem Qxj{l:List α}(h1:1<=s)(h2:s<2^l.length): pick l s≠[]:=by
 obtain⟨i,hi⟩:∃ i,s.testBit i=true:=Nat.exists_testBit_of_ne_zero om;have j:i<l.length:=by grind [Nat.lt_or_ge,Nat.testBit_lt_two_pow,Nat.lt_of_lt_of_le,Nat.pow_le_pow_right]
 exact List.ne_nil_of_mem (pick_mem.2 ⟨i,j,hi,List.getElem?_eq_getElem j⟩)
theorem Qrl{l:List α}: (pick l s).length<=l.length:=pick_sub.length_le
abbrev CsA:= Cse×List Atm
def CsM(f:Nat)(ds:List Bool)(p:CsA): Prop:=CseOk p.1 p.2/\p.1.F=f/\p.1.ds=ds
structure CsU(gs:List (List CsA))(f:Nat)(ds:List Bool): Prop where
 c1:1<=gs.length
 c3:gs.length<=3
 c4:gs.flatten.length<=4
 ne:∀ g∈gs,g≠[]
 ok:∀ g∈gs,∀ p∈g,CsM f ds p
noncomputable def Xb(ms:List CsA): List Row:=match ms with
 | []=>[]
 | p::ms=>p.1.ans.filter λy=>ms.all λq=>decide (y∈q.1.ans)
theorem Jjx: ∀ {ms:List CsA},ms≠[]->∀ y,y∈Xb ms↔∀ q∈ms,y∈q.1.ans
 | [],h,_=>absurd rfl h
 | p::ms,_,y=>by grind [Xb,List.all_eq_true]
theorem Qbc(p:CsA): Xb [p]=p.1.ans:=List.filter_eq_self.2 λ_ _=>rfl
theorem Jpb{ms:List CsA}(h:∀ p∈ms,CsM f ds p): Lt ds (Xb ms):=by
 cases ms with
 | nil=>exact List.Pairwise.nil
 | cons p ms=>
  obtain⟨j,_,i⟩:=h p mC;have:=j.ans.1;rw[i]at this;exact Jmc this _
theorem Jpc{ms:List CsA}(h:∀ p∈ms,CsM f ds p): (Xb ms).length<=5000:=by
 cases ms with
 | nil=>exact Nat.zero_le _
 | cons p ms=>exact nL (List.length_filter_le _ _) (h p mC).1.anl
theorem Qbb{ms:List CsA}(h:∀ p∈ms,CsM f ds p)(hy:y∈Xb ms): y.length=f:=by
 cases ms with
 | nil=>cases hy
 | cons p ms=>
  obtain⟨j,i,o⟩:=h p mC;rw[j.arow (List.mem_filter.1 hy).1,i]
noncomputable def Gj(ds:List Bool)(gs:List (List CsA)): List Row:=(gs.flatMap Xb).foldl (Zx ds) []
theorem Jbd(ds:List Bool)(gs:List (List CsA)): Zt ds (gs.flatMap Xb) (Gj ds gs):=by
 have:=Jxp (ds:=ds) (gs.flatMap Xb) (done:=[]) (l:=[]) ⟨List.Pairwise.nil,λx=>Iff.rfl⟩;rwa [List.nil_append]at this
theorem pick_flat{gs:List (List CsA)}{p:CsA}: p∈(pick gs s).flatten↔∃ i,∃(hi:i<gs.length),s.testBit i=true/\p∈gs[i]:=by
 rw[List.mem_flatten];constructor
 .rintro⟨g,j,hp⟩;obtain⟨i,hi,ht,e⟩:=pick_mem.1 j;grind
 rintro⟨i,hi,ht,hp⟩;exact⟨_,pick_mem.2 ⟨i,hi,ht,List.getElem?_eq_getElem hi⟩,hp⟩
section
variable {gs:List (List CsA)} {f:Nat} {ds:List Bool} (h:CsU gs f ds)
include h
theorem CsU.pne(h1:1<=s)(h2:s<2^gs.length): (pick gs s).flatten≠[]:=by
 obtain⟨g,j⟩:=List.exists_mem_of_ne_nil _ (Qxj h1 h2);obtain⟨i,hi,ht,e⟩:=pick_mem.1 j;obtain⟨p,hp⟩:=List.exists_mem_of_ne_nil _ (h.ne g (List.mem_of_getElem? e));exact List.ne_nil_of_mem (List.mem_flatten.2 ⟨g,j,hp⟩)
theorem CsU.p4: (pick gs s).flatten.length<=4:=nL (flat_len pick_sub) h.c4
theorem CsU.pok: ∀ p∈(pick gs s).flatten,CsM f ds p:=λp hp=>by
 obtain⟨i,hi,_,j⟩:=pick_flat.1 hp;exact h.ok _ (List.getElem_mem hi) p j
theorem CsU.cmn(h1:1<=s)(h2:s<2^gs.length)(y:Row): y∈Xb (pick gs s).flatten↔∀ i (hi:i<gs.length),s.testBit i=true->y∈Xb gs[i]:=by
 rw[Jjx (h.pne h1 h2)];constructor
 .intro o i hi ht;exact(Jjx (h.ne _ (List.getElem_mem hi)) y).2 λq j=>o q (pick_flat.2 ⟨i,hi,ht,j⟩)
 intro o q j;obtain⟨i,hi,ht,u⟩:=pick_flat.1 j;exact(Jjx (h.ne _ (List.getElem_mem hi)) y).1 (o i hi ht) q u
theorem CsU.one(hi:i<gs.length)(y:Row): y∈Xb (pick gs (2^i)).flatten↔y∈Xb gs[i]:=by
 rw[h.cmn Nat.one_le_two_pow (Nat.pow_lt_pow_right om hi)];grind
theorem CsU.unp: UnP gs.length f ds (λs=>Xb (pick gs s).flatten) (Gj ds gs):=by
 have j:=Jbd ds gs;refine⟨h.c1,h.c3,j.1,λy=>?_,λs J G=>Jpb h.pok,λs J G y=>?_,λy o=>?_⟩
 .rw[j.2 y,List.mem_flatMap];constructor
  .rintro⟨g,C,o⟩;obtain⟨i,hi,rfl⟩:=List.getElem_of_mem C;exact⟨i,hi,(h.one hi y).2 o⟩
  rintro⟨i,hi,o⟩;exact⟨_,List.getElem_mem hi,(h.one hi y).1 o⟩
 .show y∈Xb (pick gs s).flatten↔_;rw[h.cmn J G];exact⟨λD i hi ht=>(h.one hi y).2 (D i hi ht),λD i hi ht=>(h.one hi y).1 (D i hi ht)⟩
 obtain⟨g,C,u⟩:=List.mem_flatMap.1 ((j.2 y).1 o);exact Qbb (h.ok g C) u
end
def Qp(ms:List CsA): List UMem:=ms.map λp=>Zy p.1 p.2
section
variable {ms:List CsA} {f:Nat} {ds:List Bool} (h:∀ p∈ms,CsM f ds p)
include h
theorem Jzc: ∀ M∈Qp ms,UOk f M:=λM i=>by
 obtain⟨p,hp,rfl⟩:=List.mem_map.1 i;obtain⟨o,j,_⟩:=h p hp;rw[<-j];exact o.uok
theorem Xvc(hne:ms≠[])(hn:n=(jAs f 0 (Qp ms)).length): Lt ds (Xb ms)/\(Xb ms).length<=5000/\∀ y,y∈Xb ms↔∃ z,Zu (jN f 0 (Qp ms)) n (vrL (jAs f 0 (Qp ms))) (rwL (jAs f 0 (Qp ms))) z/\z.take f=y:=by
 subst hn;refine⟨Jpb h,Jpc h,λy=>?_⟩
 have G:∀ y:Row,(∀ q∈ms,y∈q.1.ans)↔∀ M∈Qp ms,UAns f M y:=λy=>by
  constructor
  .intro u M J;obtain⟨p,hp,rfl⟩:=List.mem_map.1 J;obtain⟨o,j,_⟩:=h p hp;rw[<-j];exact o.uans.2 (u p hp)
  intro u p hp;obtain⟨o,j,_⟩:=h p hp;have:=u _ (List.mem_map_of_mem hp);rw[<-j]at this;exact o.uans.1 this
 rw[Jjx hne,G];constructor
 .intro u;have D:y.length=f:=by
   obtain⟨p,hp⟩:=List.exists_mem_of_ne_nil _ hne;have:=(G y).2 u p hp;obtain⟨o,j,_⟩:=h p hp;rw[o.arow this,j]
  obtain⟨z,C,e⟩:=(jans (s:=0) (p:=y) (Jzc h) om).2 (by grind);exact⟨z,ansL_iff.2 C,e⟩
 rintro⟨z,C,e⟩;have i:=ansL_iff.1 C;have D:y.length=f:=by rw[<-e,List.length_take,i.1];grind [Uo,Qp]
 have:=(jans (s:=0) (p:=y) (Jzc h) om).1 ⟨z,i,e⟩;grind
end
open Pl Go.Wk
variable {b:Nat->Bool}{y:Row}
def Xt(b:Nat->Bool): Nat->Nat
 | 0=>0
 | i+1=>if b i then Xt b i ||| 2^i else Xt b i
theorem Jvn(b:Nat->Bool): ∀ k j,(Xt b k).testBit j=(decide (j<k) && b j)
 | 0,j=>by simp[Xt]
 | k+1,j=>by
  have ih:=Jvn b k j;grind [Xt]
theorem Qzh(b:Nat->Bool)(k:Nat): Xt b k<2^k:=Nat.lt_pow_two_of_testBit _ λi hi=>by grind [Jvn]
theorem Qzj{k:Nat}: Xt b k=2^k-1↔∀ i,i<k->b i=true:=by
 constructor
 .intro h i hi;have:=Jvn b k i;grind
 intro h;refine Nat.eq_of_testBit_eq λi=>?_;grind [Jvn,Nat.testBit_two_pow_sub_one]
noncomputable def Ze(gs:List (List CsA))(y:Row)(i:Nat): Bool:=decide (y∈Xb (gs.getD i []))
theorem Xxt{gs:List (List CsA)}(h:∀ i,i<gs.length->b i=Ze gs y i): Xt b gs.length=Xt (Ze gs y) gs.length:=by
 refine Nat.eq_of_testBit_eq λi=>?_;grind [Jvn]
section
variable {gs gs':List (List CsA)} {f:Nat} {ds:List Bool}
theorem Xch: y∈Gj ds gs↔∃ g∈gs,y∈Xb g:=by rw[(Jbd ds gs).2 y,List.mem_flatMap]
theorem Xwf(h:CsU gs f ds): (Gj ds gs).filter (λy=>decide (Xt (Ze gs y) gs.length=2^gs.length-1))=Xb gs.flatten:=by
 have C:∀ p∈gs.flatten,CsM f ds p:=λp hp=>by
  obtain⟨g,G,u⟩:=List.mem_flatten.1 hp;exact h.ok g G p u
 have D:gs.flatten≠[]:=by
  have:=h.c1;cases e:gs with
  | nil=>rw[e]at this;simp at this
  | cons g gs'=>
   obtain⟨p,hp⟩:=List.exists_mem_of_ne_nil _ (h.ne g (by grind));exact List.ne_nil_of_mem (List.mem_flatten.2 ⟨g,List.mem_cons_self,hp⟩)
 refine Iq (Jmc (Jbd ds gs).1 _) (Jpb C) λy=>?_;rw[List.mem_filter,decide_eq_true_eq,Qzj,Jjx D];have key:(∀ i,i<gs.length->Ze gs y i=true)↔∀ q∈gs.flatten,y∈q.1.ans:=by
  constructor
  .intro j q o;obtain⟨g,G,hp⟩:=List.mem_flatten.1 o;obtain⟨i,hi,rfl⟩:=List.getElem_of_mem G;have:=j i hi;unfold Ze at this;rw[decide_eq_true_eq,Qc [] _ hi]at this;exact(Jjx (h.ne _ (List.getElem_mem hi)) y).1 this q hp
  intro j i hi;unfold Ze;rw[decide_eq_true_eq,Qc [] _ hi];exact(Jjx (h.ne _ (List.getElem_mem hi)) y).2 λq o=>j q (List.mem_flatten.2 ⟨_,List.getElem_mem hi,o⟩)
 rw[key];refine⟨λj=>j.2,λj=>⟨?_,j⟩⟩;rw[Xch];have J:=h.c1;refine⟨gs[0],List.getElem_mem J,(Jjx (h.ne _ (List.getElem_mem J)) y).2 λq o=>j q (List.mem_flatten.2 ⟨_,List.getElem_mem J,o⟩)⟩
end
open Go.RowKit Pl Go.Wk
attribute [local irreducible] WC WL QX WD WDB WP WN WG WH WM
variable {ds:List Bool}{f:Nat}
def toAtm(a:PAt): Atm:=⟨nz a.1,a.1.length,a.2⟩
def Yk(f:Nat)(ds:List Bool)(M:UMem): Inp:=⟨M.N,f,ds,nz M.perm,M.ats.map toAtm⟩
theorem Xcc{l:List Nat}(h:Xq l): Jbc (nz l):=λj h0 i=>by
 rw[Qv]at i;rw[Jvg om,Jvg i];have:=List.pairwise_iff_getElem.1 h (j-1) j om i om;grind
theorem Jpf{Ms:List UMem}(h:∀ M∈Ms,UOk f M)(hds:ds.length=f)(hne:Ms≠[])(h4:Ms.length<=4): jN f 0 Ms<=24/\Jxr (Yk f ds (Qg f Ms)):=by
 have hp:=Jdn h;have a1:=hp.fn;have hn:jN f 0 Ms<=24:=by
  have h1:=Jmq (s:=0) h;cases Ms with
  | nil=>exact absurd rfl hne
  | cons M Ms=>
   have:=(h M mC).n6;have:=(h M mC).pm.fn;have h4:(M::Ms).length*(6-f)<=4*(6-f):=nO _ h4;omega
 have hm:=Jxl (s:=0) h;have o:∀ {v:Int},v∈nz (jPm f 0 Ms)->∃ u,u∈jPm f 0 Ms/\v=(u:Int):=λi=>by
  obtain⟨u,j,rfl⟩:=List.mem_map.1 i;exact⟨u,j,rfl⟩
 refine⟨hn,?_,?_,?_,?_,?_,?_,λv i=>?_,?_,?_,?_,?_,λa O=>?_,λv i=>?_⟩
 .show(0:Int)<=(jN f 0 Ms:Nat);omega
 .show((jN f 0 Ms:Nat):Int)<=32;omega
 .show(0:Int)<=(f:Int);omega
 .show(f:Int)<=(jN f 0 Ms:Nat);omega
 .show((ds.length:Nat):Int)=f;omega
 .show(((nz (jPm f 0 Ms)).length:Nat):Int)=(jN f 0 Ms:Nat)-(f:Int);rw[Qv,hp.len];omega
 .obtain⟨u,j,rfl⟩:=o i;have:=hp.rng u j;show(f:Int)<=u/\(u:Int)<(jN f 0 Ms:Nat);omega
 .show(nz (jPm f 0 Ms)).Nodup;unfold nz List.Nodup;rw[List.pairwise_map];exact hp.nd.imp λJ e=>J om
 .show(0:Int)<=(jN f 0 Ms:Nat);omega
 .show((jN f 0 Ms:Nat):Int)<=32;omega
 .show((jAs f 0 Ms).map toAtm).length<=32;grind
 .obtain⟨Z,C,rfl⟩:=List.mem_map.1 O;refine⟨Xcc (Jmt h Z C),λv i=>?_,Qv _⟩;obtain⟨u,j,rfl⟩:=List.mem_map.1 i;have:=Jdr h Z C u j;show(0:Int)<=u/\(u:Int)<(jN f 0 Ms:Nat);omega
 have G:v<jN f 0 Ms:=by
  have:(v:Int)<(jN f 0 Ms:Nat):=i;omega
 obtain⟨a,O,D⟩:=Qkt h hne G;exact⟨toAtm a,List.mem_map_of_mem O,List.mem_map_of_mem (f:=fun (c:Nat)=>(c:Int)) D⟩
theorem Xxd{w:World}{v:Value}{M:UMem}(h:InV w v (Yk f ds M))(hds:ds.length=f): ∃ ts:List TA,ts.map (·.2)=M.ats.map toAtm/\BldV w v M.N f ds M.perm ts:=by
 obtain⟨_,rfl,O,J,Z,rfl,⟨D,G,rfl,h1,_,C⟩,⟨Q,pc,rfl,h3,_,h4⟩,ts,A,c,u,rfl,o,_,j,i⟩:=h;refine⟨ts,u.symm,D,G,Q,pc,A,c,?_,?_,C,?_,?_,j,o,i⟩;repeat grind [Yk,Qv]
end Go.Proofs.YtbcdghbonlifdaaGreatDoor
namespace Go.Wk
theorem dneb{P:Program}{n d ty:Nat}{al:AL}{w:World}{ops:Array Oper}{Q:Exit->Act->World->Prop}{drest:List (Nat×Oper)}{pos:String}{aft:Array Edge}{tt:TT}[h:Tab P tt]{t t2:TypeId}{k:TK}{x y:Operand}{p q:Bool}(kk:WD P n ops Q drest ((d,.bool (!(p == q)))::al) w)(ht:tk tt t=some k:=by rfl)(hk:k.desc=.bool:=by rfl)(hx:ev al x=some (.bool p):=by rfl)(hy:ev al y=some (.bool q):=by rfl)(hd:Nat.blt d n=true:=by rfl):
  WD P n ops Q ((0,⟨some d,.binOp .neq t x y t2,ty,pos,aft,none⟩)::drest) al w:=dy (λw' _ a i=>Qmw h.ok ht hk i hx hy (some d) w') hd kk
end Go.Wk
namespace Go.Proofs.YtbcdghbonlifdaaGreatDoor
open Go.RowKit Pl Go.Wk _root_.Go.Proofs.Tryz
attribute [local irreducible] WC WL QX WD WDB WP
variable {w:World}
theorem Qss(s:Nat)(h:s<8): Ret prog 134 [.int .u64 (s:Int)] w λu w'=>w'=w/\u=.int .i64 (([0,1,1,2,1,2,2,3].getD s 0:Nat):Int):=by
 obtain rfl|rfl|rfl|rfl|rfl|rfl|rfl|rfl:s=0∨s=1∨s=2∨s=3∨s=4∨s=5∨s=6∨s=7:=om
 all_goals
  refine enE func134 ntmps134 ?_;iterate 6
   refine ρ ?_;refine Uk rfl rfl (by decide) rfl ?_
  refine ρ ?_;refine Jj ⟨rfl,?_⟩;kernel_rfl
theorem Qsr(s:Nat)(h:s<8): Ret prog 94 [.int .u64 (s:Int)] w λu w'=>w'=w/\u=.int .i64 (([0,1,1,2,1,2,2,3].getD s 0:Nat):Int):=by
 refine enE func94 ntmps94 ?_;refine clR (Qss s h) ?_;rintro u w' ⟨rfl,rfl⟩;refine ρ ?_;exact Jj ⟨rfl,rfl⟩
theorem Jff{A B:Option Addr}{c d:Nat}{us vs:List Bool}(hA:RdB w A us)(hB:RdB w B vs)(hm:us.length<=1100000):
  Ret prog 26 [.slice A us.length c,.slice B vs.length d] w λu w'=>u=.bool (decide (us=vs))/\Ext w w':=by
 refine enE func26 ntmps26 ?_;refine ciR (λh=>?_) (λh=>?_)
 .have C:us.length≠vs.length:=by have:=Yn h;omega
  refine ρ ?_;exact Jj ⟨by rw[decide_eq_false λe=>C (by rw[e])],Ext.refl _⟩
 have hl:us.length=vs.length:=by have:=Kh h;omega
 clear h;refine ρ ?_;refine Qm (fun (k:Nat)=>[(0,.slice A us.length c),(1,.slice B vs.length d),(12,.int .i64 (us.length:Int)),(13,.int .i64 (k:Int))])
  (λk w'=>k<=us.length/\Ext w w'/\∀ j,j<k->us.getD j false=vs.getD j false) (λk=>us.length-k) 0 sB
  ⟨Nat.zero_le _,Ext.refl _,λj Z=>absurd Z (Nat.not_lt_zero j)⟩ ?_
 rintro k D ⟨hk,i,Z⟩;refine ciR (λh=>?_) (λh=>?_)
 .have lk:k<us.length:=by have:=oT h;omega
  clear h;refine drR (Go.Wk.sc 9 []) ?_;have o:Ext D D.drew:=(Ext.refl D).drew;have O:RdB D.drew A us:=Rd.ext hA (i.trans o);have J:RdB D.drew B vs:=Rd.ext hB (i.trans o);refine Jd k O lk ?_;refine Jz (RdB.cell O lk) ?_;refine ρd ?_;have G:k<vs.length:=om
  refine dix k J G ?_;refine Jz (RdB.cell J G) ?_;refine ρd ?_;refine dneb ?_;refine ρd ?_;refine ciR (λh=>?_) (λh=>?_)
  .have C:us.getD k false≠vs.getD k false:=λe=>by rw[e]at h;simp at h
   refine ρ ?_;refine Jj ⟨?_,i.trans o⟩;rw[decide_eq_false λe=>C (by rw[e])]
  have he:us.getD k false=vs.getD k false:=by simpa using h
  clear h;refine ρ ?_;refine Qy (k+1) sO ⟨lk,i.trans o,λj a2=>?_⟩ om;grind
 have a1:k=us.length:=by grind
 refine ρ ?_;refine Jj ⟨?_,i⟩;grind [List.ext_getElem,Qc]
open Go.RowKit Pl Go.Wk
def tt4: TT:=(29,{ desc:=.slice 77,esz:=5 })::(23,{ desc:=.slice 42,esz:=5 })::(33,{ desc:=.invalid,size:=5,offs:=[0,1,2,3,4] })::tt
theorem Jsv: TOk Tryz.prog tt4:=⟨⟨kr,kr,kr⟩,⟨kr,kr,kr⟩,⟨_,Tryz.underlying33,kr,kr⟩,Jjb⟩
instance (priority:=5000):Tab Tryz.prog tt4:=⟨Jsv,mixed⟩
theorem Qqg{w:World}{A:Option Addr}{c f s:Nat}{vs:List Nat}(hV:Rd w 1 A vs.length (Ja (nz vs)))(hl:vs.length<=1000)(hb:∀ v∈vs,v<=1000)(hf:f<=1000)(hs:s<=1000):
  Ret Tryz.prog 61 [.slice A vs.length c,.int .i64 (f:Int),.int .i64 (s:Int)] w λu w'=>∃ B,u=.slice B vs.length vs.length/\w'.ownsRow w.heap.size 3 1 u vs.length (Ja (nz (vs.map (ren f s))))/\Ext w w':=by
 refine enE Tryz.func61 Tryz.ntmps61 ?_;refine ρ ?_;refine mkn EI vs.length om (by unfold maxLen;omega) ?_;intro w1 B J D a5;have e0:(madeCells (Value.int .i64 0).cells (vs.length*1)).toList=List.replicate vs.length (.int .i64 0):=by rw[Nat.mul_one];exact Gb _ _
 rw[e0]at D;refine ρ ?_;refine Qj (fun (k:Nat) (_:List Value)=>[(0,.slice A vs.length c),(1,.int .i64 (f:Int)),(2,.int .i64 (s:Int)),(7,.slice B vs.length vs.length),(13,.slice A vs.length c),(14,.int .i64 (vs.length:Int)),(15,.int .i64 (k:Int))])
  (λk C w'=>k<=vs.length/\C.length=vs.length/\(∀ j,j<k->C[j]?=some (.int .i64 ((ren f s (vs.getD j 0):Nat):Int)))/\w'.ownsRow w.heap.size 3 1 (.slice B vs.length vs.length) vs.length C/\Ext w w') (λk _=>vs.length-k) 0 (List.replicate vs.length (.int .i64 0)) sB
  ⟨Nat.zero_le _,by simp,λj Z=>absurd Z (Nat.not_lt_zero j),D,J⟩ ?_
 rintro k C w2 ⟨hk,G,a1,o,i⟩;refine ciR (λh=>?_) (λh=>?_)
 .have lk:k<vs.length:=by have:=oT h;omega
  clear h;have a2:=hb _ (getD_mem' 0 vs lk);refine ixR k (hV.ext i) lk ?_;refine ldR ((hV.ext i).cell (Xo lk)) ?_;refine ρ ?_;refine Zn (fun (z:Nat)=>[(0,.slice A vs.length c),(1,.int .i64 (f:Int)),(2,.int .i64 (s:Int)),(7,.slice B vs.length vs.length),(8,.int .i64 (k:Int)),(9,.int .i64 (z:Int)),(13,.slice A vs.length c),(14,.int .i64 (vs.length:Int)),(15,.int .i64 (k:Int))])
   (λz w'=>w'=w2/\z=ren f s (vs.getD k 0)) ?_ ?_
  .refine ci (λh=>?_) (λh=>?_)
   .have a4:f<=vs.getD k 0:=by have:=oT h;omega
    refine ρ ?_;exact Jf (vs.getD k 0+s) sO ⟨rfl,by rw[ren,if_neg om]⟩
   have O:vs.getD k 0<f:=by have:=oF h;omega
   refine ρ ?_;exact Jf (vs.getD k 0) sB ⟨rfl,by rw[ren,if_pos O]⟩
  rintro z w3 ⟨rfl,rfl⟩;obtain⟨s1,s2,s3,s4,s5⟩:=Vw o (q:=k) om (.int .i64 ((ren f s (vs.getD k 0):Nat):Int));have hv:C[k]?=some (C.getD k (.int .i64 0)):=by grind
  refine ixR k (Rd.own o) lk ?_;refine Xe (s1.trans hv) s2 ?_;refine ρ ?_;refine Jh (k+1) (C.set k (.int .i64 ((ren f s (vs.getD k 0):Nat):Int))) sO ⟨lk,by simp[G],λj Z=>?_,s3,Qt i s5 λg hg=>?_⟩ om;repeat grind [List.getElem?_set_self,List.getElem?_set_ne,Jb]
 have a3:k=vs.length:=by grind
 have e:C=Ja (nz (vs.map (ren f s))):=by
  refine List.ext_getElem? λj=>?_;grind [Nat.lt_or_ge,Ja,nz,List.getD,List.getElem?_eq_none]
 rw[e]at o;refine ρ ?_;exact Jj ⟨B,rfl,o,i⟩
open Go.RowKit Pl Go.Wk
variable {mc n:Nat}
theorem Qxt: ∀ s,s<8->((([0,1,1,2,1,2,2,3].getD s 0:Nat):Int).tmod 2 == 1)=Jvf s:=by decide
theorem Jcg{c:Nat->Nat}{B:Nat}(h:∀ i,c i<=B): ∀ n,sgP c n+sgM c n<=n*B
 | 0=>by simp[sgP,sgM]
 | n+1=>by
  have ih:=Jcg h n;have:=h (n+1);rw[sgP,sgM,Nat.succ_mul];split<;>omega
theorem Jkf(h:n<4294967296): (Jq n).length<=1000:=by
 rcases Nat.eq_zero_or_pos n with rfl|h0
 .rw[limbs_0];exact Nat.zero_le _
 repeat grind [Qzx,Nat.le_of_ble_eq_true]
theorem Jgz{w:World}{fid:FuncId}{cap:List Value}{MA:Option Addr}{xc:Nat->List Value}{c:Nat->Nat}{S:Nat->Prop}{I:Nat->World->Prop}(hx5:∀ i,i<n->∃ A B C D E a b c' d e a' b' c2 d' e',xc i=[.slice A a a',.slice B b b',.slice C c' c2,.slice D d d',.slice E e e'])(hn:n<=7)(hS:∀ k,S k->k<w.heap.size)(hR:Off S w λW=>Rd W 5 MA n (Ql n xc))(hcb:∀ i,c i<=1000000)(hI0:I 0 w)(hIx:∀ i W W',I i W->Ext W W'->I i W')(hc:∀ i,i<n->∀ W,GrN S w W->I i W->Ret Tryz.prog fid (.agg (xc i).toArray::cap) W λu W'=>NatX S W' u (c (i+1))/\GrN S W W'/\I (i+1) W'):
  Ret Tryz.prog 55 [.func (.func fid) #[] cap.toArray,.slice MA n mc] w λu w'=>NatV w' u (sgP c n-sgM c n)/\Fresh w u/\GrN S w w'/\I n w':=by
 have a2:∀ i,i<n->(xc i).length=5:=λi hi=>by obtain⟨A,B,C,D,E,a,b,c',d,e,a',b',c2,d',e',h⟩:=hx5 i hi;rw[h];rfl
 refine enE Tryz.func55 Tryz.ntmps55 ?_;refine ρ ?_;refine Zj (fun (i:Nat) (p m:Value)=>[(0,.func (.func fid) #[] cap.toArray),(5,p),(6,m),(11,.slice MA n mc),(12,.int .i64 (n:Int)),(13,.int .i64 (i:Int))])
  (λi p m w'=>i<=n/\GrN S w w'/\NatX S w' p (sgP c i)/\NatX S w' m (sgM c i)/\I i w') (λi _ _=>n-i) 0 (.slice none 0 0) (.slice none 0 0) sB
  ⟨Nat.zero_le _,GrN.refl _ _,NatX.nil w,NatX.nil w,hI0⟩ ?_
 rintro i p m w1 ⟨hi,a1,hp,hm,hI⟩;refine ciR (λh=>?_) (λh=>?_)
 .have li:i<n:=by have:=oT h;omega
  clear h;have a9:=hR w1 a1;obtain⟨A,B,C,D,E,a,b,c',d,e,a',b',c2,d',e',a6⟩:=hx5 i li;have ab:=Jcg hcb i;have a7:i*1000000<=7000000:=om
  refine Qn 5 i a9 li ?_;refine Jl (cs:=[.slice A a a',.slice B b b',.slice C c' c2,.slice D d d',.slice E e e']) (λj u hu=>?_) ?_
  .rw[<-a6]at hu;have hj:j<5:=by
    rcases Nat.lt_or_ge j 5 with h'|h'
    .exact h'
    rw[List.getElem?_eq_none (by rw[a2 i li];omega)]at hu;cases hu
   rw[Xk];exact Rd.cell a9 (by rw[Yv a2 li hj];exact hu)
  refine Jw Iu ?_;intro w2 bb O ah aj;refine Qf (cs':=[.slice A a a',.slice B b b',.slice C c' c2,.slice D d d',.slice E e e']) aj ?_ Jlr;intro w3 a3 Z aa;have o:Ext w1 w3:=aa w1 O ah;have a4:i+1<8:=om
  refine ρ ?_;refine Go.Wk.kv 20 (show Value.int .u64 (IntKind.u64.wrap ((i:Int)+1))=.int .u64 ((i+1:Nat):Int) by rw[Gk om];congr 1) ?_;refine cl (Qsr (i+1) a4) ?_;rintro u w4 ⟨ew,rfl⟩;obtain rfl:=ew.symm;refine ρ ?_;refine wrem rfl rfl (by decide) rfl ?_;refine ρ ?_;have Z:GrN S w w3:=a1.trans (GrN.ext o);have ai:=hIx i _ _ hI o;have J:=hc i li w3 Z ai;rw[a6]at J;have a8:∀ {W:World},GrN S w W->∀ k,S k->k<W.heap.size:=λhg k hk=>nM (hS k hk) hg.size;have am:=hcb (i+1);refine ci (λh=>?_) (λh=>?_)
  .have ho:Jvf (i+1)=true:=(Qxt (i+1) a4).symm.trans h;refine Jo a3 ?_;refine ρ ?_;refine clv J ?_;rintro u w4 ⟨hu,G,a5⟩;have ac:=(hp.ext o).gr G;refine clR (Kl ac.1 hu.1 (Jkf om) (Jkf om)) ?_;rintro v w5 ⟨hv,hf,hx5⟩;refine ρ ?_;refine Xx (i+1) v m sO ⟨li,(Z.trans G).trans (GrN.ext hx5),?_,?_,hIx _ _ _ a5 hx5⟩ om
   .rw[sgP,if_pos ho];exact hf.x hv (a8 (Z.trans G))
   rw[sgM,if_pos ho];exact((hm.ext o).gr G).ext hx5
  have ho:Jvf (i+1)=false:=(Qxt (i+1) a4).symm.trans h;refine Jo a3 ?_;refine ρ ?_;refine clv J ?_;rintro u w4 ⟨hu,G,a5⟩;have ae:=(hm.ext o).gr G;refine clR (Kl ae.1 hu.1 (Jkf om) (Jkf om)) ?_;rintro v w5 ⟨hv,hf,hx5⟩;refine ρ ?_;refine Xx (i+1) p v sO ⟨li,(Z.trans G).trans (GrN.ext hx5),?_,?_,hIx _ _ _ a5 hx5⟩ om
  .rw[sgP,ho];exact((hp.ext o).gr G).ext hx5
  rw[sgM,ho];exact hf.x hv (a8 (Z.trans G))
 have af:i=n:=by have:=oF h;omega
 subst af;have ab:=Jcg hcb i;have a7:i*1000000<=7000000:=om
 refine clR (Qzc hp.1 hm.1 (Jkf om)) ?_;rintro u w2 ⟨⟨v,rfl,hv,hf⟩,O⟩;have ag:Fresh w v:=λad n c e=>nL a1.size (hf ad n c e);refine ciR (λh=>?_) (λh=>?_)
 .have ak:sgP c i<sgM c i:=by
   rcases Nat.lt_or_ge (sgP c i) (sgM c i) with h1|h1
   .exact h1
   rw[if_neg om]at h;exact absurd h (by decide)
  refine ρ ?_;refine Jj ⟨?_,?_,a1.trans (GrN.ext O),hIx _ _ _ hI O⟩;rotate_left
  .intro ad n c e;cases e
  rw[show sgP c i-sgM c i=0 by omega];exact NatV.nil _
 refine ρ ?_;exact Jj ⟨hv,ag,a1.trans (GrN.ext O),hIx _ _ _ hI O⟩
open Go.RowKit Pl Go.Wk _root_.Go.Proofs.Tryz
variable {cs:List Value}{b b3 b6 f n qc t:Nat}{QA:Option Addr}{q:Row}{c u v x:Value}{w:World}
theorem Xvk(hc:∀ x,c≠.int .u32 x)(hb:Blk w b t [c]){ad:Addr}(he:ad.block=b)(hu:w.cell? ad=some u): ∀ x,u≠.int .u32 x:=by
 intro x e;subst e;obtain⟨j,off,i⟩:=ad;simp only at he;subst he;unfold Blk at hb;simp[World.cell?,hb]at hu;grind
theorem NatV.off(h:NatV w v n)(hc:∀ x,c≠.int .u32 x)(hb:Blk w b t [c]): NatX (λk=>k=b) w v n:=⟨h,λh0 G m k e C=>by
 obtain⟨A,D,i,_,_,j⟩:=h;rw[e]at i;injection i with e3 e4 e5
 subst e3;have hp:=limbs_pos' h0;have o:=j.cell (k:=0) (u:=.int .u32 ((Jq n).getD 0 0).toNat) (by grind [Jq,Nc]);grind [Xvk,adr,Uh]⟩
theorem Xbk{ds:List Bool}{kf:Nat->Nat}{pf:Nat->Int}{BB:Nat->List BkT}{tot:Nat}{L:List Row}(h:IxA w x f ds kf pf BB tot L)(hB3:Blk w b3 46 [.slice QA q.length qc])(hB6:Blk w b6 3 [.int .i64 (t:Int)])(hne:b3≠b6)(hq:RdR w QA q)(hqc:q.length<=qc)(hqf:q.length<=f)(ht:t+Qb f (λv=>hmB (BB v))<=1000000000):
  Ret prog 162 [x,.pointer (some ⟨b3,0,none⟩),.pointer (some ⟨b6,0,none⟩)] w λu w'=>NatX (λk=>k=b6) w' u (Qh ds L q)/\GrN (λk=>k=b6) w w'/\∃ st:Nat,st<=Qb f (λv=>hmB (BB v))/\Blk w' b6 3 [.int .i64 ((t+st:Nat):Int)]:=by
 obtain⟨B0,tb⟩:=h.tb;have ix:=h.ix;obtain⟨DA,dc,BA,cb,KA,ck,a6,cp,tv,a4,a3,rfl,_⟩:=id ix.ex;refine enE func162 ntmps162 ?_;refine bxR ?_;intro w1 b o hb a2;refine Jo a2 ?_;refine ldR ((hB3.ext o).at (i:=0) rfl) ?_;refine clR (Qns (tb.ext o) (h.ext o) (Rd.ext hq o) hqc) ?_;rintro u w2 ⟨D,_,O⟩;obtain⟨lv,hv,st,rfl,Z,_,J⟩:=O hqf;have C:=(hB6.ext o).ext D;refine ldR (C.at (i:=0) rfl) ?_;refine ρ ?_;refine Vh C ?_ rfl;intro w3 G a1 a5;refine ρ ?_;have hg:GrN (λk=>k=b6) w2 w3:=GrN.by a1 λj hj=>by injection hj with hj;exact hj.symm
 refine Jj ⟨(Z.off (λx e=>by cases e) C).gr hg,(GrN.ext (o.trans D)).trans hg,st,J,?_⟩;rw[show((t+st:Nat):Int)=(t:Int)+(st:Int) by omega];exact G
structure UD where
 k: Nat
 f:Nat
 ds:List Bool
 M:Nat->List Row
 U:List Row
 xc:Nat->List Value
 kf:Nat->Nat->Nat
 pf:Nat->Nat->Int
 BB:Nat->Nat->List BkT
 tot:Nat->Nat
 Hm:Nat
protected def UD.n (D:UD):Nat:=2^D.k-1
structure UnV(w:World)(D:UD)(cs:List Value): Prop where
 ex:∃ DA dc MA mc SA sl sc,cs=[.int .i64 (D.k:Int),.int .i64 (D.f:Int),.slice DA D.f dc,.slice MA D.n mc,.slice SA sl sc]/\D.f<=dc/\D.ds.length=D.f/\RdB w DA D.ds/\Rd w 5 MA D.n (Ql D.n D.xc)/\NatV w (.slice SA sl sc) D.U.length
 ix:∀ i,i<D.n->IxA w (.agg (D.xc i).toArray) D.f D.ds (D.kf i) (D.pf i) (D.BB i) (D.tot i) (D.M (i+1))
 up:UnP D.k D.f D.ds D.M D.U
 hm:∀ i,i<D.n->Qb D.f (λv=>hmB (D.BB i v))<=D.Hm
 hl:D.Hm<=10000000
 ml:∀ s,(D.M s).length<=5000
theorem UnV.ext{w w':World}{D:UD}{cs:List Value}(h:UnV w D cs)(hx:Ext w w'): UnV w' D cs:=by
 obtain⟨DA,dc,MA,o,SA,j,sc,Z,O,J,G,C,u⟩:=h.ex;exact⟨⟨DA,dc,MA,o,SA,j,sc,Z,O,J,Rd.ext G hx,C.ext hx,u.ext hx⟩,λi hi=>(h.ix i hi).ext hx,h.up,h.hm,h.hl,h.ml⟩
theorem UnV.n7{D:UD}(h:UnV w D cs): D.n<=7:=by
 have i:=h.up.k3;have:2^D.k<=2^3:=Nat.pow_le_pow_right om i;unfold UD.n;omega
theorem UnV.x5{D:UD}(h:UnV w D cs): ∀ i,i<D.n->∃ A B C D' E a b c' d e a' b' c2 d' e',D.xc i=[.slice A a a',.slice B b b',.slice C c' c2,.slice D' d d',.slice E e e']:=λi hi=>by
 obtain⟨DA,Z,BA,cb,KA,ck,G,cp,J,u,o,e,_,_,_,_,_,_,j,_⟩:=(h.ix i hi).ix.ex;obtain⟨TA,O,rfl,_⟩:=j;grind
theorem Jrh: Qu prog 3=some (.int .i64 0):=kr
theorem Qhm{D:UD}(hV:UnV w D cs)(hq:RdR w QA q)(hqc:q.length<=qc)(hqf:q.length<=D.f):
  Ret prog 132 [.agg cs.toArray,.slice QA q.length qc] w λu w'=>∃(nv:Value) (st:Nat),u=.tuple #[nv,.int .i64 (st:Int)]/\NatV w' nv (Qh D.ds D.U q)/\st<=D.n*D.Hm/\Ext w w':=by
 have n7:=hV.n7;obtain⟨DA,dc,MA,mc,SA,sl,sc,rfl,h2,h3,h4,h5,h6⟩:=id hV.ex;refine enE func132 ntmps132 ?_;refine bxR ?_;intro w1 b2 a1 an ae;refine bxR ?_;intro w2 b3 J am a5;refine Jw Jrh ?_;intro w3 b6 a7 ab ac;refine ρ ?_;refine Vh ac ?_ rfl;intro w4 C aj a6;refine ρ ?_;have j:Ext w2 w4:=a6 w2 a7 ab;have o:=(a1.trans J).trans j;have l6:=C.lt;have l3:=a5.lt;have ah:=a1.size;have ag:=J.size;have af:=j.size;refine ld (((ae.ext J).ext j).at (i:=3) rfl) ?_;refine ρ ?_;have a4:=a5.ext j;have O:b3≠b6:=om
 have ao:D.n*D.Hm<=7*10000000:=Nat.mul_le_mul n7 hV.hl;refine cl (Jgz (S:=λk=>k=b6) (I:=λi W=>∃ t:Nat,t<=i*D.Hm/\Blk W b6 3 [.int .i64 (t:Int)]) (c:=λs=>Qh D.ds (D.M s) q) (cap:=[.pointer (some ⟨b3,0,none⟩),.pointer (some ⟨b6,0,none⟩)]) hV.x5 n7 (λk hk=>by rw[hk];exact l6)
  (Kf (h5.ext o) λh0 ad e he=>?_) (λi=>?_) ⟨0,Nat.zero_le _,C⟩ (λi W W' ⟨t,h1,h2⟩ hx=>⟨t,h1,h2.ext hx⟩) (λi hi W hg ⟨t,h1,h2⟩=>?_)) ?_
 .obtain⟨ap,e',ai⟩:=h5.2 h0;grind
 .have:=Jyr D.ds (D.M i) q;have:=hV.ml i;omega
 .have Z:Ext w W:=hg.old o λk hk=>by omega
  have hh:=hV.hm i hi;have a8:(i+1)*D.Hm<=D.n*D.Hm:=nO _ om;rw[Nat.succ_mul]at a8;refine(Xbk ((hV.ix i hi).ext Z) (Jv a4 hg O) h2 O (Rd.ext hq Z) hqc hqf om).mono ?_;rintro u W' ⟨g1,g2,st,g3,g4⟩;exact⟨g1,g2,t+st,by rw[Nat.succ_mul];omega,g4⟩
 rintro u w5 ⟨hu,ak,a9,t,ht,a3⟩;have a2:Ext w w5:=a9.old o λk hk=>by omega
 have G:Ext w5 w5.drew:=(Ext.refl w5).drew;refine drR (Go.Wk.sc 4 []) ?_;refine Jz ((a3.ext G).at (i:=0) rfl) ?_;refine ρd ?_;refine ρ ?_;refine Yo ⟨u,t,rfl,?_,ht,a2.trans G⟩;have aa:=hV.up.before q;have:sgP (λs=>Qh D.ds (D.M s) q) D.n-sgM (λs=>Qh D.ds (D.M s) q) D.n=Qh D.ds D.U q:=by
  rw[show D.n=2^D.k-1 from rfl,aa];omega
 rw[this]at hu;exact hu.ext G
open Go.RowKit Pl Go.Wk _root_.Go.Proofs.Tryz
attribute [local irreducible] WN WG
variable {d:Bool}{N:Nat->Prop}{t:Tr}{p:Value}{w:World}
structure AtB(w:World)(bS bK bV bR:Nat)(sv kc:Value)(v:V): Prop where
 sb:Blk w bS 31 [sv]
 kb:Blk w bK 3 [kc]
 vb:Blk w bV 118 v.cells
 rb:Blk w bR 118 V0.cells
theorem AtB.ext{w w':World}{bS bK bV bR:Nat}{sv kc:Value}{v:V}(h:AtB w bS bK bV bR sv kc v)(hx:Ext w w'): AtB w' bS bK bV bR sv kc v:=⟨h.sb.ext hx,h.kb.ext hx,h.vb.ext hx,h.rb.ext hx⟩
def eAt(t:Tr)(k:Nat): V:=(t.toL.getD k (V0,0)).1
def AtJ(bS bK bV bR k:Nat)(t s:Tr)(w:World): Prop:=∃(sv:Value) (j:Nat) (v:V),AtB w bS bK bV bR sv (.int .i64 (j:Int)) v/\(∃ A n c,sv=.slice A n c)/\j<s.sz/\s.sz<=1000000/\eAt s j=eAt t k/\Nb s.sum
def AtD(bS bK bV bR k:Nat)(t:Tr)(w:World): Prop:=∃(sv kc:Value),AtB w bS bK bV bR sv kc (eAt t k)/\∃ A n c,sv=.slice A n c
theorem Jtc(h:TrV N w t p): Ret prog 36 [.agg #[.bool d,p]] w λu w'=>u=.int .i64 (t.sz:Int)/\Ext w w':=by
 obtain⟨q,rfl⟩:=h.ptr;refine enE func36 ntmps36 ?_;refine bxR ?_;intro G J j o C;refine ldR (C.at (i:=1) rfl) ?_;refine clR (Jcc (h.ext j)) ?_;rintro u D ⟨rfl,rfl⟩;refine ρ ?_;exact Jj ⟨rfl,j⟩
theorem Xbx{bS bK bV bR k:Nat}(hne:bS≠bK/\bS≠bV/\bK≠bV/\bS≠bR/\bV≠bR/\bK≠bR):
  ∀ l a x r u w,TrV (λj=>j=bS∨j=bV∨j=bK) w (.node l a x r) u->AtJ bS bK bV bR k t (.node l a x r) w ->
  Ret prog 161 ((#[]:Array Value).toList++[u]++(#[.pointer (some ⟨bK,0,none⟩),.pointer (some ⟨bV,0,none⟩),.pointer (some ⟨bS,0,none⟩)]:Array Value).toList) w λz w'=>∃ c,z=.int .i64 c/\GrN (λj=>j=bS∨j=bV∨j=bK) w w'/\(c<0->AtJ bS bK bV bR k t l w')/\(0<c->AtJ bS bK bV bR k t r w')/\(c=0->AtD bS bK bV bR k t w'):=by
 obtain⟨n1,n2,n3,n4,n5,n6⟩:=hne;rintro l a x r u w hs ⟨sv,j,v,hB,⟨SA,ag,sc,rfl⟩,e1,e2,e3,C⟩;obtain⟨bn,wn,pl,pr,sn,rfl,⟨a9,a4⟩,aa,ak,hl,hr⟩:=id hs;obtain⟨ql,rfl⟩:=hl.ptr;obtain⟨qr,rfl⟩:=hr.ptr;simp only[Tr.sz]at e1 e2;simp only[Tr.sum]at C;refine enE func161 ntmps161 ?_;refine ldR (a9.at (i:=4) rfl) ?_;refine clR (Jcc hl) ?_;rintro u w' ⟨rfl,rfl⟩;refine ldR (hB.kb.at (i:=0) rfl) ?_;refine ciR (λhc=>?_) (λhc=>?_)
 .have hc:j<l.sz:=by have:=oT hc;omega
  refine ρ ?_;refine Jj ⟨-1,rfl,GrN.refl _ _,λ_=>⟨_,j,v,hB,⟨_,_,_,rfl⟩,hc,om,?_,C.le om⟩,λh=>om,λh=>om⟩;rw[<-e3];unfold eAt;rw[Tr.toL];rw[Tr.sz_eq]at hc;simp[List.getD,List.getElem?_append_left hc]
 have hc:¬ j<l.sz:=λh=>oF hc om;refine ldR (hB.kb.at (i:=0) rfl) ?_;refine ciR (λa1=>?_) (λa1=>?_)
 .have a1:l.sz<j:=by have:=oT a1;omega
  refine ldR (hB.kb.at (i:=0) rfl) ?_;refine ρ ?_;refine Vh hB.kb ?_ rfl;intro w6 af Z ah;refine ρ ?_;have a6:GrN (λj=>j=bS∨j=bV∨j=bK) w' w6:=GrN.by Z λj o=>.inr (.inr (by injection o with o;exact o.symm))
  refine Jj ⟨1,rfl,a6,λh=>om,λ_=>⟨_,j-(l.sz+1),v,⟨hB.sb.grown Z (by simpa using n1),?_,hB.vb.grown Z (by simpa using n3.symm),hB.rb.grown Z (by simpa using n6.symm)⟩,⟨_,_,_,rfl⟩,om,om,?_,C.le om⟩,λh=>om⟩
  .rw[show((j-(l.sz+1):Nat):Int)=(j:Int)-((l.sz:Int)+1) by omega];exact af
  rw[<-e3];unfold eAt;rw[Tr.toL];have ac:=Tr.sz_eq l;rw[List.getD,List.getD,List.getElem?_append_right om,show j-l.toL.length=(j-(l.sz+1))+1 by omega,List.getElem?_cons_succ]
 have o:j=l.sz:=by have:=oF a1;omega
 have e5:eAt t k=a:=by
  rw[<-e3];unfold eAt;rw[Tr.toL];have ac:=Tr.sz_eq l;rw[List.getD,List.getElem?_append_right om,show j-l.toL.length=0 by omega];rfl
 refine ρ ?_;refine drN (λj=>j=bS∨j=bV) 13 (Go.Wk.sc 13 [10,11,12]) kr ?_;have O:Ext w' w'.drew:=(Ext.refl w').drew;have a2:=hB.ext O;have a3:=a9.ext O;have a5:¬ (bn=bS∨bn=bV):=λh=>a4 (h.elim .inl λh=>.inr (.inl h));refine ρn ?_;refine Xr (cs:=a.cells) (λW hg=>Blk.pre (cs:=a.cells) (Jv a3 hg a5)) ?_;refine ρn ?_;refine nld (λW hg=>(Jv a3 hg a5).at (i:=3) rfl) ?_;refine ρn ?_;refine nop ?_;refine cl (Jvk ((aa.ext O).1) (C.le om).len) ?_;rintro us w2 ⟨ab,am,D⟩;obtain⟨UA,uc,rfl,_⟩:=id ab;refine ρ ?_;refine Jr (GrN.ext D) ?_;refine ρn ?_;refine nop ?_;refine stb (cs':=a.cells) ((a2.vb).ext D) ?_ (V.one a);intro w3 ad J aj;refine ρ ?_;refine Jr (GrN.by J λj o=>.inr (by injection o with o;exact o.symm)) ?_;refine ρn ?_;refine nop ?_;refine Vh ((a2.sb.ext D).grown J (by simpa using n2)) ?_ rfl;intro w4 ae G ai;refine ρ ?_;refine Jr (GrN.by G λj o=>.inl (by injection o with o;exact o.symm)) ?_
 refine ρn ?_;refine ρ ?_;have a8:GrN (λj=>j=bS∨j=bV∨j=bK) w2 w3:=GrN.by J λj o=>.inr (.inl (by injection o with o;exact o.symm))
 have a7:GrN (λj=>j=bS∨j=bV∨j=bK) w3 w4:=GrN.by G λj o=>.inl (by injection o with o;exact o.symm)
 refine Jj ⟨0,rfl,(GrN.ext (O.trans D)).trans (a8.trans a7),λh=>om,λh=>om,λ_=>⟨_,_,⟨ae,((a2.kb.ext D).grown J (by simpa using n3)).grown G (by simpa using n1.symm),?_,((a2.rb.ext D).grown J (by simpa using n5.symm)).grown G (by simpa using n4.symm)⟩,_,_,_,rfl⟩⟩;rw[e5];exact ad.grown G (by simpa using n2.symm)
theorem Qlc{k:Nat}(h:TrV N w t p)(hk:k<t.sz)(hb:Nb t.sum)(hs:t.sz<=1000000):
  Ret prog 131 [.agg #[.bool d,p],.int .i64 (k:Int)] w λu w'=>∃ A n c,u=.tuple #[(eAt t k).val,.slice A n c,.bool true]/\Ext w w':=by
 obtain⟨q,rfl⟩:=h.ptr;refine enE func131 ntmps131 ?_;refine bxR ?_;intro w1 bT aa ay hT;refine bxR ?_;intro w2 bK a7 b2 hK;refine Jw (cs:=V0.cells) Vf ?_;intro w3 bR O b1 hR;refine drR (Go.Wk.sc 8 [5]) ?_;have G:Ext w3 w3.drew:=(Ext.refl w3).drew;have ad:=((hT.ext a7).ext O).ext G;have a8:=(hK.ext O).ext G;have Z:=((aa.trans a7).trans O).trans G;refine Jz (a8.at (i:=0) rfl) ?_;refine ρd ?_;refine dkf 11 ?_ ?_
 .exact dF om
 refine Jz (a8.at (i:=0) rfl) ?_;refine Qq (cs:=[.bool d,.pointer q]) (λj u hu=>ad.at hu) ?_;refine Jm (Jtc (h.ext Z)) ?_;rintro u w4 ⟨rfl,C⟩;refine⟨C,?_⟩;refine ρd ?_;refine cfR ?_ ?_
 .exact dF om
 have ac:=Z.trans C;have am:=(hR.ext G).ext C;have aj:=ad.ext C;have an:=a8.ext C;refine Jw (cs:=V0.cells) Vf ?_;intro w5 bV a9 ax hV;refine Jw Jwg ?_;intro w6 bS a6 az hS;have lK:=hK.lt;have lR:=hR.lt;have lV:=hV.lt;have av:=aa.size;have au:=a7.size;have ar:=O.size;have aq:=(G.trans C).size;have ap:=a9.size;have ao:=a6.size;have n1:bS≠bK:=om
 have n2:bS≠bV:=om
 have n3:bK≠bV:=om
 have n4:bS≠bR:=om
 have n5:bV≠bR:=om
 have n6:bK≠bR:=om
 have o:Ext w4 w6:=a9.trans a6;have a4:Ext w w6:=ac.trans o;have hN:TrV (λk=>k=bS∨k=bV∨k=bK) w6 t (.pointer q):=(h.old (N':=λk=>k=bS∨k=bV∨k=bK) λk hk=>.inr (by rcases hk with rfl|rfl|rfl<;>omega)).ext a4;have aw:=Tr.ht_le t;refine Jo (aj.ext o) ?_;refine clR (Jgm (N:=λk=>k=bS∨k=bV∨k=bK) (J:=AtJ bS bK bV bR k t) (D:=AtD bS bK bV bR k t) hN ⟨_,k,V0,⟨hS,an.ext o,hV.ext a6,am.ext o⟩,⟨_,_,_,rfl⟩,hk,hs,rfl,hb⟩ om ?_ ?_ (Xbx ⟨n1,n2,n3,n4,n5,n6⟩)) ?_
 .rintro s w w' ⟨sv,m,v,a1,a2⟩ hx;exact⟨sv,m,v,a1.ext hx,a2⟩
 .rintro w ⟨sv,m,v,a1,a2,a3,_⟩;simp only[Tr.sz]at a3;omega
 rintro z w7 ⟨⟨n,rfl,hn⟩,⟨sv,kc,af,A,m,c,rfl⟩,ai⟩;have ab:Ext w w7:=ai.old a4 λk hk=>by rcases hk with rfl|rfl|rfl<;>omega
 refine ρ ?_;refine drN (λk=>k=bR) 10 (Go.Wk.sc 5 [2]) kr ?_;have a5:Ext w7 w7.drew:=(Ext.refl w7).drew;have ae:=af.ext a5;refine ρn ?_;refine Xr (cs:=(eAt t k).cells) (λw' hg j u hu=>(Jv ae.vb hg n5).at hu) ?_;refine ρn ?_;refine nld (Jt (ae.sb.at (i:=0) rfl) n4) ?_;refine ρn ?_;refine nop ?_;refine stb (cs':=(eAt t k).cells) (af.rb.ext a5) ?_ (V.one _);intro w8 ak ah ag;refine ρ ?_;refine Jr (GrN.by ah λj hj=>by injection hj with hj;exact hj.symm) ?_;refine ρn ?_;refine ρ ?_;refine Jkm ak ⟨A,m,c,rfl,ag w (ab.trans a5) om⟩
end Go.Proofs.YtbcdghbonlifdaaGreatDoor
namespace Go.Proofs.YtbcdghbonlifdaaGreatDoor
open Go.RowKit Pl Go.Wk _root_.Go.Proofs.Tryz
attribute [local irreducible] WC WL QX WD WDB WP
variable {b3 bp bs f n qc t:Nat}{QA:Option Addr}{q:Row}{v x:Value}{w:World}
theorem NatX.or{N N':Nat->Prop}(h:NatX N w v n)(h':NatX N' w v n): NatX (λk=>N k∨N' k) w v n:=⟨h.1,λh0 i m c e j=>j.elim (h.2 h0 i m c e) (h'.2 h0 i m c e)⟩
theorem Qfn: Qu prog 4=some (.bool false):=kr
theorem Qpk{ds:List Bool}{kf:Nat->Nat}{pf:Nat->Int}{BB:Nat->List BkT}{tot:Nat}{L:List Row}{pb:Bool}(h:IxA w x f ds kf pf BB tot L)(hB3:Blk w b3 46 [.slice QA q.length qc])(hBp:Blk w bp 4 [.bool pb])(hBs:Blk w bs 3 [.int .i64 (t:Int)])(hne:bp≠bs)(hq:RdR w QA q)(hqc:q.length<=qc)(hqf:q.length=f)(ht:t+Qb f (λv=>hmB (BB v))<=1000000000):
  Ret prog 56 [x,.pointer (some ⟨b3,0,none⟩),.pointer (some ⟨bp,0,none⟩),.pointer (some ⟨bs,0,none⟩)] w λu w'=>NatX (λk=>k=bp∨k=bs) w' u (Qh ds L q)/\GrN (λk=>k=bp∨k=bs) w w'/\Blk w' bp 4 [.bool (pb || decide (0<(wiL L q).length))]/\∃ st:Nat,st<=Qb f (λv=>hmB (BB v))/\Blk w' bs 3 [.int .i64 ((t+st:Nat):Int)]:=by
 obtain⟨B0,tb⟩:=h.tb;have ix:=h.ix;obtain⟨DA,dc,BA,cb,KA,ck,ad,cp,tv,ac,ab,rfl,_⟩:=id ix.ex;refine enE func56 ntmps56 ?_;refine bxR ?_;intro w1 b o hb aa;refine Jo aa ?_;refine ldR ((hB3.ext o).at (i:=0) rfl) ?_;refine clR (Qqd (tb.ext o) (h.ext o) (Rd.ext hq o) hqc) ?_;rintro u w2 ⟨a4,_,a9⟩;obtain⟨kv,st,rfl,a5,a6⟩:=a9 hqf;have D:=(hBp.ext o).ext a4;have J:=(hBs.ext o).ext a4;refine ldR (D.at (i:=0) rfl) ?_;cases pb with
 | false=>
  refine ρ ?_;refine Vh D ?_ rfl;intro w3 a3 Z a8;have C:=J.grown Z (by simpa using hne.symm);refine ldR (C.at (i:=0) rfl) ?_;refine ρ ?_;refine Vh C ?_ rfl;intro w4 a1 O a7;have a2:=a3.grown O (by simpa using hne);refine ρ ?_;have hg:GrN (λk=>k=bp∨k=bs) w2 w4:=(GrN.by Z λj G=>.inl (by injection G with G;exact G.symm)).trans (GrN.by O λj G=>.inr (by injection G with G;exact G.symm));refine Jj ⟨((a5.off (λx e=>by cases e) D).or (a5.off (λx e=>by cases e) J)).gr hg,(GrN.ext (o.trans a4)).trans hg,a2,st,a6,?_⟩;rw[show((t+st:Nat):Int)=(t:Int)+(st:Int) by omega];exact a1
 | true=>
  refine ρ ?_;refine Vh D ?_ rfl;intro w3 a3 Z a8;have C:=J.grown Z (by simpa using hne.symm);refine ldR (C.at (i:=0) rfl) ?_;refine ρ ?_;refine Vh C ?_ rfl;intro w4 a1 O a7;have a2:=a3.grown O (by simpa using hne);refine ρ ?_;have hg:GrN (λk=>k=bp∨k=bs) w2 w4:=(GrN.by Z λj G=>.inl (by injection G with G;exact G.symm)).trans (GrN.by O λj G=>.inr (by injection G with G;exact G.symm));refine Jj ⟨((a5.off (λx e=>by cases e) D).or (a5.off (λx e=>by cases e) J)).gr hg,(GrN.ext (o.trans a4)).trans hg,a2,st,a6,?_⟩;rw[show((t+st:Nat):Int)=(t:Int)+(st:Int) by omega];exact a1
theorem Qhc{D:UD}{cs:List Value}(hV:UnV w D cs)(hq:RdR w QA q)(hqc:q.length<=qc):
  Ret prog 18 [.agg cs.toArray,.slice QA q.length qc] w λu w'=>Ext w w'/\(q.length≠D.f->u=.tuple #[.slice none 0 0,.bool false,.int .i64 0,.int .i64 6]) /\
   (q.length=D.f->∃(nv:Value) (st:Nat),u=.tuple #[nv,.bool (decide (q∈D.U)),.int .i64 (st:Int),.int .i64 0]/\NatV w' nv (Qh D.ds D.U q)/\st<=D.n*D.Hm):=by
 have n7:=hV.n7;obtain⟨DA,dc,MA,mc,SA,sl,sc,rfl,h2,h3,h4,h5,h6⟩:=id hV.ex;refine enE func18 ntmps18 ?_;refine bxR ?_;intro w1 b2 a1 b4 aa;refine bxR ?_;intro w2 b3 C b1 a3;refine ldR (a3.at (i:=0) rfl) ?_;refine ldR ((aa.ext C).at (i:=1) rfl) ?_;refine ciR (λh=>?_) (λh=>?_)
 .have ah:q.length≠D.f:=by have:=Yn h;omega
  refine ρ ?_;exact Jjv ⟨a1.trans C,λ_=>rfl,λe=>absurd e ah⟩
 have a2:q.length=D.f:=by have:=Kh h;omega
 clear h;refine Jw Qfn ?_;intro w3 bp af am ap;refine ρ ?_;refine Vh ap ?_ rfl;intro w4 Z ay ae;refine Jw Jrh ?_;intro w5 bs ac ak ao;refine ρ ?_;refine Vh ao ?_ rfl;intro w6 O ax ab;have o:Ext w2 w4:=ae w2 af am;have j:Ext w4 w6:=ab w4 ac ak;have G:=(a1.trans C).trans (o.trans j);have a8:=Z.ext j;have lp:=Z.lt;have ls:=O.lt;have l3:=a3.lt;have av:=a1.size;have au:=C.size;have ar:=o.size;have aq:=j.size;refine ldR ((aa.ext (C.trans (o.trans j))).at (i:=3) rfl) ?_;refine ρ ?_;have a9:=a3.ext (o.trans j);have b5:D.n*D.Hm<=7*10000000:=Nat.mul_le_mul n7 hV.hl;refine cl (Jgz (S:=λk=>k=bp∨k=bs) (I:=λi W=>∃(t:Nat) (pb:Bool),t<=i*D.Hm/\(pb=true↔∃ s,1<=s/\s<=i/\0<(wiL (D.M s) q).length)/\Blk W bp 4 [.bool pb]/\Blk W bs 3 [.int .i64 (t:Int)]) (c:=λs=>Qh D.ds (D.M s) q)
  (cap:=[.pointer (some ⟨b3,0,none⟩),.pointer (some ⟨bp,0,none⟩),.pointer (some ⟨bs,0,none⟩)]) hV.x5 n7 (λk hk=>om)
  (Kf (h5.ext G) λh0 ad e he=>?_) (λi=>?_) ⟨0,false,Nat.zero_le _,⟨λh=>(by cases h),λ⟨s,h1,h2,_⟩=>(by omega)⟩,a8,O⟩ (λi W W' ⟨t,pb,h1,h2,h3,h4⟩ hx=>⟨t,pb,h1,h2,h3.ext hx,h4.ext hx⟩) (λi hi W hg ⟨t,pb,h1,h2,h3,h4⟩=>?_)) ?_
 .obtain⟨b6,e',aw⟩:=h5.2 h0;grind
 .have:=Jyr D.ds (D.M i) q;have:=hV.ml i;omega
 .have a4:Ext w W:=hg.old G λk hk=>by omega
  have hh:=hV.hm i hi;have ai:(i+1)*D.Hm<=D.n*D.Hm:=nO _ om;rw[Nat.succ_mul]at ai;refine(Qpk ((hV.ix i hi).ext a4) (Jv a9 hg om) h3 h4 om (Rd.ext hq a4) hqc a2 om).mono ?_;rintro u W' ⟨g1,g2,g3,st,g4,g5⟩;refine⟨g1,g2,t+st,_,by rw[Nat.succ_mul];omega,?_,g3,g5⟩;grind
 rintro u w7 ⟨hu,az,aj,t,pb,ht,ag,a7,a6⟩;have a5:Ext w w7:=aj.old G λk hk=>by omega
 have J:Ext w7 w7.drew:=(Ext.refl w7).drew;refine drR (Go.Wk.sc 7 []) ?_;refine Jz ((a7.ext J).at (i:=0) rfl) ?_;refine Jz ((a6.ext J).at (i:=0) rfl) ?_;refine ρd ?_;refine ρ ?_;refine Jjv ⟨a5.trans J,λe=>absurd a2 e,λ_=>⟨u,t,?_,?_,ht⟩⟩
 .have:pb=decide (q∈D.U):=by
   rw[Bool.eq_iff_iff,ag,decide_eq_true_eq,hV.up.has a2];have hn:D.n=2^D.k-1:=rfl;grind
  rw[this]
 have an:=hV.up.before q;have:sgP (λs=>Qh D.ds (D.M s) q) D.n-sgM (λs=>Qh D.ds (D.M s) q) D.n=Qh D.ds D.U q:=by
  rw[show D.n=2^D.k-1 from rfl,an];omega
 rw[this]at hu;exact hu.ext J
open Go.RowKit Pl Go.Wk _root_.Go.Proofs.Tryz
variable {cs:List Value}{w:World}
theorem EX5: ElT prog 29 77 5 120 (.agg #[.slice none 0 0,.slice none 0 0,.slice none 0 0,.slice none 0 0,.slice none 0 0]):=⟨underlying29,info_parts kr,rfl,by decide⟩
theorem EInp: ElT prog 23 42 5 88 (.agg #[.int .i64 0,.int .i64 0,.slice none 0 0,.slice none 0 0,.slice none 0 0]):=⟨underlying23,info_parts kr,rfl,by decide⟩
theorem Qcb(w:World): (Instr.buildSlice 29 0 #[]).run prog w=.ok (.slice (some ⟨w.heap.size,0,none⟩) 0 0) (w.alloc (.cells ([]:List Value).toArray 77)):=kr
theorem Xvg{A:Option Addr}{n c:Nat}(hr:Rd w 5 A n cs)(h1:∀ u∈cs,u.oneCell'=true)(hb:n<=1000):
  Ret prog 65 [.slice A n c] w λv w'=>(∃ A' c',v=.slice A' n c'/\n<=c'/\Rd w' 5 A' n cs/\∀ ad,A'=some ad->w.heap.size<=ad.block)/\Ext w w':=by
 refine enE func65 ntmps65 ?_;refine ρ ?_;refine Ij ?_;refine ciR (λh=>?_) (λh=>?_)
 .have O:A=none:=by simpa using h
  subst O;have hn:n=0:=by
   rcases Nat.eq_zero_or_pos n with h0|h0
   .exact h0
   obtain⟨ad,Z,_⟩:=hr.isome h0 om;cases Z
  subst hn;refine ρ ?_;exact Jj ⟨⟨none,0,rfl,Nat.le_refl _,hr,λad e=>by cases e⟩,Ext.refl w⟩
 refine Qd Qcb ?_;intro w1 b j G D;refine ρ ?_;refine apo j EX5 (D.own (n:=0) G rfl (Nat.zero_le _)) (hr.ext j) h1 (by unfold maxLen;omega) om ?_;intro v2 w2 i C _ _;obtain⟨A2,c2,rfl,o,J⟩:=Jb i;refine ρ ?_;rw[Nat.zero_add]at i o ⊢;exact Jj ⟨⟨A2,c2,rfl,o,Rd.own i,λad e=>by subst e;exact(J ad.block rfl).1⟩,C⟩
theorem Xvv(w:World): (Instr.buildSlice 23 0 #[]).run prog w=.ok (.slice (some ⟨w.heap.size,0,none⟩) 0 0) (w.alloc (.cells ([]:List Value).toArray 42)):=kr
theorem Qhh{D:UD}(hV:UnV w D cs): Ret prog 15 [.agg cs.toArray] w λu w'=>NatV w' u D.U.length/\Ext w w':=by
 obtain⟨DA,dc,MA,mc,SA,sl,sc,rfl,h2,h3,h4,h5,h6⟩:=id hV.ex;have C:D.U.length<=35000:=by
  have h7:=hV.up.total;have hs:=Jcg (c:=λs=>(D.M s).length) (B:=5000) hV.ml (2^D.k-1);have n7:2^D.k-1<=7:=hV.n7;grind
 obtain⟨A,c,e,e1,_,e2⟩:=id h6;injection e with e3 e4 e5
 subst e3;subst e4;subst e5;refine enE func15 ntmps15 ?_;refine bxR ?_;intro w1 b j hb Z;refine ldR (Z.at (i:=4) rfl) ?_;refine ρ ?_;have J:=Jkf (n:=D.U.length) om;refine cl (Qbh (e2.ext j) (Jfv _) om) ?_;rintro u w2 ⟨⟨A',c',rfl,O,G⟩,o⟩;refine ρ ?_;exact Jj ⟨⟨A',c',rfl,O,om,G⟩,j.trans o⟩
open Go.RowKit Pl Go.Wk
theorem Qhf{w:World}{D:UD}{cs:List Value}{QA:Option Addr}{qc:Nat}{q:Row}(hV:UnV w D cs)(hq:RdR w QA q)(hqc:q.length<=qc):
  Ret Tryz.prog 20 [.agg cs.toArray,.slice QA q.length qc] w λu w'=>Ext w w'/\u=.int .u32 (((if q.length=D.f then Xt (λi=>decide (q∈D.M (2^i))) D.k else 0):Nat):Int):=by
 have n7:=hV.n7;have am:=hV.up.k3;obtain⟨DA,dc,MA,mc,SA,sl,sc,rfl,h2,h3,h4,h5,h6⟩:=id hV.ex;refine enE Tryz.func20 Tryz.ntmps20 ?_;refine bxR ?_;intro w1 b2 a1 an a3;refine ldR (a3.at (i:=1) rfl) ?_;refine ciR (λh=>?_) (λh=>?_)
 .have ac:q.length≠D.f:=by have:=Yn h;omega
  refine ρ ?_;exact Jj ⟨a1,by rw[if_neg ac]⟩
 have a6:q.length=D.f:=by have:=Kh h;omega
 clear h;refine ldR (a3.at (i:=0) rfl) ?_;refine ρ ?_;refine Qm (fun (i:Nat)=>[(1,.slice QA q.length qc),(2,.pointer (some ⟨b2,0,none⟩)),(5,.int .u32 ((Xt (λi=>decide (q∈D.M (2^i))) i:Nat):Int)),(17,.int .i64 (D.k:Int)),(18,.int .i64 (i:Int))])
  (λi w'=>i<=D.k/\Ext w1 w') (λi=>D.k-i) 0 sB ⟨Nat.zero_le _,Ext.refl _⟩ ?_
 rintro i w2 ⟨hi,G⟩;refine ciR (λh=>?_) (λh=>?_)
 .have li:i<D.k:=by have:=oT h;omega
  clear h;refine ρ ?_;have a9:i=0∨i=1∨i=2:=om
  obtain⟨s,hs⟩:∃ s,s=2^i:=⟨_,rfl⟩;have aa:1<=s:=by grind
  have J:s-1<D.n:=by
   have:2^i<2^D.k:=Nat.pow_lt_pow_right om li;unfold UD.n;omega
  have ai:s<=4:=by grind
  refine dr (Go.Wk.sc 18 [8]) kr ?_;have Z:Ext w2 w2.drew:=(Ext.refl w2).drew;have o:=(a1.trans G).trans Z;have af:=(a3.ext G).ext Z;obtain⟨A,B,C,D',E,a,b,c',d,e,a',b',c2,d',e',a4⟩:=hV.x5 (s-1) J;have a8:∀ i,i<D.n->(D.xc i).length=5:=λi hi=>by obtain⟨A,B,C,D',E,a,b,c',d,e,a',b',c2,d',e',h⟩:=hV.x5 i hi;rw[h];rfl
  have a2:=(hV.ix (s-1) J).ext o;rw[a4]at a2;obtain⟨B0,tb⟩:=a2.tb;refine Jz (af.at (i:=3) rfl) ?_;refine ρd ?_;refine Jyn ?_ (h0:=by omega);refine dkv 25 (show Value.int .i64 (IntKind.i64.wrap (1*2^min ((i:Int)).toNat IntKind.i64.bits))=.int .i64 (s:Int) by rw[hs];rcases a9 with rfl|rfl|rfl<;>rfl) ?_;refine Zr 5 (s-1) (h5.ext o) J ?_;refine Qq (cs:=[.slice A a a',.slice B b b',.slice C c' c2,.slice D' d d',.slice E e e']) (λj u hu=>?_) ?_
  .rw[<-a4]at hu;have hj:j<5:=by grind
   rw[Xk];exact Rd.cell (h5.ext o) (by rw[Yv a8 J hj];exact hu)
  refine Jm (Qqd tb a2 (Rd.ext hq o) hqc) ?_;rintro u w3 ⟨a5,_,ab⟩;obtain⟨kv,st,rfl,ak,ah⟩:=ab a6;refine⟨a5,?_⟩;refine ρd ?_;refine ρ ?_;have e1:s-1+1=2^i:=(Nat.sub_add_cancel aa).trans hs;have ad:2^i<2^D.k:=Nat.pow_lt_pow_right om li;have a7:(0<(wiL (D.M (s-1+1)) q).length)↔q∈D.M (2^i):=by
   rw[e1];constructor
   .intro h3;obtain⟨x,hx⟩:=List.exists_mem_of_length_pos h3;unfold wiL at hx;rw[List.mem_filter,decide_eq_true_eq]at hx;have ag:=hV.up.len x (hV.up.sub Nat.one_le_two_pow ad hx.1);grind
   intro h3;refine List.length_pos_of_mem (a:=q) ?_;grind [wiL,List.take_length]
  have O:Ext w1 w3:=(G.trans Z).trans a5;have aj:=Qzh (λi=>decide (q∈D.M (2^i))) i;refine ci (λh=>?_) (λh=>?_)
  .have hm:=a7.1 (oT h);clear h;refine ρ ?_;refine Jxw rfl rfl om rfl ?_;refine Go.Wk.kv 38 (show Value.int .u32 (IntKind.u32.wrap (1*2^min ((i:Int)).toNat IntKind.u32.bits))=.int .u32 ((2^i:Nat):Int) by rcases a9 with rfl|rfl|rfl<;>rfl) ?_;refine ρ ?_;refine Qy (i+1) ?_ ⟨om,O⟩ om;rw[Ip om om];rw[show Xt (λi=>decide (q∈D.M (2^i))) (i+1)=Xt (λi=>decide (q∈D.M (2^i))) i ||| 2^i by grind [Xt]];exact sO
  have hm:¬ q∈D.M (2^i):=by grind
  clear h;refine ρ ?_;refine Qy (i+1) ?_ ⟨om,O⟩ om;rw[show Xt (λi=>decide (q∈D.M (2^i))) (i+1)=Xt (λi=>decide (q∈D.M (2^i))) i by grind [Xt]];exact sO
 have ae:i=D.k:=by grind
 subst ae;refine ρ ?_;exact Jj ⟨a1.trans G,by rw[if_pos a6]⟩
end Go.Proofs.YtbcdghbonlifdaaGreatDoor
namespace Go.Proofs.YtbcdghbonlifdaaGreatDoor
open Pl Go.Wk
variable {m n v:Nat}{k r y:Row}
section
variable {f:Nat} {ds:List Bool} {kf:Nat->Nat} {pf:Nat->Int} {BB:Nat->List BkT} {tot:Nat} {L:List Row}
theorem IxP.ne_of(h:IxP f ds kf pf BB tot L)(hr:r∈L): tot≠0:=λe=>by
 rw[h.len]at e;grind
theorem IxP.val(h:IxP f ds kf pf BB tot L)(hr:r∈L)(hv:v<f): r.getD v V0∈(trK (BB v) (pmR (bk (kf v) 32) (r.take v))).toL.map (·.1):=by
 have j:=h.ne_of hr;rw[h.ans j]at hr;have o:r.length=f:=by grind [AX.ext_mem]
 have i:=AX.ext_gp hr (v+1) v (by grind);rw[Jfq,Pl.getD_take (Xf f kf pf BB).d0 om,List.take_take,Nat.min_eq_left om]at i;exact i
theorem IxP.srtT(h:IxP f ds kf pf BB tot L)(hv:v<f)(k:Row): Gq (ds.getD v false) (trK (BB v) k).toL:=by
 by_cases e:tot=0
 .rw[h.nil e v];exact List.Pairwise.nil
 have:=(h.srt e).srt v hv k;grind [Jfq]
theorem IxP.fitR(h:IxP f ds kf pf BB tot L)(hr:r∈L): ∀ u∈r,Xa u/\u.bytes.length<=24:=by
 have j:=h.ne_of hr;rw[h.ans j]at hr;have o:r.length=f:=by grind [AX.ext_mem]
 have i:=AX.ext_gp hr f;rw[List.take_of_length_le om]at i;exact h.gp i
end
theorem Xzl(hy:∀ u∈y,Xa u/\u.bytes.length<=24)(s:Nat): FitR (pmR (bk s 32) y):=by
 refine⟨by grind [Xg,Uq],λv j=>?_⟩;obtain⟨i,_,rfl⟩:=List.mem_map.1 j;grind [List.getD,fit0,List.mem_of_getElem?]
theorem Xxl{bs:List BkT}{a:V}(h:a∈(trK bs k).toL.map (·.1)): (Zp bs k).isSome=true:=by
 cases e:Zp bs k with
 | some i=>rfl
 | none=>rw[Jdv e]at h;cases h
theorem Qkf(h0:0<n)(h:m<=n / 2): Je m+1<=Je n:=by
 have j:=Jvr (x:=n);have o:=Jmg (x:=n) om;obtain⟨L,i⟩:∃ L,Je n=L+1:=⟨Je n-1,om⟩;rw[i]at j ⊢;have:=Kj (x:=m) (k:=L) (by grind);omega
open Go.RowKit Pl Go.Wk _root_.Go.Proofs.Tryz
attribute [local irreducible] WC WL QX WD WDB WP WN WG WH WM
variable {c k m n qc:Nat}{A QA:Option Addr}{q:Row}{a w:World}
theorem Qbf(ha:Ext a w)(hr:RdR w A q)(hb:q.length<=1000):
  Ret prog 110 [.slice A q.length c] w λv w'=>w'.ownsRow a.heap.size 118 3 v q.length (Jp q)/\Ext w w':=by
 refine enE func110 ntmps110 ?_;refine ρ ?_;refine Ij ?_;refine ciR (λh=>?_) (λh=>?_)
 .have O:A=none:=by simpa using h
  subst O;have hn:q.length=0:=by
   rcases Nat.eq_zero_or_pos q.length with h0|h0
   .exact h0
   obtain⟨ad,Z,_⟩:=hr.isome h0 om;cases Z
  obtain rfl:=List.eq_nil_of_length_eq_zero hn;refine ρ ?_;exact Jj ⟨Zc _ _ _ _,Ext.refl w⟩
 refine Qd Im ?_;intro w1 b i G u;refine ρ ?_;refine apo (a:=a) (ha.trans i) EV (u.own (n:=0) (nL ha.size G) rfl (Nat.zero_le _)) (hr.ext i) (Jzj q) (by unfold maxLen;omega) om ?_;intro v2 J j _ C _;have o:Ext w J:=Qt i C λg eg=>by
  have:b=g:=by simpa [Value.ownBlock] using eg
  omega
 obtain⟨A2,c2,rfl,D,_⟩:=Jb j;refine ρ ?_;rw[Nat.zero_add]at j D ⊢;exact Jj ⟨j,o⟩
def SF.r1(y:V): SF:=⟨λv W=>∃ b:Nat,v=.slice (some ⟨b,0,none⟩) 1 1/\Blk W b 118 (Jp [y]),λ⟨b,e,h⟩ hx=>⟨b,e,h.ext hx⟩⟩
theorem Jtr{A a b C s e:Nat}(h1:b+1<=a)(h2:a<=A)(hs:s<=(A-a)*C)(he:e<=C): s+e<=(A-b)*C:=by
 have:(A-a+1)*C<=(A-b)*C:=nO _ om;grind
theorem Qkd(h:n<=m): Je n<=Je m:=Kj (Nat.lt_of_le_of_lt h Jvr)
theorem cmpN_le: Vr n m<=0↔n<=m:=by
 unfold Vr;grind
theorem Jwb(v:V)(w:World): (Instr.buildSlice 46 1 #[(0,v.val)]).run prog w=.ok (.slice (some ⟨w.heap.size,0,none⟩) 1 1) (w.alloc (.cells (Jp [v]).toArray 118)):=kr
theorem Qhj{D:UD}{cs:List Value}{kv p:Value}{d:Bool}{t:Tr}(hV:UnV w D cs)(hq:RdR w QA q)(hqc:q.length<=qc)(hk:NatV w kv k)(hkl:k<D.U.length)(hqf:q.length<D.f)(hq2:q=(D.U.getD k []).take q.length)(hT:TrV (λ_=>False) w t p)(hs:Gq (D.ds.getD q.length false) t.toL)(hnb:Nb t.sum)(hsz:t.sz<=65536):
  Ret prog 92 [.agg cs.toArray,.agg #[.bool d,p],.slice QA q.length qc,kv] w λu w'=>∃(a:V) (fd:Bool) (st:Nat),u=.tuple #[a.val,.bool fd,.int .i64 (st:Int)]/\Ext w w' /\
   (fd=true->neg (D.ds.getD q.length false) (cmpV a ((D.U.getD k []).getD q.length V0))<=0)/\((D.U.getD k []).getD q.length V0∈t.toL.map (·.1)->fd=true/\a=(D.U.getD k []).getD q.length V0)/\st<=Je t.sz*(D.n*D.Hm):=by
 have n7:=hV.n7;have ch:D.U.getD k []∈D.U:=getD_mem' [] _ hkl;have d7:=hV.up.len _ ch;obtain⟨pp,rfl⟩:=hT.ptr;obtain⟨DA,dc,MA,mc,SA,sl,sc,rfl,h2,h3,h4,h5,h6⟩:=id hV.ex;have da:(D.f:Nat)<=32:=by
  have h0:0<D.n:=by
   have:=hV.up.k1;have:=Nat.pow_le_pow_right (show 0<2 by omega) this;unfold UD.n;omega
  exact(hV.ix 0 h0).ip.f32
 generalize hwant:(D.U.getD k []).getD q.length V0=want at *
 obtain⟨G,O⟩:∃ G:Nat->Prop,G=λi=>neg (D.ds.getD q.length false) (cmpV (eAt t i) want)<=0:=⟨_,rfl⟩;have aq:∀ i,Qh D.ds D.U (q++[eAt t i])<=k↔G i:=λi=>by
  have:=Xwp (a:=eAt t i) hV.up.ul hkl (v:=q.length) om;rw[<-hq2,hwant]at this;rw[O];exact this
 have cv:t.toL.length=t.sz:=(Tr.sz_eq t).symm;have ab:∀ i j,i<=j->j<t.sz->G j->G i:=λi j c9 hj h=>by
  rw[O]at h ⊢;exact Qmm hs c9 om h
 have d0:Je t.sz<=17:=Kj om;have d9:D.n*D.Hm<=7*10000000:=Nat.mul_le_mul n7 hV.hl;refine enE func92 ntmps92 ?_;refine bxR ?_;intro w1 b4 ba d6 bz;refine bxR ?_;intro w2 b5 ay d5 b1;refine Jw (cs:=V0.cells) Vf ?_;intro w3 b8 a8 d4 bq;refine Jw (cs:=V0.cells) Vf ?_;intro w4 af a5 cp aw;have ao:=((ba.trans ay).trans a8).trans a5;refine Jo ((b1.ext a8).ext a5) ?_;refine clR (Jtc (hT.ext ao)) ?_;rintro u w5 ⟨rfl,a4⟩;have bd:=ao.trans a4;have bw:=(((bz.ext ay).ext a8).ext a5).ext a4;have bs:=((b1.ext a8).ext a5).ext a4;have bp:=(bq.ext a5).ext a4;have l4:=bz.lt;have l5:=b1.lt;have l8:=bq.lt;have cr:=aw.lt;have s1:=ba.size;have s2:=ay.size;have s3:=a8.size;have s4:=a5.size;have s5:=a4.size;refine ρ ?_;refine Zj (fun (lo hi:Nat) (z:Bool×Nat)=>[(2,.slice QA q.length qc),(3,kv),(4,.pointer (some ⟨b4,0,none⟩)),(5,.pointer (some ⟨b5,0,none⟩)),(8,.pointer (some ⟨b8,0,none⟩)),(11,.pointer (some ⟨af,0,none⟩)),(12,.bool z.1),(13,.int .i64 (z.2:Int)),(14,.int .i64 (lo:Int)),(15,.int .i64 (hi:Int))])
  (λlo hi z w'=>lo<=hi/\hi<=t.sz/\GrN (λk=>k=af) w5 w'/\(∃ a:V,Blk w' af 118 a.cells/\(0<lo->a=eAt t (lo-1)))/\(z.1=true↔0<lo)/\(∀ i,i<lo->G i)/\(∀ i,hi<=i->i<t.sz->¬ G i)/\z.2<=(Je t.sz-Je (hi-lo))*(D.n*D.Hm))
  (λlo hi _=>hi-lo) 0 t.sz (false,0) sB
  ⟨Nat.zero_le _,Nat.le_refl _,GrN.refl _ _,⟨V0,aw.ext a4,λh=>absurd h (Nat.lt_irrefl 0)⟩,⟨(λh=>by cases h),λh=>absurd h (Nat.lt_irrefl 0)⟩,λi hi=>absurd hi (Nat.not_lt_zero i),λi h1 h2=>absurd h2 om,Nat.zero_le _⟩ ?_
 rintro lo hi ⟨fd,st⟩ w6 ⟨cz,ca,ac,⟨a3,ae,Z⟩,ah,ax,bh,aa⟩;simp only at ah aa;have a9:Ext w w6:=ac.old bd λk hk=>by rw[hk];omega
 have co:st<=17*70000000:=by
  refine nL aa (Nat.mul_le_mul om om)
 refine ciR (λh=>?_) (λh=>?_)
 .have cy:lo<hi:=by have:=oT h;omega
  clear h;refine ρ ?_;refine qn (hi-lo) 2 ?_;refine ρ ?_;have ar:(lo:Int)+((hi-lo) / 2:Nat)=((lo+(hi-lo) / 2:Nat):Int):=om
  obtain⟨o,hm⟩:∃ o,o=lo+(hi-lo) / 2:=⟨_,rfl⟩;rw[<-hm]at ar;refine Go.Wk.kv 16 (congrArg (Value.int .i64) ar) ?_;have cx:lo<=o:=om
  have cw:o<hi:=om
  have br:=Jv bs ac om;refine Jo br ?_;refine clR (Qlc (k:=o) (hT.ext a9) om hnb om) ?_;rintro u w7 ⟨TA,tn,tc,rfl,ag⟩;have bc:=a9.trans ag;refine Jw (cs:=V0.cells) Vf ?_;intro w8 ck c5 bm c1;refine Qf (cs':=(eAt t o).cells) c1 ?_ (V.one _);intro w9 b6 d2 c4;have ai:Ext w7 w9:=c4 w7 c5 bm;have ak:=ag.trans ai;have bb:=bc.trans ai;have a7:Ext w9 w9.drew:=(Ext.refl w9).drew;have an:=bb.trans a7;have av:=((Jv bw ac om).ext ak).ext a7;have a1:=b6.ext a7;have bf:=Rd.ext hq an;refine ρ ?_;have d8:∀ {k:Nat},k<w9.heap.size->¬ w9.drew.heap.size<=k:=λh h'=>by have:=a7.size;have:w9.drew.heap.size=w9.heap.size:=rfl;omega
  have cq:=av.lt;have cm:=a1.lt;refine drM (λk=>w9.drew.heap.size<=k) ?_;refine Ut (fuel':=9) [(0,0),(0,1),(0,3)] #[true,true,false,true,false,false,false,false,false,false,false,false] kr kr rfl ?_;refine ρn ?_;refine Xr (cs:=[.int .i64 (D.k:Int),.int .i64 (D.f:Int),.slice DA D.f dc,.slice MA D.n mc,.slice SA sl sc]) (λw' hg j u hu=>(Jv av hg om).at hu) ?_;refine ρn ?_;refine Xr (cs:=(eAt t o).cells) (λw' hg j u hu=>(Jv a1 hg om).at hu) ?_;refine ρn ?_;refine Ua ?_;refine mcut 7 (lst 12 5) (fun (y:Option Addr×Nat×Nat)=>[(45,.slice y.1 q.length y.2.1),(47,.slice (some ⟨y.2.2,0,none⟩) 1 1),(43,.agg #[.int .i64 (D.k:Int),.int .i64 (D.f:Int),.slice DA D.f dc,.slice MA D.n mc,.slice SA sl sc]),(2,.slice QA q.length qc),(3,kv),(4,.pointer (some ⟨b4,0,none⟩)),(5,.pointer (some ⟨b5,0,none⟩)),(8,.pointer (some ⟨b8,0,none⟩)),(11,.pointer (some ⟨af,0,none⟩)),(12,.bool fd),(13,.int .i64 (st:Int)),(14,.int .i64 (lo:Int)),(15,.int .i64 (hi:Int)),(16,.int .i64 (o:Int)),(17,.pointer (some ⟨ck,0,none⟩))])
   (λy W=>Ext w9.drew W/\W.ownsRow w9.drew.heap.size 118 3 (.slice y.1 q.length y.2.1) q.length (Jp q)/\Blk W y.2.2 118 (Jp [eAt t o])) ?_ ?_
  rotate_left
  .intro rest;refine Jxd 2 4 kr rfl rfl rfl ?_ ?_
   .refine cl (Qbf (Ext.refl _) bf om) ?_;rintro u v1 ⟨ho,J⟩;obtain⟨CA,cc,rfl,cd,_⟩:=Jb ho;refine Jc (Xm (GrN.ext J) ?_);refine Vl 4 kr rfl rfl ?_;refine bsl (Jwb _) ?_;intro v2 b2 C cg a6;refine Jc (Xm (GrN.ext C) ?_);refine Ge (listed':=lst 12 5) kr ?_;exact rest (CA,cc,b2) _ _ ⟨J.trans C,Jk ho C,a6⟩ sB
   refine bsl (Jwb _) ?_;intro v1 b2 J cg a6;refine Jc (Xm (GrN.ext J) ?_);refine Vl 2 kr rfl rfl ?_;refine cl (Qbf J (Rd.ext bf J) om) ?_;rintro u v2 ⟨ho,C⟩;obtain⟨CA,cc,rfl,cd,_⟩:=Jb ho;refine Jc (Xm (GrN.ext C) ?_);refine Ge (listed':=lst 12 5) kr ?_;exact rest (CA,cc,b2) _ _ ⟨J.trans C,ho,a6.ext C⟩ sB
  rintro⟨CA,cc,b2⟩ v1 ⟨J,ho,a6⟩;simp only at ho a6;obtain⟨_,_,_,_,c6⟩:=Jb ho;refine Vl 5 kr rfl rfl ?_;refine apo (a:=w9.drew) J EV ho (a6.rd (n:=1) rfl) (V.one _) (by unfold maxLen;omega) om ?_;intro v' v2 bg C cb _;obtain⟨A3,c3,rfl,ce,_⟩:=Jb bg;have ap:=an.trans C;have cj:RdR v2 A3 (q++[eAt t o]):=by
   have h1:=Rd.own bg;rw[<-rowC_app']at h1;exact(by rw[List.length_append];exact h1:Rd _ 3 A3 (q++[eAt t o]).length (Jp (q++[eAt t o])))
  have az:(q++[eAt t o]).length=q.length+1:=by simp
  refine Jc (Xm (GrN.by cb λj hj=>(c6 j hj).1) ?_);refine Vl 6 kr rfl rfl ?_;have bl:=Qhm (hV.ext ap) cj (qc:=c3) (by rw[az];exact ce) (by rw[az];omega);rw[az]at bl;refine cl bl ?_;rintro u v3 ⟨nv,sn,rfl,c7,be,a2⟩;refine Jc (Xm (GrN.ext a2) ?_);refine Ut (fuel':=0) [(0,7),(0,8),(0,9),(0,10),(0,11)] (lst 12 12) kr kr rfl ?_;refine ρn ?_;refine Ua ?_;refine Jvl kr ?_;refine ρ ?_;have b9:Ext w v3:=ap.trans a2;refine cl (Ib c7 (hk.ext b9)) ?_;rintro u v4 ⟨rfl,am⟩;have aj:Ext w6 v4:=(((ak.trans a7).trans C).trans a2).trans am;have b3:=((a1.ext C).ext a2).ext am;have ad:=ae.ext aj;have au:GrN (λk=>k=af) w5 v4:=ac.trans (GrN.ext aj);have bi:Je (hi-lo)<=Je t.sz:=Qkd om;refine ciR (λh=>?_) (λh=>?_)
  .have hy:G o:=(aq o).1 (cmpN_le.1 (oT h));clear h;refine Jl (cs:=(eAt t o).cells) (λj u hu=>b3.at hu) ?_;refine Qf (cs':=(eAt t o).cells) ad ?_ (V.one _);intro v5 b7 bj cn;refine ρ ?_;refine Xx (o+1) hi (true,st+sn) sO ⟨om,ca,au.trans (GrN.by bj λj hj=>by injection hj with hj;exact hj.symm),⟨_,b7,λ_=>by rw[Nat.add_sub_cancel]⟩,⟨λ_=>om,λ_=>rfl⟩,λi d1=>ab i o om om hy,bh,Jtr (Qkf om om) bi aa be⟩ om
  have hy:¬ G o:=λhy=>oF h (cmpN_le.2 ((aq o).2 hy));clear h;refine ρ ?_;refine Xx lo o (fd,st+sn) sO ⟨om,om,au,⟨a3,ad,Z⟩,ah,ax,λi h1 h2 c2=>hy (ab o i h1 h2 c2),Jtr (Qkf om om) bi aa be⟩ om
 have c8:lo=hi:=by have:=oF h;omega
 subst c8;have bo:=Jv bp ac om;refine Jl (cs:=a3.cells) (λj u hu=>ae.at hu) ?_;refine Qf (cs':=a3.cells) bo ?_ (V.one _);intro w7 bn d3 ag;refine ρ ?_;have hL:LastP (D.ds.getD q.length false) want t.toL lo:=⟨om,λi hi=>by have:=ax i hi;rw[O]at this;exact this,λi h1 h2=>by have:=bh i h1 om;rw[O]at this;exact this⟩;refine Jkm bn ⟨a3,fd,st,rfl,ag w a9 om,λh=>?_,λh=>?_,?_⟩
 .have h0:=ah.1 h;rw[Z h0];have:=ax (lo-1) om;rw[O]at this;exact this
 .obtain⟨h0,h1⟩:=hL.end hs h;exact⟨ah.2 h0,(Z h0).trans h1⟩
 refine nL aa (nO _ om)
open Go.RowKit Pl Go.Wk
variable {cs:List Value}{Sz c k qc v:Nat}{A QA:Option Addr}{q r:Row}{D:UD}{w:World}
def SF.rv(y:Row): SF:=⟨λv w=>RowV w v y,λh hx=>h.ext hx⟩
def SF.bu(w0:World)(t:Tr)(b:Bool): SF:=⟨λv _=>∃ d p,v=.tuple #[.agg #[.bool d,.pointer p],.bool b]/\TrV (λ_=>False) w0 t (.pointer p),λh _=>h⟩
def SF.bt(w0:World)(t:Tr): SF:=⟨λv _=>∃ d p,v=.agg #[.bool d,.pointer p]/\TrV (λ_=>False) w0 t (.pointer p),λh _=>h⟩
theorem Qph{ds:List Bool}(h:RdB w A ds)(hv:v<ds.length)(hc:ds.length<=c): RdB w (if c=v then A else A.map (·.add (v*1))) [ds.getD v false]:=by
 have:=Rd.cut h v (v+1) c om om om;have e:((ds.map Value.bool).drop (v*1)).take ((v+1-v)*1)=[Value.bool (ds.getD v false)]:=by
  refine List.ext_getElem (by simp;omega) λi o j=>?_;grind
 grind
theorem Qhk(hV:UnV w D cs)(hv:v<D.f)(a b:V):
  Ret Tryz.prog 93 [.agg cs.toArray,.int .i64 (v:Int),a.val,b.val] w λu w'=>u=.bool (decide (0<neg (D.ds.getD v false) (cmpV a b)))/\Ext w w':=by
 obtain⟨DA,dc,MA,mc,SA,sl,sc,rfl,h2,h3,h4,h5,h6⟩:=id hV.ex;refine enE Tryz.func93 Tryz.ntmps93 ?_;refine bxR ?_;intro w1 b4 a7 aj af;refine bxR (cs:=a.cells) ?_;intro w2 b6 a2 ai ae;refine bxR (cs:=b.cells) ?_;intro w3 b7 O ah ad;have a3:=(a7.trans a2).trans O;have C:Ext w3 w3.drew:=(Ext.refl w3).drew;have G:=a3.trans C;have a6:=((af.ext a2).ext O).ext C;have a5:=(ae.ext O).ext C;have a4:=ad.ext C;have aa:(v:Int)+1=((v+1:Nat):Int):=om
 have ag:v<1000000:=by
  have h0:0<D.n:=by
   have:=hV.up.k1;grind [Nat.pow_le_pow_right,UD.n]
  have:=(hV.ix 0 h0).ip.f32;omega
 refine ρ ?_;refine drH (λi=>false) ?_;refine Zz (fuel':=5) 14 [(0,0),(0,2),(0,4),(0,5),(0,6),(0,7),(0,8),(0,9)] #[true,false,true,false,true,true,true,true,true,true,false,false,false] kr kr rfl ?_;refine Qq (cs:=a.cells) (λj u hu=>a5.at hu) ?_;refine Qq (cs:=b.cells) (λj u hu=>a4.at hu) ?_;refine Jz (a6.at (i:=2) rfl) ?_;refine ρd ?_;refine Xkj Jjb v (v+1) dc rfl rfl rfl rfl ⟨_,_,rfl,rfl⟩ ⟨_,_,rfl,aa⟩ rfl (.inl rfl) om om (nR _) rfl ?_;rw[show v+1-v=1 by omega];refine ρd ?_;refine Xw ?_;refine hmkS 14 3 _ #[true,true,true,true,true,true,true,true,true,true,false,false,false] [1,3] [10,12] [SF.r1 a,SF.r1 b] kr (by rfl) ?_ ?_
 .refine gsc (λvs v1 o hd=>?_) ?_
  .simp only[slM];refine bsl (Jwb _) ?_;intro v2 b2 J ab Z;exact Jc (Zg J ⟨b2,rfl,Z⟩)
  refine gsc (λvs v1 o hd=>?_) gse
  simp only[slM];refine bsl (Jwb _) ?_;intro v2 b2 J ab Z;exact Jc (Zg J ⟨b2,rfl,Z⟩)
 intro vs v1 o hd;obtain⟨ba,ea,a9⟩:=hd 0;obtain⟨bb,eb,a8⟩:=hd 1;simp only[slM,ea,eb];have ac:=Qph (h4.ext (G.trans o)) (v:=v) (c:=dc) (by rw[h3];exact hv) om;refine Zz (fuel':=0) 14 [(1,10),(0,11),(0,12)] #[true,true,true,true,true,true,true,true,true,true,true,true,true] kr kr rfl ?_;refine dcl (Qyg (a:=[a]) (b:=[b]) (ds:=[D.ds.getD v false]) ⟨_,_,rfl,Nat.le_refl _,by simp,a9.rd rfl⟩ ⟨_,_,rfl,Nat.le_refl _,by simp,a8.rd rfl⟩ ⟨_,dc-v,rfl,by simp;omega,by simp,ac⟩) ?_;rintro u w4 ⟨rfl,a1⟩;refine⟨a1,?_⟩;refine ρd ?_;refine Xw ?_;refine Vo kr ?_;refine ρ ?_;refine Jj ⟨?_,(G.trans o).trans a1⟩;have:=Qyv (a:=a) (b:=b) (p:=[]) (ds:=[D.ds.getD v false]);grind
theorem UnV.row(hV:UnV w D cs)(hr:r∈D.U): ∃ i,i<D.k/\2^i-1<D.n/\2^i-1+1=2^i/\r∈D.M (2^i):=by
 obtain⟨i,hi,h⟩:=(hV.up.um r).1 hr;have j:2^i<2^D.k:=Nat.pow_lt_pow_right om hi;grind [Nat.one_le_two_pow,UD.n]
theorem UnV.fit(hV:UnV w D cs)(hr:r∈D.U): ∀ u∈r,Xa u/\u.bytes.length<=24:=by
 obtain⟨i,_,C,o,j⟩:=hV.row hr;have:=(hV.ix _ C).ip;rw[o]at this;exact this.fitR j
theorem Qhl{kv:Value}(hV:UnV w D cs)(hq:RdR w QA q)(hqc:q.length<=qc)(hk:NatV w kv k)(hkl:k<D.U.length)(hqf:q.length<D.f)(hq2:q=(D.U.getD k []).take q.length)(hS:∀ i,i<D.k->∀ v,v<D.f->∀ key,(trK (D.BB (2^i-1) v) key).sz<=Sz)(hS2:Sz<=65536):
  Ret Tryz.prog 53 [.agg cs.toArray,.int .i64 (q.length:Int),.slice QA q.length qc,kv] w λu w'=>∃ st:Nat,u=.tuple #[((D.U.getD k []).getD q.length V0).val,.bool true,.int .i64 (st:Int)]/\Ext w w'/\st<=D.k*(Je Sz*(D.n*D.Hm)):=by
 have n7:=hV.n7;have dq:=hV.up.k3;have bh:D.U.getD k []∈D.U:=getD_mem' [] _ hkl;have dw:=hV.up.len _ bh;have ca:=hV.fit bh;have ba:∀ u∈q,Xa u/\u.bytes.length<=24:=λu hu=>ca u (by rw[hq2]at hu;exact List.mem_of_mem_take hu);obtain⟨i0,d0,c6,dg,bb⟩:=hV.row bh;obtain⟨DA,dc,MA,mc,SA,sl,sc,rfl,h2,h3,h4,h5,h6⟩:=id hV.ex;have dz:(D.f:Nat)<=32:=(hV.ix _ c6).ip.f32;obtain⟨O,a4⟩:∃ O,O=(D.U.getD k []).getD q.length V0:=⟨_,rfl⟩;rw[<-a4];have cy:Je Sz<=17:=Kj om;have dx:D.n*D.Hm<=7*10000000:=Nat.mul_le_mul n7 hV.hl;obtain⟨C,hC⟩:∃ C,C=Je Sz*(D.n*D.Hm):=⟨_,rfl⟩;have d8:C<=17*70000000:=by rw[hC];exact Nat.mul_le_mul cy om
 rw[<-hC];refine enE Tryz.func53 Tryz.ntmps53 ?_;refine bxR ?_;intro w1 b4 bz dv cm;refine Jw (cs:=V0.cells) Vf ?_;intro w2 b8 b7 du ck;refine Jw (cs:=V0.cells) Vf ?_;intro w3 aj an di b2;have c1:=(bz.trans b7).trans an;have b1:=(cm.ext b7).ext an;have cj:=ck.ext an;have l4:=cm.lt;have l8:=ck.lt;have dl:=b2.lt;have s1:=bz.size;have s2:=b7.size;have s3:=an.size;refine ldR (b1.at (i:=0) rfl) ?_;refine ρ ?_;refine Qj (fun (i:Nat) (z:Bool×Nat)=>[(1,.int .i64 (q.length:Int)),(2,.slice QA q.length qc),(3,kv),(4,.pointer (some ⟨b4,0,none⟩)),(8,.pointer (some ⟨b8,0,none⟩)),(11,.pointer (some ⟨aj,0,none⟩)),(12,.bool z.1),(13,.int .i64 (z.2:Int)),(22,.int .i64 (D.k:Int)),(23,.int .i64 (i:Int))])
  (λi z w'=>i<=D.k/\GrN (λk=>k=aj) w3 w'/\(∃ a:V,Blk w' aj 118 a.cells/\BestP (D.ds.getD q.length false) O (λj=>D.U.getD k []∈D.M (2^j)) i z.1 a)/\z.2<=i*C)
  (λi _=>D.k-i) 0 (false,0) sB
  ⟨Nat.zero_le _,GrN.refl _ _,⟨V0,b2,BestP.start _ _ _ _⟩,Nat.zero_le _⟩ ?_
 rintro i ⟨fd,st⟩ w4 ⟨hi,ad,⟨a1,a3,a6⟩,ao⟩;simp only at a6 ao;have a9:Ext w w4:=ad.old c1 λk hk=>by rw[hk];omega
 have de:st<=3*(17*70000000):=nL ao (Nat.mul_le_mul om d8);have ai:=Jv b1 ad om;refine ciR (λh=>?_) (λh=>?_)
 .have li:i<D.k:=by have:=oT h;omega
  clear h;have c7:i=0∨i=1∨i=2:=om
  obtain⟨s,hs⟩:∃ s,s=2^i:=⟨_,rfl⟩;have dn:1<=s:=by rw[hs];exact Nat.one_le_two_pow
  have a5:s-1<D.n:=by
   have:2^i<2^D.k:=Nat.pow_lt_pow_right om li;unfold UD.n;omega
  have dm:s<=4:=by rw[hs];rcases c7 with rfl|rfl|rfl<;>decide
  obtain⟨A,B,C',D',E,a,b,c',d,e,a',b',c2,d',e',br⟩:=hV.x5 (s-1) a5;have az:∀ i,i<D.n->(D.xc i).length=5:=λi hi=>by obtain⟨A,B,C,D',E,a,b,c',d,e,a',b',c2,d',e',h⟩:=hV.x5 i hi;rw[h];rfl
  have a2:=hV.ix (s-1) a5;rw[br,show s-1+1=s by omega]at a2;have b5:Ext w4 w4.drew:=(Ext.refl w4).drew;have aw:=a9.trans b5;have d9:=ai.ext b5;refine drR (Go.Wk.sc 9 [7,108]) ?_;refine Jz (d9.at (i:=3) rfl) ?_;refine ρd ?_;refine Jyn ?_ (h0:=by omega);refine dkv 29 (show Value.int .i64 (IntKind.i64.wrap (1*2^min ((i:Int)).toNat IntKind.i64.bits))=.int .i64 (s:Int) by rw[hs];rcases c7 with rfl|rfl|rfl<;>rfl) ?_;refine Zr 5 (s-1) (h5.ext aw) a5 ?_;refine Qq (cs:=[.slice A a a',.slice B b b',.slice C' c' c2,.slice D' d d',.slice E e e']) (λj u hu=>?_) ?_
  .rw[<-br]at hu;have hj:j<5:=by
    rcases Nat.lt_or_ge j 5 with h'|h'
    .exact h'
    rw[List.getElem?_eq_none (by rw[az _ a5];omega)]at hu;cases hu
   rw[Xk];exact Rd.cell (h5.ext aw) (by rw[Yv az a5 hj];exact hu)
  refine ρd ?_;refine dalc' Iu ?_;intro w5 e6 cr cd co;refine Qk ?_;refine stW co ?_;intro w6 bl dt cq;have bq:Ext w4.drew w6:=cq w4.drew cr cd;have au:=b5.trans bq;have ax:=a9.trans au;refine ρ ?_;have ak:Ext w6 w6.drew:=(Ext.refl w6).drew;have av:=ax.trans ak;have ce:=bl.ext ak;have bg:=a2.ext av;obtain⟨B0,tb⟩:=bg.tb;obtain⟨t,ht⟩:∃ t,t=trK (D.BB (s-1) q.length) (pmR (bk (D.kf (s-1) q.length) 32) q):=⟨_,rfl⟩;obtain⟨bo,cb⟩:∃ bo,bo=(Zp (D.BB (s-1) q.length) (pmR (bk (D.kf (s-1) q.length) 32) q)).isSome:=⟨_,rfl⟩;have cw:Gq (D.ds.getD q.length false) t.toL:=by rw[ht];exact a2.ip.srtT hqf _
  have cx:Nb t.sum:=by rw[ht];exact Nb.pow (k:=1) (by rw[Nat.pow_one];exact a2.ip.big _ _) om
  have cv:t.sz<=Sz:=by rw[ht,hs];exact hS i li _ hqf _
  have b9:D.U.getD k []∈D.M (2^i)->O∈t.toL.map (·.1)/\bo=true:=λhm=>by
   have:=a2.ip.val (r:=D.U.getD k []) (by rw[hs];exact hm) hqf;rw[<-hq2,<-a4,<-ht]at this;exact⟨this,by rw[cb];exact Xxl (by rw[<-ht];exact this)⟩
  refine drH (λi=>Nat.ble 11 i) ?_;refine Zz (fuel':=8) 14 [(0,0),(0,1),(0,2),(0,3),(0,4)] (lst 13 5) kr kr rfl ?_;refine Qq (λj u hu=>ce.at hu) ?_;refine Qq (λj u hu=>ce.at hu) ?_;refine ρd ?_;refine Xw ?_;have c3:=a2.ip.kv q.length hqf;refine Jkl 2 (lst 13 11) (fun (y:Bool×Option Addr×Nat)=>[(41,.agg #[.bool y.1,.pointer y.2.1]),(42,.bool bo),(16,.pointer (some ⟨y.2.2,0,none⟩)),(1,.int .i64 (q.length:Int)),(2,.slice QA q.length qc),(3,kv),(4,.pointer (some ⟨b4,0,none⟩)),(8,.pointer (some ⟨b8,0,none⟩)),(11,.pointer (some ⟨aj,0,none⟩)),(12,.bool fd),(13,.int .i64 (st:Int)),(22,.int .i64 (D.k:Int)),(23,.int .i64 (i:Int))])
   (λy W=>Ext w6.drew W/\Blk W y.2.2 91 [.bool false,.pointer none]/\w6.drew.heap.size<=y.2.2/\TrV (λ_=>False) w6.drew t (.pointer y.2.1)) ?_ ?_
  rotate_left
  .intro rest;refine Qwp 17 9 2 _ (lst 13 11) [5,6,7,8,9,10] [39,40,33,41,42,16] [SF.rv (pmR (bk (D.kf (s-1) q.length) 32) q),SF.bu w6.drew t bo,SF.bu w6.drew t bo,SF.bt w6.drew t,SF.eq (.bool bo),SF.tbox w6.drew.heap.size] kr (by rfl) ?_ ?_ ?_
   .refine gsc (λvs w9 J hd=>?_) ?_
    .simp only[slM];refine cl (Jds (bg.ix.ext J) hqf (Rd.ext hq (av.trans J)) hqc om c3) ?_;rintro uk W ⟨⟨KA,kc,rfl,c5,c4,bf,_⟩,hy⟩;exact Jc (Zg hy ⟨KA,kc,rfl,c5,c4,bf⟩)
    refine gsc (λvs w9 J hd=>?_) ?_
    .obtain⟨KA,kc,e0,c5,c4,bf⟩:=hd 0;simp only[slM,e0];refine cl (Jvx (tb.ext J) J bg.ix hqf bf (Xzl ba _)) ?_;rintro u W ⟨d,p,rfl,hT,_,hy⟩;rw[<-ht]at hT;rw[<-cb];exact Jc (Zg hy ⟨d,p,rfl,hT⟩)
    refine gsc (λvs w9 J hd=>?_) ?_
    .obtain⟨d,p,e1,hT⟩:=hd 1;simp only[slM,e1];refine ρ ?_;exact Zg (Ext.refl _) ⟨d,p,rfl,hT⟩
    refine gsc (λvs w9 J hd=>?_) ?_
    .obtain⟨d,p,e2,hT⟩:=hd 2;simp only[slM,e2];refine ρ ?_;exact Zg (Ext.refl _) ⟨d,p,rfl,hT⟩
    refine gsc (λvs w9 J hd=>?_) ?_
    .obtain⟨d,p,e2,hT⟩:=hd 2;simp only[slM,e2];refine ρ ?_;exact Zg (Ext.refl _) rfl
    refine gsc (λvs w9 J hd=>?_) gse
    simp only[slM];refine alc Vs ?_;intro W ae hy o G;exact Jc (Zg hy ⟨ae,rfl,Nat.le_trans J.size o,G⟩)
   .intro vs v1 ac hd;obtain⟨d,p,e3,hT⟩:=hd 3;have e4:vs 4=_:=hd 4;obtain⟨ae,e5,o,G⟩:=hd 5;simp only[slM,e3,e4,e5];exact rest (d,p,ae) _ _ ⟨ac,G,o,hT⟩ sB
   intro _ vs v1 ac hd;obtain⟨d,p,e3,hT⟩:=hd 3;obtain⟨d2,p2,e2,_⟩:=hd 2;obtain⟨ae,e5,o,G⟩:=hd 5;simp only[slM,e3,e2,e5];refine Uf (fuel':=2) 9 kr kr rfl rfl ?_;refine ρp ?_;refine ρd ?_;refine Xw ?_;refine hlist (listed':=lst 13 11) kr ?_;exact rest (d,p,ae) _ _ ⟨ac,G,o,hT⟩ sB
  rintro⟨d,p,ae⟩ v1 ⟨ac,G,o,hT⟩;simp only at G o hT;refine Zz (fuel':=0) 17 [(2,11),(2,12)] (lst 13 13) kr kr rfl ?_;refine Qk ?_;refine stW G ?_;intro w7 bj d1 am;refine Jc (Xz ?_);refine Qk ?_;refine ρ ?_;refine Xz ?_;refine Uu (Xw ?_);refine Vo kr ?_;have ar:Ext w6 w7:=am w6 (ak.trans ac) (nL ak.size o);have bp:Ext w6.drew w7:=am w6.drew ac o;have a7:=au.trans ar;have ag:=ax.trans ar;have c8:=ad.trans (GrN.ext a7);have bm:=a3.ext a7;refine ρ ?_;cases bo with
  | false=>
   refine ρ ?_;refine Jh (i+1) (fd,st) sO ⟨li,c8,⟨a1,bm,a6.skip λhm=>by have:=(b9 hm).2;cases this⟩,Nat.le_trans ao (nO _ om)⟩ om
  | true=>
   refine Jo (ai.ext a7) ?_;refine Jo bj ?_;refine clR (Qhj (hV.ext ag) (Rd.ext hq ag) hqc (hk.ext ag) hkl hqf hq2 (hT.ext bp) cw cx om) ?_;rintro u w8 ⟨val,fo,sn,rfl,cp,be,bd,a5⟩;rw[<-a4]at be bd;have df:sn<=C:=by
    rw[hC];exact nL a5 (nO _ (Qkd cv))
   refine Jw (cs:=V0.cells) Vf ?_;intro w9 da J cc cn;refine Qf (cs':=val.cells) cn ?_ (V.one _);intro bn aa dh bw;have b6:Ext w8 bn:=bw w8 J cc;have Z:=(a7.trans cp).trans b6;have d3:=ad.trans (GrN.ext Z);have aq:=a3.ext Z;have bi:=ai.ext Z;have ay:st+sn<=(i+1)*C:=by rw[Nat.succ_mul];omega
   have bc:D.U.getD k []∈D.M (2^i)->val=O:=λhm=>(bd (b9 hm).1).2;refine ρ ?_;have dd:(st:Int)+(sn:Int)=((st+sn:Nat):Int):=om
   refine Yd (fun (t:Bool)=>[(68,.bool t),(1,.int .i64 (q.length:Int)),(2,.slice QA q.length qc),(3,kv),(4,.pointer (some ⟨b4,0,none⟩)),(8,.pointer (some ⟨b8,0,none⟩)),(11,.pointer (some ⟨aj,0,none⟩)),(12,.bool fd),(13,.int .i64 ((st:Int)+(sn:Int))),(18,.pointer (some ⟨da,0,none⟩)),(22,.int .i64 (D.k:Int)),(23,.int .i64 (i:Int))])
    (λt b3=>Ext bn b3/\(t=true->BestP (D.ds.getD q.length false) O (λj=>D.U.getD k []∈D.M (2^j)) (i+1) true val)/\(t=false->BestP (D.ds.getD q.length false) O (λj=>D.U.getD k []∈D.M (2^j)) (i+1) fd a1)) ?_ ?_
   .cases fo with
    | false=>
     refine ρ ?_;exact Jf false sB ⟨Ext.refl _,λh=>(by cases h),λ_=>a6.skip λhm=>by have:=(bd (b9 hm).1).1;cases this⟩
    | true=>
     cases fd with
     | false=>
      refine ρ ?_;exact Jf true sB ⟨Ext.refl _,λ_=>a6.take (be rfl) bc (.inl rfl),λh=>(by cases h)⟩
     | true=>
      refine Jo bi ?_;refine Jl (cs:=val.cells) (λj u hu=>aa.at hu) ?_;refine Jl (cs:=a1.cells) (λj u hu=>aq.at hu) ?_;refine clR (Qhk (hV.ext (a9.trans Z)) hqf val a1) ?_;rintro u b3 ⟨rfl,bs⟩;refine ρ ?_;refine Jf _ sB ⟨bs,λh=>a6.take (be rfl) bc (.inr (oT h)),λh=>a6.keep bc (by have:=oF h;omega)⟩
   rintro dk b3 ⟨a8,d7,d6⟩;have af:=Z.trans a8;have ah:=ad.trans (GrN.ext af);have ab:=a3.ext af;refine ciR (λh=>?_) (λh=>?_)
   .refine Jl (cs:=val.cells) (λj u hu=>(aa.ext a8).at hu) ?_;refine Qf (cs':=val.cells) ab ?_ (V.one _);intro dj ap c9 db;refine ρ ?_;refine Jh (i+1) (true,st+sn) sO ⟨li,ah.trans (GrN.by c9 λj hj=>by injection hj with hj;exact hj.symm),⟨val,ap,d7 h⟩,ay⟩ om
   refine ρ ?_;refine Jh (i+1) (fd,st+sn) sO ⟨li,ah,⟨a1,ab,d6 h⟩,ay⟩ om
 have cz:i=D.k:=by have:=oF h;omega
 subst cz;obtain⟨d5,d4⟩:=a6.has ⟨i0,d0,bb⟩;subst d5;subst d4;have ch:=Jv cj ad om;refine Jl (cs:=a1.cells) (λj u hu=>a3.at hu) ?_;refine Qf (cs':=a1.cells) ch ?_ (V.one _);intro w7 cg d1 am;refine ρ ?_;exact Jkm cg ⟨st,rfl,am w a9 om,ao⟩
open Go.RowKit Pl Go.Wk
variable {cs:List Value}{Sz k m n:Nat}{D:UD}{w:World}
theorem cmpN_ge: 0<=Vr n m↔m<=n:=by
 unfold Vr;grind
theorem Qhn{kv:Value}(hV:UnV w D cs)(hk:NatV w kv k)(hS:∀ i,i<D.k->∀ v,v<D.f->∀ key,(trK (D.BB (2^i-1) v) key).sz<=Sz)(hS2:Sz<=65536)(hf:D.f<=32):
  Ret Tryz.prog 16 [.agg cs.toArray,kv] w λu w'=>Ext w w'/\(D.U.length<=k->u=.tuple #[.slice none 0 0,.int .i64 0,.int .i64 3]) /\
   (k<D.U.length->∃(A:Option Addr) (c st:Nat),u=.tuple #[.slice A (D.U.getD k []).length c,.int .i64 (st:Int),.int .i64 0]/\RdR w' A (D.U.getD k [])/\(D.U.getD k []).length<=c/\st<=D.f*(D.k*(Je Sz*(D.n*D.Hm)))):=by
 have n7:=hV.n7;have ar:=hV.up.k3;obtain⟨DA,dc,MA,mc,SA,sl,sc,rfl,h2,h3,h4,h5,h6⟩:=id hV.ex;have aq:Je Sz<=17:=Kj om;have bd:D.n*D.Hm<=7*10000000:=Nat.mul_le_mul n7 hV.hl;obtain⟨C,hC⟩:∃ C,C=D.k*(Je Sz*(D.n*D.Hm)):=⟨_,rfl⟩;have ay:C<=3*(17*70000000):=by rw[hC];exact Nat.mul_le_mul ar (Nat.mul_le_mul aq om)
 rw[<-hC];refine enE Tryz.func16 Tryz.ntmps16 ?_;refine bxR ?_;intro w1 b2 a2 bc ai;refine ldR (ai.at (i:=4) rfl) ?_;refine clR (Ib (hk.ext a2) (h6.ext a2)) ?_;rintro u w2 ⟨rfl,a9⟩;have O:=a2.trans a9;refine ciR (λh=>?_) (λh=>?_)
 .have b7:D.U.length<=k:=cmpN_ge.1 (oT h);refine ρ ?_;exact Vn ⟨O,λ_=>rfl,λh=>absurd h om⟩
 have ac:k<D.U.length:=by
  have:=oF h;rcases Nat.lt_or_ge k D.U.length with h1|h1
  .exact h1
  exact absurd (cmpN_ge.2 h1) this
 clear h;have ax:D.U.getD k []∈D.U:=getD_mem' [] _ ac;have af:=hV.up.len _ ax;obtain⟨r,hr⟩:∃ r,r=D.U.getD k []:=⟨_,rfl⟩;rw[<-hr]at af ⊢;have Z:=ai.ext a9;refine Qd Im ?_;intro w3 b3 a8 aw b1;have ah:=Z.ext a8;refine ldR (ah.at (i:=1) rfl) ?_;refine ρ ?_;refine Zj (fun (v:Nat) (pv:Value) (st:Nat)=>[(1,kv),(2,.pointer (some ⟨b2,0,none⟩)),(7,pv),(8,.int .i64 (st:Int)),(20,.int .i64 (D.f:Int)),(21,.int .i64 (v:Int))])
  (λv pv st w'=>v<=D.f/\Ext w2 w'/\w'.ownsRow w2.heap.size 118 3 pv v (Jp (r.take v))/\st<=v*C) (λv _ _=>D.f-v) 0 (.slice (some ⟨b3,0,none⟩) 0 0) 0 sB
  ⟨Nat.zero_le _,a8,b1.own (n:=0) aw rfl (Nat.zero_le _),Nat.zero_le _⟩ ?_
 rintro v pv st w4 ⟨hv,o,a4,ab⟩;have J:=O.trans o;have ag:=Z.ext o;obtain⟨A3,c3,rfl,ba,av⟩:=Jb a4;have b4:st<=32*(3*(17*70000000)):=nL ab (Nat.mul_le_mul om ay);have a3:(r.take v).length=v:=by rw[List.length_take];omega
 have a5:RdR w4 A3 (r.take v):=by
  have:=Rd.own a4;exact(by rw[a3];exact this:Rd w4 3 A3 (r.take v).length (Jp (r.take v)))
 refine ciR (λh=>?_) (λh=>?_)
 .have lv:v<D.f:=by have:=oT h;omega
  clear h;refine Jo ag ?_;refine ρ ?_;have ad:=Qhl (q:=r.take v) (qc:=c3) (hV.ext J) a5 om (hk.ext J) ac om (by rw[a3,hr]) hS hS2;rw[a3,<-hC,<-hr]at ad;refine cl ad ?_;rintro u w5 ⟨sn,rfl,an,b5⟩;refine Jw (cs:=V0.cells) Vf ?_;intro w6 be am ae aj;refine Qf (cs':=(r.getD v V0).cells) aj ?_ (V.one _);intro w7 a6 b9 ak;have a7:Ext w5 w7:=ak w5 am ae;have G:=an.trans a7;refine Jl (cs:=(r.getD v V0).cells) (λj u hu=>a6.at hu) ?_;refine Qd (Jwb _) ?_;intro w8 b8 a1 bb az;refine ρ ?_;refine apb (m':=1) (news:=Jp [r.getD v V0]) EV (Jk a4 (G.trans a1)) (az.rd (n:=1) rfl) (Jzj _) (by unfold maxLen;omega) om ((o.trans G).trans a1).size ?_;intro v9 w9 ap au b6;have aa:st+sn<=(v+1)*C:=by rw[Nat.succ_mul];omega
  have e:r.take (v+1)=r.take v++[r.getD v V0]:=Qr V0 om;refine ρ ?_;refine Xx (v+1) v9 (st+sn) sO ⟨lv,Qt ((o.trans G).trans a1) au (λg eg=>(av g eg).1),?_,aa⟩ om;rw[e,rowC_app'];exact ap
 have ao:v=D.f:=by have:=oF h;omega
 clear h;subst ao;rw[show r.take D.f=r from List.take_of_length_le om]at a5;refine ρ ?_;refine Vn ⟨J,λh=>absurd h om,λ_=>⟨A3,c3,st,?_,a5,om,ab⟩⟩;rw[af]
theorem UnV.sz(h:UnV w D cs): ∀ i,i<D.k->∀ v,v<D.f->∀ key,(trK (D.BB (2^i-1) v) key).sz<=65536:=λi hi v j key=>by
 have u:2^i<2^D.k:=Nat.pow_lt_pow_right om hi;have o:=Nat.one_le_two_pow (n:=i);exact(h.ix _ (by unfold UD.n;omega)).ip.siz v key
theorem UnV.f32{w:World}{D:UD}{cs:List Value}(h:UnV w D cs): D.f<=32:=by
 have j:=h.up.k1;have i:2^1<=2^D.k:=by grind
 exact(h.ix 0 (by unfold UD.n;omega)).ip.f32
end Go.Proofs.YtbcdghbonlifdaaGreatDoor
