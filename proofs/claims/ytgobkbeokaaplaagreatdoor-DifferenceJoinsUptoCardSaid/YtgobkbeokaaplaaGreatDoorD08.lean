/- Part 8. -/
import Derived.Test.YtgobkbeokaaplaaGreatDoorD07
import Derived.OpenShut
set_option linter.unusedVariables false
set_option maxRecDepth 100000
set_option maxHeartbeats 40000000
namespace Go.Proofs.YtgobkbeokaaplaaGreatDoor
open Go.RowKit Pl Go.Wk
attribute [local irreducible] WC WL QX WD WDB WP WN WG WH WM
variable {cs:List Value}{b n st t:Nat}{cu v x:Value}{w:World}
theorem Qpp(h:NatV w v n)(hB:Blk w b t cs)(hs:∀ u∈cs,∀ z,u≠.int .u32 z): Off (λk=>k=b) w λu=>NatV u v n:=by
 obtain⟨A,c,rfl,j,O,J⟩:=h;refine(Jwf J λh0 G e (e2:G.block=b)=>?_).imp λu Z=>⟨A,c,rfl,j,O,Z⟩;obtain⟨a2,D,a1,i⟩:=J.2 h0;rw[e]at D;injection D with D
 subst D;rw[Qbf]at h0;have j:=i 0 _ (Xe h0);rw[add_zero]at j;have O:=World.cell?_spot j;have h5:G=⟨b,G.off,none⟩:=by
  obtain⟨qb,qo,qs⟩:=G;grind
 rw[h5,hB.cell]at j;grind
theorem CuV.off{p:Nat}(h:CuV w x cu p st)(hB:Blk w b t cs)(hs:∀ u∈cs,∀ z,u≠.int .u32 z): Off (λk=>k=b) w λu=>CuV u x cu p st:=by
 obtain⟨A1,A2,A3,A4,A5,J,G,D,j,i,c1,c2,c3,c4,c5,pv,h1,h2,Z⟩:=h;exact(Qpp Z hB hs).imp λu O=>⟨A1,A2,A3,A4,A5,J,G,D,j,i,c1,c2,c3,c4,c5,pv,h1,h2,O⟩
theorem CuV.parts{A B C D E:Option Addr}{a c d e a' b' c' d' e':Nat}{p:Nat}(h:CuV w (.agg #[.slice A a a',.slice B b b',.slice C c c',.slice D d d',.slice E e e']) cu p st):
  ∃ Q q,cu=.agg #[.slice A a a',.slice B b b',.slice C c c',.slice D d d',.slice E e e',.slice Q (Jq p).length q,.int .i64 (st:Int)]:=by
 obtain⟨A1,A2,A3,A4,A5,O,J,G,u,j,c1,c2,c3,c4,c5,pv,h1,Z,i⟩:=h;obtain⟨Q,q,rfl,_⟩:=id i;grind
theorem FewS.p{c:Cse}(h:FewS c): FewP c:=⟨h.row,h.cnt,.inl h.n6,h.v5,h.r5⟩
def SF.of(b n:Nat)(p:World->Value->Prop): SF:=⟨λv w=>∃ A c,v=.slice A n c/\Off (λk=>k=b) w λu=>p u v,λ⟨A,c,e,h1⟩ hx=>⟨A,c,e,h1.ext hx⟩⟩
theorem RowsV.off{L:List Row}(h:RowsV w v L)(hf:∀ ad m c,v=.slice (some ad) m c->ad.block≠b)(hB:Blk w b t cs)(hs:∀ u∈cs,∀ s,u≠.string s): Off (λk=>k=b) w λu=>RowsV u v L:=by
 obtain⟨ps,A,c,rfl,rfl,J,G,D,j⟩:=h;exactλW i=>⟨ps,A,c,rfl,rfl,J,G,Vb D i (λ_ ad e=>hf ad _ _ (by rw[e])),λp hp=>by
  obtain⟨A',c',e1,e2,Z,O⟩:=j p hp;exact⟨A',c',e1,e2,Z,(Jtm O hB hs) W i⟩⟩
end Go.Proofs.YtgobkbeokaaplaaGreatDoor
namespace Go.Proofs.YtgobkbeokaaplaaGreatDoor
open Go.RowKit Pl Go.Wk
namespace Pl
variable {m:Nat}
def rkS(X:IX)(ds:List Bool)(q:Row): Nat->Nat
 | 0=>0
 | m+1=>rkS X ds q m+bef (ds.getD m false) (q.getD m V0) (X.E m (X.key m (q.take m)))*X.others m (q.take m)
section
variable {X:IX} {ds:List Bool} {q:Row}
theorem Jgd(h:X.Srt ds)(hm:m<q.length)(hg:X.Gp (q.take m)): X.Gp (q.take (m+1))↔q.getD m V0∈(X.E m (X.key m (q.take m))).map (·.1):=by
 have j:(q.take m).length=m:=by grind
 have e:q.take (m+1)=q.take m++[q.getD m V0]:=by grind [List.take_succ_eq_append_getElem,List.getD]
 constructor
 .intro i;have u:=i m (by grind);grind
 repeat grind [AX.Gp.snoc]
theorem rk_inv(h:X.Srt ds)(hok:X.Ok)(hq:q.length<=X.F): ∀ m,m<=q.length->X.Gp (q.take m)->Zx ds (X.ext X.F []) q=rkS X ds q m+Zx ds (X.ext (X.F-m) (q.take m)) q
 | 0,_,_=>by simp[rkS]
 | m+1,hm,hg=>by
  have hg':X.Gp (q.take m):=by
   have:=hg.pre m;grind
  have hl:(q.take m).length=m:=by grind
  have ih:=rk_inv h hok hq m om hg';have hmem:=(Jgd h om hg').1 hg;have e:X.F-m=(X.F-(m+1))+1:=om
  have h1:=h.cnt_step hok (n:=X.F-(m+1)) (y:=q.take m) (q:=q) (by rw[hl];omega) hq (by rw[hl];omega) (by rw[hl]);grind [V0,List.take_succ_eq_append_getElem,List.getD,rkS]
theorem rk_stop(h:X.Srt ds)(hok:X.Ok)(hq:q.length<=X.F)(hm:m<q.length)(hg:X.Gp (q.take m))(hn:¬ X.Gp (q.take (m+1))): Zx ds (X.ext X.F []) q=rkS X ds q (m+1):=by
 have j:(q.take m).length=m:=by grind
 have e:X.F-m=(X.F-(m+1))+1:=om
 have u:=h.cnt_step hok (n:=X.F-(m+1)) (y:=q.take m) (q:=q) (by rw[j];omega) hq (by rw[j];omega) (by rw[j]);rw[j]at u;rw[if_neg λi=>hn ((Jgd h hm hg).2 i)]at u;rw[rk_inv h hok hq m om hg,e,u,rkS,Nat.add_zero]
theorem rk_end(h:X.Srt ds)(hok:X.Ok)(hq:q.length<=X.F)(hg:X.Gp q): Zx ds (X.ext X.F []) q=rkS X ds q q.length:=by
 have:=rk_inv h hok hq q.length (nR _) (by grind);rw[this,List.take_length,AX.cnt_end,Nat.add_zero]
end
end Pl
theorem Xxp(ds:List Bool)(L:List Row)(q:Row): Zx ds L q<=L.length:=List.length_filter_le _ _
section
variable {f:Nat} {ds:List Bool} {kf:Nat->Nat} {pf:Nat->Int} {BB:Nat->List BkT} {tot:Nat} {L:List Row}
theorem IxP.rk_inv(ip:IxP f ds kf pf BB tot L)(ne:tot≠0){q:Row}(hq:q.length<=f){m:Nat}(hm:m<=q.length)(hg:(Xk f kf pf BB).Gp (q.take m)): rkS (Xk f kf pf BB) ds q m<=L.length:=by
 have j:=Pl.rk_inv (ip.srt ne) (ip.ok ne) (q:=q) hq m hm hg;have i:=Xxp ds L q;rw[ip.ans ne]at i ⊢;grind [Xk,kf]
theorem IxP.rk_stop(ip:IxP f ds kf pf BB tot L)(ne:tot≠0){q:Row}(hq:q.length<=f){m:Nat}(hm:m<q.length)(hg:(Xk f kf pf BB).Gp (q.take m))(hn:¬ (Xk f kf pf BB).Gp (q.take (m+1))): Zx ds L q=rkS (Xk f kf pf BB) ds q (m+1):=by
 rw[ip.ans ne];exact Pl.rk_stop (ip.srt ne) (ip.ok ne) hq hm hg hn
theorem IxP.rk_end(ip:IxP f ds kf pf BB tot L)(ne:tot≠0){q:Row}(hq:q.length<=f)(hg:(Xk f kf pf BB).Gp q): Zx ds L q=rkS (Xk f kf pf BB) ds q q.length:=by
 rw[ip.ans ne];exact Pl.rk_end (ip.srt ne) (ip.ok ne) hq hg
theorem IxP.wi_len(ip:IxP f ds kf pf BB tot L)(ne:tot≠0){y:Row}(hy:y.length<=f)(hg:(Xk f kf pf BB).Gp y): (wiL L y).length=(Xk f kf pf BB).pend y.length y:=by
 rw[ip.wi_some ne hy hg];exact(ip.ok ne).ext_len _ y (by show y.length+(f-y.length)=f;omega)
end
open Go.RowKit Pl Go.Wk
section
variable {ds:List Bool} {L:List Row} {p:Row}
theorem Xxn{f:Nat}(hl:∀ x∈L,x.length=f)(hp:p.length=f): Zx ds L p=(L.filter λx=>decide (Jw x p ds<0)).length:=by grind [Zx,List.filter_congr,List.take_length]
end
open Go.RowKit Pl Go.Wk
attribute [local irreducible] WC WL QX WD WDB WP WN WG WH WM
variable {M' b b2 b3 b5 b6 k pc:Nat}{PA:Option Addr}{q:Row}
structure RkM(K:SeK)(w:World)(y:Row)(S:Nat->Bool)(M m:Nat)(fm:Lit->Option Value): Prop where
 gr:GrN (λk=>k=K.mb) K.w1 w
 map:MapS Tryz.prog 3 w K.mb m fm
 mle:m<=M
 pd:PdF K y S fm
def RkV(K:SeK)(w:World)(y:Row)(S:Nat->Bool)(M:Nat): Prop:=∃ m fm,RkM K w y S M m fm
structure RkB(K:SeK)(b2 b3 b5 b6:Nat)(PA:Option Addr)(pc:Nat)(q:Row): Prop where
 x:Blk K.w1 b2 55 [K.x0,K.x1,K.x2,K.x3,K.x4]
 p:Blk K.w1 b3 59 [.slice PA q.length pc]
 b:Blk K.w1 b5 51 [.slice K.BA K.f K.bc]
 m:Blk K.w1 b6 239 [.map (some K.mb)]
 n2:b2≠K.mb
 n3:b3≠K.mb
 n5:b5≠K.mb
 n6:b6≠K.mb
 row:RdR K.w0 PA q
 le:q.length<=pc
section
variable {K:SeK} {w w':World} {y:Row} {S:Nat->Bool} {M m:Nat} {fm:Lit->Option Value}
theorem RkM.ext(h:RkM K w y S M m fm)(hx:Ext w w'): RkM K w' y S M m fm:=⟨h.gr.trans (GrN.ext hx),h.map.ext hx,h.mle,h.pd⟩
theorem RkV.ext(h:RkV K w y S M)(hx:Ext w w'): RkV K w' y S M:=by obtain⟨m,fm,h⟩:=h;exact⟨m,fm,h.ext hx⟩
theorem RkV.same{S':Nat->Bool}(h:RkV K w y S M)(e:∀ c,c<K.f->S c=S' c): RkV K w y S' M:=by
 obtain⟨m,fm,h⟩:=h;refine⟨m,fm,⟨h.gr,h.map,h.mle,λc i hs=>h.pd.1 c i ((e c i).trans hs),λj u=>?_⟩⟩;obtain⟨c,J,G,D⟩:=h.pd.2 j u;grind
theorem RkV.more(h:RkV K w y S M)(hM:M<=M'): RkV K w y S M':=by
 obtain⟨m,fm,h⟩:=h;exact⟨m,fm,h.gr,h.map,Nat.le_trans h.mle hM,h.pd⟩
theorem RkV.gr(h:RkV K w y S M): GrN (λk=>k=K.mb) K.w1 w:=by obtain⟨m,fm,h⟩:=h;exact h.gr
theorem RkV.off(h:RkV K w y S M)(hg:GrN (λk=>k=b) w w')(hb:K.w1.heap.size<=b)(hF:SeF K): RkV K w' y S M:=by
 obtain⟨m,fm,h⟩:=h;refine⟨m,fm,?_,h.map.gr hg λe=>by have:=hF.m2;omega,h.mle,h.pd⟩;exact((h.gr.mono λk _ h=>(.inl h:k=K.mb∨k=b)).trans (hg.mono λk _ h=>.inr h)).mono λk i h=>h.elim id λe=>by omega
theorem RkV.app(h:RkV K w y S M)(hF:SeF K)(hS:∀ c,c<K.f->S c=true->K.pf c<(y.length:Int))(z:Row): RkV K w (y++z) S M:=by
 obtain⟨m,fm,h⟩:=h;exact⟨m,fm,h.gr,h.map,h.mle,h.pd.app hF hS z⟩
theorem Qxq(hq:k<=q.length): (q.take k).length=k:=by grind
def SF.key(K:SeK)(c:Nat)(y:Row): SF:=⟨λv w=>RowV w v (pmR (bk (K.kf c) 32) y),λh hx=>h.ext hx⟩
def SF.tr(K:SeK)(c:Nat)(y:Row): SF:=⟨λv _=>∃ d p,v=.tuple #[.agg #[.bool d,.pointer p],.bool (Ze (K.BB c) (pmR (bk (K.kf c) 32) y)).isSome]/\TrV (λ_=>False) K.w0 (K.t c y) (.pointer p)/\(K.t c y≠.nil->d=K.ds.getD c false),λh _=>h⟩
def SF.tr2(K:SeK)(c:Nat)(y:Row): SF:=⟨λv _=>∃ d p,v=.agg #[.bool d,.pointer p]/\TrV (λ_=>False) K.w0 (K.t c y) (.pointer p)/\(K.t c y≠.nil->d=K.ds.getD c false),λh _=>h⟩
def SF.tbox(s:Nat): SF:=⟨λv w=>∃ b,v=.pointer (some ⟨b,0,none⟩)/\s<=b/\Blk w b 76 [.bool false,.pointer none],λ⟨b,e,h1,h2⟩ hx=>⟨b,e,h1,h2.ext hx⟩⟩
theorem Jts(hF:SeF K)(hb:RkB K b2 b3 b5 b6 PA pc q)(hV:RkV K w (q.take k) S M)(hM:M<=4096)(hg:K.X.Gp (q.take k))(hkq:k<=q.length)(hkf:k<=K.f){v:Int}(hv:v+1=(k:Int)):
  Ret Tryz.prog 148 [.int .i64 v,.pointer (some ⟨b5,0,none⟩),.pointer (some ⟨b2,0,none⟩),.pointer (some ⟨b3,0,none⟩),.pointer (some ⟨b6,0,none⟩)] w λu w'=>u=.tuple #[]/\GrN (λk=>k=K.mb) w w'/\RkV K w' (q.take k) (λc=>S c || decide (K.pf c=v)) (M+K.f):=by
 have f32:=hF.ip.f32;have a7:=Qxq hkq;refine enE Tryz.func148 Tryz.ntmps148 ?_;refine ldR ((Jc hb.b hV.gr hb.n5).at (i:=0) rfl) ?_;refine ρ ?_;refine Qf (fun (c:Nat)=>[(0,.int .i64 v),(2,.pointer (some ⟨b2,0,none⟩)),(3,.pointer (some ⟨b3,0,none⟩)),(4,.pointer (some ⟨b6,0,none⟩)),(10,.slice K.BA K.f K.bc),(11,.int .i64 (K.f:Int)),(12,.int .i64 (c:Int))])
  (λc w'=>c<=K.f/\GrN (λk=>k=K.mb) w w'/\RkV K w' (q.take k) (λj=>S j || (decide (j<c) && decide (K.pf j=v))) (M+c)) (λc=>K.f-c) 0 sB
  ⟨Nat.zero_le _,GrN.refl _ _,hV.same λc _=>by simp⟩ ?_
 rintro c w1 ⟨hc,aa,a3⟩;refine ciR (λh=>?_) (λh=>?_)
 .have lc:c<K.f:=by have:=oT h;omega
  clear h;have an:=hF.bg w1 a3.gr;refine Qu 3 c an lc ?_;refine Jt (cs:=Qp K.kf K.pf c) (Qvx an lc) ?_;refine Jv Jkp ?_;intro w2 bb az b7 bf;refine Qw (cs':=Qp K.kf K.pf c) bf ?_ Jzd;intro w3 av aj ay;have J:Ext w1 w3:=ay w1 az b7;refine ldR (av.at (i:=2) rfl) ?_;refine ciR (λh=>?_) (λh=>?_)
  .have hp:K.pf c=v:=Zv h;clear h;have a8:Ext w3 w3.drew:=(Ext.refl w3).drew;have aq:=a3.ext J;have ab:=aq.ext a8;have O:=hF.ext ab.gr;have a4:=Jc hb.x ab.gr hb.n2;have be:=Jc hb.p ab.gr hb.n3;have af:RdR w3.drew PA (q.take k):=by
    have:=(Rd.ext hb.row O).take (m:=k) hkq;rw[Jfz q hkq]at this;show Rd _ 3 PA (q.take k).length _;rw[a7];exact this
   have b1:=hF.ip.keyb hF.ne lc (m:=k) (by rw[hp];omega);have ak:=hF.ip.fitK hg c;have am:∀ {d:Bool},((Ze (K.BB c) (pmR (bk (K.kf c) 32) (q.take k))).isSome=true->d=K.ds.getD c false)->K.t c (q.take k)≠.nil->d=K.ds.getD c false:=fun {d} h hne=>h (by
    cases hi:Ze (K.BB c) (pmR (bk (K.kf c) 32) (q.take k)) with
    | none=>exact absurd (Jlm hi) hne
    | some i=>rfl)
   refine ρ ?_;refine drH (λi=>Nat.ble 14 i) ?_;refine Jvb 2 (lst 16 14) (fun (y:Bool×Option Addr×Nat)=>[(32,.agg #[.bool y.1,.pointer y.2.1]),(33,.bool (Ze (K.BB c) (pmR (bk (K.kf c) 32) (q.take k))).isSome),(8,.pointer (some ⟨y.2.2,0,none⟩)),(0,.int .i64 v),(2,.pointer (some ⟨b2,0,none⟩)),(3,.pointer (some ⟨b3,0,none⟩)),(4,.pointer (some ⟨b6,0,none⟩)),(6,.int .i64 (c:Int)),(10,.slice K.BA K.f K.bc),(11,.int .i64 (K.f:Int)),(12,.int .i64 (c:Int))])
    (λy W=>Ext w3.drew W/\Blk W y.2.2 76 [.bool false,.pointer none]/\w3.drew.heap.size<=y.2.2/\TrV (λ_=>False) K.w0 (K.t c (q.take k)) (.pointer y.2.1)/\(K.t c (q.take k)≠.nil->y.1=K.ds.getD c false)) ?_ ?_
   rotate_left
   .intro rest;refine hmkSq 17 12 2 _ (lst 16 14) [0,1,2,3,4,5,6,7,8,9,10,11,12,13] [22,23,24,25,26,27,28,29,30,31,21,32,33,8] [SF.bk a4,SF.eq (.int .i64 (c:Int)),SF.bk a4,SF.eq (.int .i64 (c:Int)),SF.eq (.slice PA q.length pc),SF.eq (.int .i64 v),SF.eq (.int .i64 (k:Int)),SF.eq (.slice PA k pc),SF.key K c (q.take k),SF.tr K c (q.take k),SF.tr K c (q.take k),SF.tr2 K c (q.take k),SF.eq (.bool (Ze (K.BB c) (pmR (bk (K.kf c) 32) (q.take k))).isSome),SF.tbox w3.drew.heap.size] kr (by rfl) ?_ ?_ ?_
    .refine gsc (λvs Z D hd=>?_) ?_
     .simp only[slM];refine ldW (a4.ext D) ?_;refine ρ ?_;exact Ys (Ext.refl _) rfl
     refine gsc (λvs Z D hd=>?_) ?_
     .simp only[slM];refine ρ ?_;exact Ys (Ext.refl _) rfl
     refine gsc (λvs Z D hd=>?_) ?_
     .simp only[slM];refine ldW (a4.ext D) ?_;refine ρ ?_;exact Ys (Ext.refl _) rfl
     refine gsc (λvs Z D hd=>?_) ?_
     .simp only[slM];refine ρ ?_;exact Ys (Ext.refl _) rfl
     refine gsc (λvs Z D hd=>?_) ?_
     .simp only[slM];refine ld ((be.ext D).at (i:=0) rfl) ?_;refine ρ ?_;exact Ys (Ext.refl _) rfl
     refine gsc (λvs Z D hd=>?_) ?_
     .simp only[slM];refine ρ ?_;exact Ys (Ext.refl _) rfl
     refine gsc (λvs Z D hd=>?_) ?_
     .have e5:vs 5=_:=hd 5;simp only[slM,e5];refine ρ ?_;exact Ys (Ext.refl _) (congrArg (Value.int .i64) hv)
     refine gsc (λvs Z D hd=>?_) ?_
     .have e4:vs 4=_:=hd 4;have e6:vs 6=_:=hd 6;have:=hb.le;simp only[slM,e4,e6];refine slh k ?_;refine ρ ?_;exact Ys (Ext.refl _) rfl
     refine gsc (λvs Z D hd=>?_) ?_
     .have e2:vs 2=_:=hd 2;have e3:vs 3=_:=hd 3;have e7:vs 7=_:=hd 7;simp only[slM,e2,e3,e7];have ai:=Jlb (hF.ix.ext (O.trans D)) lc (c:=pc) (Rd.ext af D) (by have:=hb.le;omega) om (by rw[a7];exact b1);rw[a7]at ai;refine cl ai ?_;rintro uk W ⟨⟨KA,kc,rfl,ah,ag,a9,_⟩,hy⟩;exact Jd (Ys hy ⟨KA,kc,rfl,ah,ag,a9⟩)
     refine gsc (λvs Z D hd=>?_) ?_
     .have e0:vs 0=_:=hd 0;have e1:vs 1=_:=hd 1;obtain⟨KA,kc,e8,ah,ag,a9⟩:=hd 8;simp only[slM,e0,e1,e8];refine cl (Jcb (hF.tb.ext (O.trans D)) (O.trans D) hF.ix lc a9 ak) ?_;rintro u W ⟨d,p,rfl,hT,G,hy⟩;exact Jd (Ys hy ⟨d,p,rfl,hT,am G⟩)
     refine gsc (λvs Z D hd=>?_) ?_
     .obtain⟨d,p,e9,hT,G⟩:=hd 9;simp only[slM,e9];refine ρ ?_;exact Ys (Ext.refl _) ⟨d,p,rfl,hT,G⟩
     refine gsc (λvs Z D hd=>?_) ?_
     .obtain⟨d,p,a2,hT,G⟩:=hd 10;simp only[slM,a2];refine ρ ?_;exact Ys (Ext.refl _) ⟨d,p,rfl,hT,G⟩
     refine gsc (λvs Z D hd=>?_) ?_
     .obtain⟨d,p,a2,hT,G⟩:=hd 10;simp only[slM,a2];refine ρ ?_;exact Ys (Ext.refl _) rfl
     refine gsc (λvs Z D hd=>?_) gse
     simp only[slM];refine alc Vn ?_;intro W b9 hy b8 a1;exact Jd (Ys hy ⟨b9,rfl,Nat.le_trans D.size b8,a1⟩)
    .intro vs W hy hf;obtain⟨b9,ac,h9,a1⟩:=hf 13;obtain⟨d,p,ad,hT,G⟩:=hf 11;have bh:vs 12=_:=hf 12;simp only[slM,ac,bh,ad];exact rest (d,p,b9) _ _ ⟨hy,a1,h9,hT,G⟩ sB
    intro _ vs W hy hf;obtain⟨b9,ac,h9,a1⟩:=hf 13;obtain⟨d,p,ad,hT,G⟩:=hf 11;obtain⟨d2,p2,a2,_,_⟩:=hf 10;simp only[slM,ac,ad,a2];refine Ub (fuel':=2) 12 kr kr rfl rfl ?_;refine ρp ?_;refine ρd ?_;refine Xb ?_;refine hlist (listed':=lst 16 14) kr ?_;exact rest (d,p,b9) _ _ ⟨hy,a1,h9,hT,G⟩ sB
   rintro⟨d,p,b9⟩ W ⟨ax,au,ao,hT,hd⟩;simp only at au ao hT hd;refine Zo (fuel':=0) 17 [(2,14),(2,15)] (lst 16 16) kr kr rfl ?_;refine Qq ?_;refine stW au ?_;intro W2 ar bi ae;refine Jd (Qa ?_);refine Qq ?_;refine ρ ?_;refine Qa ?_;refine Ue (Xb ?_);refine Ud kr ?_;have a5:Ext w3 W2:=ae w3 (a8.trans ax) (nL a8.size ao);have ba:=aq.ext a5;obtain⟨m,fm,HW⟩:=id ba;refine ldR ((Jc hb.m HW.gr hb.n6).at (i:=0) rfl) ?_;refine Qk ar ?_;refine ρ ?_;refine mup KI HW.map (by have:=HW.mle;unfold maxLen;omega) (Jqp (c:=c) om) ?_;intro W3 bd aj;have a6:GrN (λk=>k=K.mb) W2 W3:=GrN.by aj λk hk=>by injection hk with hk;exact hk.symm
   have ap:RkV K W3 (q.take k) (λj=>(S j || (decide (j<c) && decide (K.pf j=v))) || decide (j=c)) (M+(c+1)):=⟨_,_,HW.gr.trans a6,bd,by have:=HW.mle;omega,HW.pd.put f32 lc hT hd⟩;refine ρ ?_;refine Qy (c+1) sO ⟨lc,(aa.trans (GrN.ext (J.trans a5))).trans a6,ap.same λj _=>?_⟩ om;by_cases e:j=c
   .subst e;simp[hp]
   have:(decide (j<c+1))=decide (j<c):=by by_cases h1:j<c<;>simp[h1]<;>omega
   rw[this];simp[e]
  have hp:¬ K.pf c=v:=Xo h;clear h;refine ρ ?_;refine Qy (c+1) sO ⟨lc,aa.trans (GrN.ext J),((a3.ext J).same λj _=>?_).more om⟩ om;by_cases e:j=c
  .subst e;simp[hp]
  have:(decide (j<c+1))=decide (j<c):=by by_cases h1:j<c<;>simp[h1]<;>omega
  rw[this]
 have b4:c=K.f:=by have:=oF h;omega
 subst b4;clear h;refine ρ ?_;refine Yt ⟨rfl,aa,a3.same λj hj=>?_⟩;simp[hj]
theorem Jtr(hF:SeF K)(hb:RkB K b2 b3 b5 b6 PA pc q)(hV:RkV K w y S M):
  Ret Tryz.prog 149 [.pointer (some ⟨b6,0,none⟩)] w λu w'=>NatV w' u (K.X.prodS S y)/\Fresh w u/\Ext w w':=by
 have f32:=hF.ip.f32;obtain⟨m,fm,H⟩:=id hV;have a4:=Jc hb.m H.gr hb.n6;obtain⟨g,hg⟩:∃ g:(Lit->Bool)->Nat->Nat,g=λleft c=>if S c=true/\left (.int .i64 (c:Int))=false then K.X.T c y else 1:=⟨_,rfl⟩
 have au:∀ left c,g left c<=4294967296^20:=λleft c=>by
  rw[hg];simp only;split
  .rw[K.T];exact hF.ip.big _ _
  repeat grind
 have aq:∀ left,Nb (Jg K.f (g left)):=λleft=>Nb.pow (k:=K.f) (Jjz (Nat.pow_pos (by decide)) λc _=>au left c) om;refine enE Tryz.func149 Tryz.ntmps149 ?_;refine clR (Jwm 1 (by decide) _) ?_;rintro O w1 ⟨aa,af,J⟩;refine ldR ((a4.ext J).at (i:=0) rfl) ?_;refine ρ ?_;refine rngm KI (H.map.ext J) ?_;intro w2 r cnt a2 a9 ah;have lr:w.heap.size<=r:=nL J.size a9;refine ρ ?_;refine Xn (fun (left:Lit->Bool) (cnt:Nat) (O:Value)=>[(2,O),(7,.pointer (some ⟨r,0,none⟩))])
  (λleft cnt O w'=>Ext w w'/\RgS Tryz.prog 3 w' K.mb r m fm left cnt/\NatX (λk=>k=r) w' O (Jg K.f (g left))/\Fresh w O) (λ_ cnt _=>cnt) _ cnt O sB ⟨J.trans a2,ah,?_,af⟩ ?_
 .have e:Jg K.f (g λkl=>(fm kl).isSome)=1:=Jgk λc hc=>by
   rw[hg];simp only;rw[if_neg];rintro⟨h1,h2⟩;obtain⟨d,p,h3,_⟩:=H.pd.1 c hc h1;rw[h3]at h2;cases h2
  rw[e];exact(NatX.old (N:=λ_=>False) ⟨aa,λ_ _ _ _ _ h=>h⟩ λk hk=>.inr (by rw[hk];exact a9)).ext a2
 clear aa af ah a2 J O cnt;rintro left cnt O w3 ⟨a6,az,a3,av⟩;refine ρ ?_;refine nxtm KI az (λhl=>?_) (λkey v kl w4 ai b4 b7 ae ag ar ab ax=>?_)
 .refine ρ ?_;have e:Jg K.f (g left)=K.X.prodS S y:=Gw λc hc=>by grind
  rw[e]at a3;exact Jj ⟨a3.1,av,a6⟩
 obtain⟨c,hc,a8,rfl⟩:=H.pd.2 kl (by rw[ae];simp);obtain⟨d,p,Z,ht,_⟩:=H.pd.1 c hc a8;rw[ae]at Z;injection Z with Z
 subst Z;have a1:Ext w w4:=ab.old a6 λk hk=>by rw[hk];exact lr
 refine ρ ?_;refine entm ax ?_;refine Jv Vn ?_;intro w5 b5 am ay b1;refine Zk b1 ?_;intro w6 a4 b8 ak;have D:Ext w4 w6:=ak w4 am ay;refine Qk a4 ?_;refine ρ ?_;have a7:Ext K.w0 w6:=(hF.ext H.gr).trans (a1.trans D);refine cl (Jdw (ht.ext a7) (by rw[<-K.T];exact Nb.pow (k:=1) (by rw[Nat.pow_one,K.T];exact hF.ip.big _ _) om)) ?_;rintro ut w7 ⟨an,b9,G⟩;have ap:NatV w7 O (Jg K.f (g left)):=(((a3.gr ab).ext D).ext G).1;refine clR (Jzm ap an (aq left).len (Nb.len (Nb.pow (k:=1) (by rw[Nat.pow_one];exact hF.ip.big _ _) om))) ?_;rintro ur w8 ⟨ao,ac,a5⟩;refine ρ ?_;refine Qt _ ai ur sO ⟨((a1.trans D).trans G).trans a5,((ag.ext D).ext G).ext a5,?_,λad m c e=>?_⟩ ar
 .have aj:r<w7.heap.size:=nM (ag.lt) (D.trans G).size;have e:Jg K.f (g λz=>left z && !z.sameKey (.int .i64 (c:Int)))=Jg K.f (g left)*(K.t c y).sum:=by
   rw[Jwh hc,Jwh (g:=g left) hc];have h1:g left c=1:=by grind
   have h2:g (λz=>left z && !z.sameKey (.int .i64 (c:Int))) c=(K.t c y).sum:=by
    rw[hg];simp only;rw[if_pos ⟨a8,by rw[WideAt.sameKey_self (Jbx om)];simp⟩,K.T]
   rw[h1,h2,Nat.one_mul,Nat.mul_comm];congr 1
   refine Gw λj hj=>?_;by_cases ej:j=c
   .rw[if_pos ej,if_pos ej]
   rw[if_neg ej,if_neg ej,hg];simp only;have:(Lit.int .i64 (j:Int)).sameKey (.int .i64 (c:Int))=false:=Maps.sameKey_ne λe'=>ej (Jbt e');grind
  rw[e];exact ac.x ao λk hk=>by rw[hk];exact aj
 exact nL (((a1.trans D).trans G).size) (ac ad m c e)
end
open Go.RowKit Pl Go.Wk
variable {B0 c m n pc:Nat}{q z:Row}{K:SeK}
def tt2: TT:=(173,{ desc:=.invalid,size:=4,offs:=[0,1,2,3] })::tt
theorem Qdh: TOk Tryz.prog tt2:=⟨⟨_,Tryz.underlying173,kr,kr⟩,Jjn⟩
instance (priority:=2000):Tab Tryz.prog tt2:=⟨Qdh,mixed⟩
theorem Jdh: Qr Tryz.prog 173=some (.agg #[.slice none 0 0,.slice none 0 0,.bool false,.int .i64 0]):=kr
theorem zBags: Qr Tryz.prog 51=some (.slice none 0 0):=kr
theorem zMapT: Qr Tryz.prog 239=some (.map none):=kr
theorem Jsb{g:Nat->Nat}(h:n<=m): Qc n g<=Qc m g:=by
 induction h with
 | refl=>exact nR _
 | step h ih=>rw[Qc];omega
theorem Jcw(d:Bool)(v:V): ∀ t:Tr,Tr.befT d v t<=t.sum
 | .nil=>nR _
 | .node l a y r=>by
  have h1:=Jcw d v l;have h2:=Jcw d v r;rw[Tr.befT,Tr.sum];grind
theorem SeF.bef(hF:SeF K)(hc:c<K.f){d:Bool}(hd:K.t c z≠.nil->d=K.ds.getD c false)(v:V):
  Tr.befT d v (K.t c z)=bef (K.ds.getD c false) v (K.X.E c (K.X.key c z)):=by
 rw[K.E];by_cases h:K.t c z=.nil
 .rw[h];rfl
 have hs:Jjk d (K.t c z).toL:=by
  rw[hd h,<-K.E];exact(hF.ip.srt hF.ne).srt c hc _
 rw[(Tr.befT_eq hs).1,hd h]
theorem SeF.onb(hF:SeF K)(m:Nat)(z:Row): Nb (K.X.others m z):=by
 refine Nb.pow (k:=K.f) (Jjz (Nat.pow_pos (by decide)) λc _=>?_) hF.ip.f32;split
 .rw[K.T];exact hF.ip.big _ _
 repeat grind
theorem SeF.rk_le(hF:SeF K)(hq:q.length<=K.f)(hm:m<=q.length)(hg:K.X.Gp (q.take m)): Nb (rkS K.X K.ds q m) :=
 hF.ip.nbT.le (by have:=hF.ip.rk_inv hF.ne hq hm hg;rw[hF.ip.len];exact this)
section
variable {f:Nat} {ds:List Bool} {kf:Nat->Nat} {pf:Nat->Int} {BB:Nat->List BkT} {tot:Nat} {L:List Row}
theorem Xqs{w:World}{x:Value}{PA:Option Addr}(tb:TB B0 w)(ix:IxV w x f ds kf pf BB tot)(ip:IxP f ds kf pf BB tot L)(ne:tot≠0)(hq:RdR w PA q)(hqc:q.length<=pc)(hqf:q.length<=f):
  Ret Tryz.prog 92 [x,.slice PA q.length pc] w λu w'=>∃(bv cv:Value) (st:Nat),u=.agg #[bv,cv,.bool (decide (0<(wiL L q).length)),.int .i64 (st:Int)]/\NatV w' bv (Zx ds L q)/\NatV w' cv (wiL L q).length/\(st<=Qc f λv=>hmB (BB v))/\Ext w w':=by
 obtain⟨DA,dc,BA,cb,KA,ck,g6,cp,tv,gm,gh,rfl,gy,gz,hD,hB,hK,hP,f7,gn⟩:=id ix.ex;obtain⟨TA,tc,rfl,_⟩:=id f7;have f32:=ip.f32;refine enE Tryz.func92 Tryz.ntmps92 ?_;refine bxR ?_;intro w1 b2 f5 h6 d0;refine bxR ?_;intro w2 b3 bc h5 el;refine Jv Jdh ?_;intro w3 b4 ah h4 ej;have db:=f5.trans bc;have an:=db.trans ah;refine Qk ((d0.ext bc).ext ah) ?_;refine clR (Jld (ix.ext an)) ?_;rintro u w4 ⟨⟨A,c,rfl,hc,hR,hf⟩,a7⟩;refine Jv zBags ?_;intro w5 b5 f4 fp g2;refine ρ ?_;refine Kc g2 ?_ rfl;intro w6 c1 gu f3;have a1:Ext w4 w6:=f3 w4 f4 fp;refine ρ ?_;refine mkm 3 ?_;intro w7 mb d9 gt hM;refine Jv zMapT ?_;intro w8 b6 f2 fo g1;refine ρ ?_;refine Kc g1 ?_ rfl;intro w9 eg du f0;have ak:Ext w7 w9:=f0 w7 f2 fo;have bh:=d9.trans ak;have a6:=a1.trans bh;have bi:=an.trans (a7.trans a6);have ec:=hM.ext ak;have em:=((d0.ext bc).ext ah).ext (a7.trans a6);have ek:=(el.ext ah).ext (a7.trans a6)
 have ei:=ej.ext (a7.trans a6);have eh:=c1.ext bh;have gi:=hM.lt;have l1:=d0.lt;have l2:=el.lt;have l3:=ej.lt;have l5:=c1.lt;have z1:=(bc.trans (ah.trans (a7.trans a1))).size;have z2:=(ah.trans (a7.trans a1)).size;have z3:=(a7.trans a1).size;have z4:=a1.size;have z7:=d9.size;have g8:=ak.size;have z0:=(an.trans (a7.trans a1)).size;have ga:=bi.size;obtain⟨K,b7⟩:∃ K:SeK,K=⟨B0,w,w9,mb,w9.heap.size,.slice DA f dc,.slice BA f cb,.slice KA f ck,.slice g6 f cp,.slice TA (Jq tot).length tc,A,c,f,ds,kf,pf,BB,tot,L⟩:=⟨_,rfl⟩;have e4:Off (λk=>k=mb) w9 (λu=>Rd u 3 A f (Qo f (Qp kf pf))):=Jwf (hR.ext a6) λh0 ad e (e2:ad.block=mb)=>by
  obtain⟨h7,e',fd⟩:=hR.2 h0;rw[e]at e';injection e' with e'
  have:=fd.1;rw[<-e']at this;omega
 have D:SeF K:=by
  subst b7;exact⟨tb,ix,ip,ne,bi,by show w.heap.size<=mb;omega,ec.lt,Nat.le_refl _,hc,e4,Qqg⟩
 have O:RkB K b2 b3 b5 b6 PA pc q:=by
  subst b7;exact⟨em,ek,eh,eg,by show b2≠mb;omega,by show b3≠mb;omega,by show b5≠mb;omega,by show b6≠mb;omega,hq,hqc⟩
 have fu:RkV K w9 (q.take 0) (λ_=>false) 0:=by
  subst b7;exact⟨0,λ_=>none,GrN.refl _ _,ec,Nat.le_refl _,λc _ h=>(by cases h),λkl h=>absurd rfl h⟩
 have g3:K.f=f/\K.ds=ds/\K.kf=kf/\K.pf=pf/\K.BB=BB/\K.tot=tot/\K.L=L/\K.w1=w9/\K.w0=w/\K.mb=mb:=by subst b7;exact⟨rfl,rfl,rfl,rfl,rfl,rfl,rfl,rfl,rfl,rfl⟩
 obtain⟨rfl,rfl,rfl,rfl,rfl,rfl,rfl,f6,ca,bn⟩:=g3;clear b7;have dj:∀ c,c<K.f->K.pf c<(c:Int):=λc hc=>(D.ip.par ne hc).2;have fg:K.X.Ok:=D.ip.ok ne;have ff:∀ v z,(K.t v z).ht<=hmB (K.BB v):=λv z=>Jrr _ _;have dn:∀ v z,(K.t v z).ht<=65536:=λv z=>nL (Tr.ht_le _) (D.ip.siz _ _);have bl:∀ v z,Nb (K.t v z).sum:=λv z=>Nb.pow (k:=1) (by rw[Nat.pow_one];exact D.ip.big _ _) om;have df:∀ v z,(K.t v z).sz<=1000000:=λv z=>nL (D.ip.siz _ _) (by decide);refine Jv Jdh ?_;intro ge G am fn ef;refine ρ ?_;refine clv (Jts (k:=0) D O (fu.ext am) om (AX.Gp.nil) (Nat.zero_le _) (Nat.zero_le _) (v:=-1) rfl) ?_;rintro u gd ⟨rfl,ay,b1⟩;have l9:=ef.lt;have g9:=am.size;have n9:¬ G=K.mb:=by rw[bn];omega
 have n4:¬ b4=K.mb:=by rw[bn];omega
 have ba:=Jc ef ay n9;have bb:=Jc (ei.ext am) ay n4;have d3:b4≠G:=om
 have d2:K.w1.heap.size<=G:=by rw[f6];exact fn
 refine ldR ((Jc O.p b1.gr O.n3).at (i:=0) rfl) ?_;refine ρ ?_;refine Xn (fun (i:Nat) (bv:Value) (st:Nat)=>[(4,.pointer (some ⟨b4,0,none⟩)),(6,.pointer (some ⟨b6,0,none⟩)),(7,.func (.func 148) #[] #[.pointer (some ⟨b5,0,none⟩),.pointer (some ⟨b2,0,none⟩),.pointer (some ⟨b3,0,none⟩),.pointer (some ⟨b6,0,none⟩)]),(8,.func (.func 149) #[] #[.pointer (some ⟨b6,0,none⟩)]),(9,.pointer (some ⟨G,0,none⟩)),(23,.slice PA q.length pc),(24,.int .i64 (q.length:Int)),(25,.int .i64 (i:Int))])
  (λi bv st w'=>i<=q.length/\K.X.Gp (q.take i)/\RkV K w' (q.take i) (pS K.pf i i) (32*(i+1))/\Blk w' G 173 [bv,.slice none 0 0,.bool false,.int .i64 (st:Int)]/\Blk w' b4 173 [.slice none 0 0,.slice none 0 0,.bool false,.int .i64 0]/\NatX (λk=>k=K.mb∨k=G∨k=b4) w' bv (rkS K.X K.ds q i)/\(st<=Qc i λv=>hmB (K.BB v))/\st<=65536*i) (λi _ _=>q.length-i) 0 (.slice none 0 0) 0 sB
  ⟨Nat.zero_le _,AX.Gp.nil,?_,ba,bb,NatX.nil _,Nat.le_refl _,Nat.le_refl _⟩ ?_
 .refine(b1.same λc hc=>?_).more om;have:=D.ip.par ne hc;unfold pS;rw[Bool.eq_iff_iff];simp only[Bool.or_eq_true,Bool.and_eq_true,decide_eq_true_eq];constructor
  .rintro(h|h)
   .cases h
   exact⟨Nat.zero_le _,om⟩
  rintro⟨_,h⟩;right;omega
 clear ba bb b1 ay;rintro i bv st v5 ⟨hi,ai,ab,cz,cw,az,fa,gq⟩;have cm:(q.take i).length=i:=Qxq hi;have da:=D.ext ab.gr;refine ciR (λh=>?_) (λh=>?_)
 .have li:i<q.length:=by have:=oT h;omega
  have aa:i<K.f:=om
  clear h;have di:=Rd.ext hq (ca ▸ da);refine Qu 3 i di li ?_;refine Jt (cs:=(q.getD i V0).cells) (λj u' ch=>RdR.cell di li ch) ?_;refine Jv (cs:=V0.cells) Gj ?_;intro v6 g5 ag e6 c3;refine Qw (cs':=(q.getD i V0).cells) c3 ?_ (V.one _);intro v7 g0 dv ez;have aj:Ext v5 v7:=ez v5 ag e6;have fr:=ab.ext aj;obtain⟨m0,fm,H⟩:=id fr;obtain⟨d,p,fj,hT,hd⟩:=H.pd.1 i aa (by unfold pS;simp[dj i aa]);refine ldR ((Jc O.m H.gr O.n6).at (i:=0) rfl) ?_;refine ρ ?_;refine mlk KI H.map Qbk (Jqp (c:=i) om) ?_;rw[fj];refine Jv Vn ?_;intro v8 g4 ey e5 c2;refine Zk c2 ?_;intro v9 d1 bp c7;have ac:Ext v7 v9:=c7 v7 ey e5;have H9:=H.ext ac;refine ldR ((Jc O.m H9.gr O.n6).at (i:=0) rfl) ?_;refine ρ ?_;refine mdn KI H9.map (Jqp (c:=i) om) ?_;intro c5 ed dw;have a3:GrN (λk=>k=K.mb) v9 c5:=GrN.by dw λk hk=>by injection hk with hk;exact hk.symm
  have g7:K.mb<v7.heap.size:=H.map.lt;have bo:K.mb<v5.heap.size:=nM D.m2 ab.gr.size;have gl:=c3.lt;have gc:=aj.size;have gb:=ac.size;have gk:=c2.lt;have eu:¬ g5=K.mb:=om
  have et:¬ g4=K.mb:=om
  have br:RkV K c5 (q.take i) (pS K.pf (i+1) i) (32*(i+1)):=RkV.same ⟨_,_,H9.gr.trans a3,ed,H9.mle,H9.pd.drop D.ip.f32 aa⟩ λc _=>Jgr;have bf:=Jc (g0.ext ac) a3 eu;have be:=Jc d1 a3 et;have a4:GrN (λk=>k=K.mb) v5 c5:=((GrN.ext aj).trans (GrN.ext ac)).trans a3;have ee:=Jc cz a4 n9;have bw:=Jc cw a4 n4;have cq:=az.gr (a4.mono λk _ h=>.inl h);refine Qk be ?_;refine Jt (cs:=(q.getD i V0).cells) (λj u' ch=>bf.at ch) ?_;refine ρ ?_;have c9:=D.ext br.gr;refine cl (Qvr (hT.ext c9) (bl _ _) (df _ _)) ?_;rintro u c4 ⟨sv,e,rfl,he,f9,d8⟩;have c6:Ext c4 c4.drew:=(Ext.refl c4).drew;have Z:=d8.trans c6;have e7:=br.ext Z;have cx:=ee.ext Z;have e0:=cq.ext Z;have gx:=ff i (q.take i);have gw:=dn i (q.take i);refine ρ ?_;refine drN (λ_=>False) 10 (scq 9 [4,5,6,108]) kr ?_;refine ρn ?_;refine nld (λw' hg=>(cx.ext hg.toExt).at (i:=0) rfl) ?_;refine ρn ?_;refine nop ?_;refine clv (Jtr D O e7) ?_
  rw[Qjm];rintro pv er ⟨fc,_,J⟩;refine ρ ?_;refine Qj (GrN.ext J) ?_;refine ρn ?_;refine nop ?_;have dg:=(f9.ext c6).ext J;refine cl (Jzm dg fc ((bl i (q.take i)).le (Jcw _ _ _)).len (D.onb _ _).len) ?_;rintro mv gf ⟨dm,_,ae⟩;rw[D.bef aa hd]at dm;refine ρ ?_;refine Qj (GrN.ext ae) ?_;refine ρn ?_;refine nop ?_;have co:=((e0.ext J).ext ae).1;have cj:Nb (bef (K.ds.getD i false) (q.getD i V0) (K.X.E i (K.X.key i (q.take i)))*K.X.others i (q.take i)):=by
   refine(D.pnb i (q.take i)).le ?_;have h1:=fg.pend_split (y:=q.take i) (by rw[cm];exact aa);rw[cm]at h1;rw[h1,<-D.bef aa hd,K.T];exact nO _ (Jcw _ _ _)
  refine cl (Gt co dm (D.rk_le hqf hi ai).len cj.len) ?_;rintro gg d5 ⟨aq,dx,bg⟩;have fb:rkS K.X K.ds q i+bef (K.ds.getD i false) (q.getD i V0) (K.X.E i (K.X.key i (q.take i)))*K.X.others i (q.take i)=rkS K.X K.ds q (i+1):=rfl;rw[fb]at aq;obtain⟨ZA,zc,rfl,_⟩:=id aq;refine ρ ?_;refine Qj (GrN.ext bg) ?_;refine ρn ?_;have a2:=(J.trans ae).trans bg;have ep:=c6.trans a2;have b8:=cx.ext a2;refine Xm ?_;refine sto (b8.at (i:=0) rfl) (b8.frozen 0) ?_;obtain⟨a5,ap⟩:∃ a5,a5=d5.setCell ((⟨G,0,none⟩:Addr).add 0) (.slice ZA (Jq (rkS K.X K.ds q (i+1))).length zc):=⟨_,rfl⟩;rw[<-ap];have ax:GrN (λk=>k=G) d5 a5:=by rw[ap];exact GrN.set _ rfl
  have af:Blk a5 G 173 [.slice ZA (Jq (rkS K.X K.ds q (i+1))).length zc,.slice none 0 0,.bool false,.int .i64 (st:Int)]:=by rw[ap];exact b8.set 0 _
  have e9:=(e7.ext a2).off ax d2 D;have eb:=Jc ((bw.ext Z).ext a2) ax d3;have ew:G<er.heap.size:=(cx.ext J).lt;have dl:NatX (λk=>k=K.mb∨k=G∨k=b4) a5 (.slice ZA (Jq (rkS K.X K.ds q (i+1))).length zc) (rkS K.X K.ds q (i+1)):=by
   refine NatX.gr (N:=λk=>k=K.mb∨k=G∨k=b4) ⟨aq,λh0 ad m c e=>?_⟩ (ax.mono λk _ h=>.inr (.inl h));have h1:=dx ad m c e;have h2:=ae.size;have h3:=(bw.ext (Z.trans J)).lt;rintro(h|h|h)
   .have:=nM bo (a4.size);have:=(Z.trans J).size;omega
   .omega
   omega
  refine ω5 ?_;refine Gv ?_;refine ρn ?_;refine ldR (af.at (i:=3) rfl) ?_;refine Xq (af.at (i:=3) rfl) (af.frozen 3) ?_;obtain⟨a9,ao⟩:∃ a9,a9=a5.setCell ((⟨G,0,none⟩:Addr).add 3) (.int .i64 ((st+e:Nat):Int)):=⟨_,rfl⟩;have cg:a5.setCell ((⟨G,0,none⟩:Addr).add 3) (.int .i64 ((st:Int)+(e:Int)))=a9:=ao.symm;refine Eq.mpr (congrArg _ cg) ?_;have av:GrN (λk=>k=G) a5 a9:=by rw[ao];exact GrN.set _ rfl
  have bz:Blk a9 G 173 [.slice ZA (Jq (rkS K.X K.ds q (i+1))).length zc,.slice none 0 0,.bool false,.int .i64 ((st+e:Nat):Int)]:=by rw[ao];exact af.set 3 _
  have bq:=e9.off av d2 D;have bs:=Jc eb av d3;have bm:=dl.gr (av.mono λk _ h=>.inr (.inl h));have e3:=D.has aa (z:=q.take i) hd (q.getD i V0);have dh:(st+e<=Qc (i+1) λv=>hmB (K.BB v)):=by rw[Qc];omega
  have dt:K.X.Gp (q.take (i+1))↔Tr.hasT d (q.getD i V0) (K.t i (q.take i))=true:=(Jgd (D.ip.srt ne) li ai).trans e3.symm;refine ciR (λh=>?_) (λh=>?_)
  .have dk:¬ K.X.Gp (q.take (i+1)):=λhg=>by
    rw[dt.1 hg]at h;cases h
   clear h;have bj:wiL K.L q=[]:=D.ip.wi_none ne λhg=>dk (hg.pre (i+1));refine Qk bz ?_;refine Zk bs ?_;intro d4 ea a8 d7;refine ρ ?_;have c8:=d7 w (ca ▸ D.ext bq.gr) om;have cn:GrN (λk=>k=b4) a9 d4:=GrN.by a8 λk hk=>by injection hk with hk;exact hk.symm
   refine Kq ea ⟨_,_,st+e,by rw[bj];rfl,?_,?_,Nat.le_trans dh (Jsb om),c8⟩
   .rw[D.ip.rk_stop ne hqf li ai dk];exact(bm.gr (cn.mono λk _ h=>.inr (.inr h))).1
   rw[bj];exact NatV.nil _
  have d6:Tr.hasT d (q.getD i V0) (K.t i (q.take i))=true:=by
   cases hh:Tr.hasT d (q.getD i V0) (K.t i (q.take i)) with
   | true=>rfl
   | false=>rw[hh]at h;cases h
  clear h;have dq:=dt.2 d6;have f8:q.take (i+1)=q.take i++[q.getD i V0]:=Qs V0 li;have cr:RkV K a9 (q.take (i+1)) (pS K.pf (i+1) i) (32*(i+1)):=by
   rw[f8];exact bq.app D (λc _ hs=>by
    rw[cm];unfold pS at hs;simp only[Bool.and_eq_true,decide_eq_true_eq]at hs;exact hs.2) _
  refine ρ ?_;refine clv (Jts (k:=i+1) D O cr om dq om om (v:=(i:Int)) om) ?_;rintro u d4 ⟨rfl,a8,e8⟩;refine ρ ?_;exact Qt (i+1) _ (st+e) sO ⟨li,dq,(e8.same λc hc=>Jgs (dj c hc)).more om,Jc bz a8 n9,Jc bs a8 n4,bm.gr (a8.mono λk _ h=>.inl h),dh,om⟩ om
 have fe:i=q.length:=by have:=oF h;omega
 clear h;subst fe;rw[List.take_length]at ai ab;refine ρ ?_;refine clv (Jtr D O ab) ?_;rw[Qjl];rintro cv v6 ⟨dz,fk,ag⟩;obtain⟨eo,en,rfl,_⟩:=id az.1;obtain⟨CA,cc,rfl,_⟩:=id dz;have cy:=cz.ext ag;have fy:=cw.ext ag;have ft:=ab.ext ag;have e1:=az.ext ag;have ew:=cz.lt;have gj:=cw.lt;have bo:K.mb<v5.heap.size:=nM D.m2 ab.gr.size;have fl:NatX (λk=>k=K.mb∨k=G∨k=b4) v6 (.slice CA (Jq (K.X.pend q.length q)).length cc) (K.X.pend q.length q):=⟨dz,λ_ ad m c e=>by
  have:=fk ad m c e;rintro(h|h|h)<;>omega⟩
 refine Xq (cy.at (i:=1) rfl) (cy.frozen 1) ?_;obtain⟨v7,ce⟩:∃ v7,v7=v6.setCell ((⟨G,0,none⟩:Addr).add 1) (.slice CA (Jq (K.X.pend q.length q)).length cc):=⟨_,rfl⟩;rw[<-ce];have dv:GrN (λk=>k=G) v6 v7:=by rw[ce];exact GrN.set _ rfl
 have bd:Blk v7 G 173 [.slice eo (Jq (rkS K.X K.ds q q.length)).length en,.slice CA (Jq (K.X.pend q.length q)).length cc,.bool false,.int .i64 (st:Int)]:=by rw[ce];exact cy.set 1 _
 refine ldR (bd.at (i:=1) rfl) ?_;refine Xq (bd.at (i:=2) rfl) (bd.frozen 2) ?_;have dd:=D.ip.wi_len ne hqf ai;have fi:decide (0<((Jq (K.X.pend q.length q)).length:Int))=decide (0<(wiL K.L q).length):=by
  rw[dd];show decide _=decide (0<K.X.pend q.length q);rcases Nat.eq_zero_or_pos (K.X.pend q.length q) with h0|h0
  .rw[h0,limbs_0];rfl
  rw[decide_eq_true h0,decide_eq_true (by have:=limbs_pos' (show K.X.pend q.length q≠0 by omega);omega)]
 obtain⟨v8,cd⟩:∃ v8,v8=v7.setCell ((⟨G,0,none⟩:Addr).add 2) (.bool (decide (0<(wiL K.L q).length))):=⟨_,rfl⟩;have de:v7.setCell ((⟨G,0,none⟩:Addr).add 2) (.bool (decide (0<((Jq (K.X.pend q.length q)).length:Int))))=v8:=by rw[fi];exact cd.symm
 refine Eq.mpr (congrArg _ de) ?_;have fh:GrN (λk=>k=G) v7 v8:=by rw[cd];exact GrN.set _ rfl
 have fz:Blk v8 G 173 [.slice eo (Jq (rkS K.X K.ds q q.length)).length en,.slice CA (Jq (K.X.pend q.length q)).length cc,.bool (decide (0<(wiL K.L q).length)),.int .i64 (st:Int)]:=by rw[cd];exact bd.set 2 _
 have au:=dv.trans fh;have fq:=ft.off au d2 D;have fx:=Jc fy au d3;refine Qk fz ?_;refine Zk fx ?_;intro v9 fw bp c7;have c8:=c7 w (ca ▸ D.ext fq.gr) om;have du:GrN (λk=>k=b4) v8 v9:=GrN.by bp λk hk=>by injection hk with hk;exact hk.symm
 have ar:GrN (λk=>k=K.mb∨k=G∨k=b4) v6 v9:=(au.mono λk _ h=>.inr (.inl h)).trans (du.mono λk _ h=>.inr (.inr h));refine ρ ?_;refine Kq fw ⟨_,_,st,rfl,?_,?_,Nat.le_trans fa (Jsb hqf),c8⟩
 .rw[D.ip.rk_end ne hqf ai];exact(e1.gr ar).1
 rw[dd];exact(fl.gr ar).1
end
open Go.RowKit Pl Go.Wk
variable {B0 f pc:Nat}
theorem Qhx{w:World}{x:Value}{ds:List Bool}{kf:Nat->Nat}{pf:Nat->Int}{BB:Nat->List BkT}{tot:Nat}{L:List Row}(tb:TB B0 w)(h:IxA w x f ds kf pf BB tot L){PA:Option Addr}{q:Row}(hq:RdR w PA q)(hqc:q.length<=pc):
  Ret Tryz.prog 40 [x,.slice PA q.length pc] w λu w'=>Ext w w'/\(q.length≠f->u=.tuple #[.slice none 0 0,.bool false,.int .i64 0,.int .i64 6]) /\
   (q.length=f->∃(kv:Value) (st:Nat),u=.tuple #[kv,.bool (decide (0<(wiL L q).length)),.int .i64 (st:Int),.int .i64 0]/\NatV w' kv (Zx ds L q)/\st<=Qc f λv=>hmB (BB v)):=by
 have ix:=h.ix;have ip:=h.ip;obtain⟨DA,dc,BA,cb,KA,ck,an,cp,tv,ah,ag,rfl,ak,am,hD,hB,hK,hP,a9,ai⟩:=id ix.ex;obtain⟨TA,tc,rfl,_⟩:=id a9;refine enE Tryz.func40 Tryz.ntmps40 ?_;refine bxR ?_;intro w1 b J hb a1;refine Qk a1 ?_;refine clR (Jlc (ix.ext J)) ?_;rintro u w2 ⟨rfl,D⟩;refine ciR (λh=>?_) (λh=>?_)
 .have ab:q.length≠f:=λe=>by rw[e]at h;simp at h
  refine ρ ?_;exact Jjc ⟨J.trans D,λ_=>rfl,λh=>absurd h ab⟩
 have a3:q.length=f:=by grind
 clear h;refine Qk (a1.ext D) ?_;refine clR (Jhz (ix.ext (J.trans D)) ip.nbT) ?_;rintro u w3 ⟨a8,_,a2⟩;have j:=(J.trans D).trans a2;obtain⟨UA,uc,rfl,_⟩:=id a8;refine ciR (λh=>?_) (λh=>?_)
 .have h0:tot=0:=by
   have:=Zv h;grind [Nat.eq_zero_or_pos,tot,limbs_pos']
  have hL:L=[]:=List.eq_nil_of_length_eq_zero (by rw[<-ip.len];exact h0);refine ρ ?_;refine Jjc ⟨j,λh=>absurd a3 h,λ_=>⟨.slice none 0 0,0,by subst hL;rfl,?_,Nat.zero_le _⟩⟩;rw[hL];exact NatV.nil _
 have ne:tot≠0:=λe=>by
  have:=Xo h;grind [limbs_0]
 clear h;refine Qk ((a1.ext D).ext a2) ?_;refine clR (Xqs (tb.ext j) (ix.ext j) ip ne (Rd.ext hq j) hqc om) ?_;rintro u w4 ⟨bv,cv,st,rfl,a4,ac,aa,a7⟩;obtain⟨XA,xc,rfl,_⟩:=id a4;obtain⟨YA,yc,rfl,_⟩:=id ac;refine Jv Jdh ?_;intro w5 b8 a6 ad ae;refine Zk ae ?_;intro w6 af aj a5;have O:Ext w4 w6:=a5 w4 a6 ad;have Z:Ext w6 w6.drew:=(Ext.refl w6).drew;have G:=af.ext Z;refine ρ ?_;refine drN (λ_=>False) 11 (scq 10 []) kr ?_;refine ρn ?_;refine nld (λw' hg=>(G.ext hg.toExt).at (i:=0) rfl) ?_;refine ρn ?_;refine nld (λw' hg=>(G.ext hg.toExt).at (i:=2) rfl) ?_;refine ρn ?_;refine nld (λw' hg=>(G.ext hg.toExt).at (i:=3) rfl) ?_;refine ρn ?_;refine ρ ?_;exact Jjc ⟨((j.trans a7).trans O).trans Z,λh=>absurd a3 h,λ_=>⟨_,st,rfl,(a4.ext O).ext Z,aa⟩⟩
open Go.RowKit Pl Go.Wk _root_.Go.Proofs.Tryz
variable {ls:List (List V)}{ds:List Bool}{ps:List Pr}{base c g n:Nat}{A:Option Addr}{fv v va vb vd:Value}{w:World}
theorem Qhs(h:RowsV w v ls):
  Ret prog 155 [v] w λv' w'=>(∃(ps:List Pr) (A:Option Addr),v'=.slice A ps.length ps.length/\ps.map (·.2)=ls/\ps.length<=1100000/\Dat w' w.heap.size (.slice A ps.length ps.length) ps/\∀ p∈ps,RowX w' (one (Value.slice A ps.length ps.length).ownBlock) p.1 p.2)/\Ext w w':=by
 obtain⟨ps,A,c,rfl,rfl,h3,h4,h5,h6⟩:=h;generalize hn:ps.length=n at *
 refine enE func155 ntmps155 ?_;refine ρ ?_;refine mkn ER n om (by unfold maxLen;omega) ?_;intro w1 O aa a2 hO;have a8:∀ k,(Value.slice O n n).ownBlock=some k->w.heap.size<=k/\k<w1.heap.size:=by
  obtain⟨_,_,e,_,hf⟩:=Jy a2;exact hf
 have ac:Dat w1 w.heap.size (.slice O n n) ([]++List.replicate n (.slice none 0 0,[])):=by
  refine⟨?_,λp hp=>?_⟩
  .rw[List.nil_append,List.length_replicate,Pr.rep];have e:(madeCells (Value.slice none 0 0).cells (n*1)).toList=List.replicate n (.slice none 0 0):=by rw[Nat.mul_one];exact Us _ _
   rw[e]at a2;exact a2
  rw[List.nil_append]at hp;rw[(List.mem_replicate.1 hp).2];rfl
 refine ρ ?_;refine Jo (fun (k:Nat) (i:List Pr)=>[(0,.slice A n c),(3,.slice O n n),(9,.int .i64 (n:Int)),(10,.int .i64 (k:Int))])
  (λk i w2=>k<=n/\i.length=k/\i.map (·.2)=(ps.take k).map (·.2)/\Ext w w2/\Dat w2 w.heap.size (.slice O n n) (i++List.replicate (n-k) (.slice none 0 0,[]))/\(∀ p∈i,RowX w2 (one (Value.slice O n n).ownBlock) p.1 p.2)/\w1.heap.size<=w2.heap.size) (λk _=>n-k) 0 [] sB
  ⟨Nat.zero_le _,rfl,rfl,aa,ac,λp hp=>(by cases hp),Nat.le_refl _⟩ ?_
 rintro k i w2 ⟨hk,a1,a7,u,a5,a9,a6⟩;refine ciR (λh=>?_) (λh=>?_)
 .have J:k<n:=by have:=oT h;omega
  have G:k<ps.length:=om
  refine ixR k (h5.ext u) J ?_;refine ldR ((h5.ext u).cell (Uk G)) ?_;refine clR (Ye ((h6 _ (getD_mem' z0 ps G)).ext u) (one (Value.slice O n n).ownBlock) (λj hj=>by have:=a8 j hj;omega)) ?_;rintro v3 w3 ⟨Z,D⟩;have a4:=a5.ext D;have a3:(i++List.replicate (n-k) ((.slice none 0 0,[]):Pr)).length=n:=by simp;omega
  obtain⟨s1,s2,s3⟩:=a4.store a3 J (p:=(v3,(ps.getD k z0).2)) Z.v.one;refine ixR k (a4.rd a3) J ?_;refine Xq (a4.cell a3 J) s1 ?_ (hv:=Z.v.one);refine ρ ?_;have e:(i++List.replicate (n-k) ((.slice none 0 0,[]):Pr)).set k (v3,(ps.getD k z0).2)=(i++[(v3,(ps.getD k z0).2)])++List.replicate (n-(k+1)) (.slice none 0 0,[]):=by
   rw[show n-k=(n-(k+1))+1 by omega,List.replicate_succ,List.set_append_right _ _ om,a1,Nat.sub_self,List.set_cons_zero,List.append_assoc];rfl
  rw[e]at s2;refine Jl (k+1) (i++[(v3,(ps.getD k z0).2)]) sB ⟨om,by simp[a1],?_,Ql (u.trans D) s3 (λj hj=>(a8 j hj).1),s2,λp hp=>?_,?_⟩ om
  .rw[List.map_append,a7,List.take_succ_eq_append_getElem G,List.map_append,Qd z0 ps G];rfl
  .rcases List.mem_append.1 hp with h'|h'
   .exact((a9 p h').ext D).grown s3 (λ_ e=>e)
   rw[List.mem_singleton.1 h'];exact Z.grown s3 (λ_ e=>e)
  exact nL a6 (nL D.size s3.size)
 have ab:k=n:=by have:=oF h;omega
 subst ab;rw[Nat.sub_self,List.replicate_zero,List.append_nil]at a5;refine ρ ?_;subst a1;exact Jj ⟨⟨i,O,rfl,by rw[a7,<-hn,List.take_length],h4,a5,a9⟩,u⟩
theorem Qgh{a b:List V}(ha:RowV w va a)(hb:RowV w vb b)(hd:BoolsV w vd ds)(hk:Blk w g 25 [vd]):
  Ret prog 157 [va,vb,.pointer (some ⟨g,0,none⟩)] w λr w'=>r=.int .i64 (Jw a b ds)/\Ext w w':=by
 refine enE func157 ntmps157 ?_;refine ldR (hk.at (i:=0) rfl) ?_;refine clR (Jmg ha hb hd) ?_;rintro v u ⟨rfl,j⟩;refine ρ ?_;exact Jj ⟨rfl,j⟩
theorem Qfz(hD:Dat w base (.slice A n c) ps)(hn:ps.length=n)(hmx:n<20)(hC:CmpF w (Value.slice A n c).ownBlock fv ps ds):
  Ret prog 188 [.slice A n c,.int .i64 (n:Int),fv] w λv w'=>∃ ps',Dat w' base (.slice A n c) ps'/\Seg z0 0 n ps ps'/\SOn z0 (fP ds) ps' 0 n/\w.grownBy w' (Value.slice A n c).ownBlock:=by
 refine enE func188 ntmps188 ?_;refine ρ ?_;refine Qf (fun (_:Unit)=>[(0,.slice A n c),(1,.int .i64 (n:Int)),(2,fv),(6,.int .i64 20),(7,.int .i64 0),(8,.int .i64 20)]) (λ_ w'=>w'=w) (λ_=>0) () sB rfl ?_;rintro _ w' rfl;refine ciR (λh=>?_) (λh=>?_)
 .exfalso
  have:=oT h;omega
 clear h;refine clR (Jll (a:=0) (b:=n) hD hn rfl rfl (nR _) (Nat.zero_le _) om hC) ?_;rintro v i ⟨ps',G,D,u,j⟩;refine ρ ?_;refine Qf (fun (_:Unit)=>[(1,.int .i64 (n:Int)),(6,.int .i64 20)]) (λ_ w'=>w'=i) (λ_=>0) () sB rfl ?_;rintro _ J rfl;refine ciR (λh=>?_) (λh=>?_)
 .exfalso
  have:=oT h;omega
 clear h;refine ρ ?_;exact Yt ⟨ps',G,D,u,j⟩
theorem Qgd(hD:Dat w base (.slice A n c) ps)(hn:ps.length=n)(hmx:n<20)(hC:CmpF w (Value.slice A n c).ownBlock fv ps ds):
  Ret prog 156 [.slice A n c,fv] w λv w'=>∃ ps',Dat w' base (.slice A n c) ps'/\Seg z0 0 n ps ps'/\SOn z0 (fP ds) ps' 0 n/\w.grownBy w' (Value.slice A n c).ownBlock:=by
 refine enE func156 ntmps156 ?_;refine clR (Qfz (ds:=ds) hD hn hmx hC) ?_;rintro v j i;refine ρ ?_;exact Yt i
theorem Qhp(h:RowsV w v ls)(hd:BoolsV w vd ds)(hl:ls.length<20):
  Ret prog 106 [v,vd] w λv' w'=>(∃ ls',RowsV w' v' ls'/\ls'.Perm ls/\Srt ds ls')/\Ext w w':=by
 obtain⟨D,dc,rfl,ab,aa,a9⟩:=id hd;refine enE func106 ntmps106 ?_;refine bxR ?_;intro w1 b u ac a5;refine clR (Qhs (h.ext u)) ?_;rintro v2 w2 ⟨⟨ps,A,rfl,a1,a8,a3,J⟩,O⟩;refine ρ ?_;have j:∀ k,(Value.slice A ps.length ps.length).ownBlock=some k->w1.heap.size<=k:=λk hk=>by
  obtain⟨_,_,_,_,hf⟩:=Jy a3.1;exact(hf k hk).1
 have a4:ps.length<20:=by rw[<-a1,List.length_map]at hl;exact hl
 refine cl (Qgd (fv:=.func (.func 157) #[] #[.pointer (some ⟨b,0,none⟩)]) (ds:=ds) a3 rfl a4 ⟨_,_,_,rfl,λw' hg p q hp hq=>?_⟩) ?_
 .have Z:Ext w1 w':=Ql O hg j;exact Qgh ((J p hp).grown hg (λ_ e=>e)).v ((J q hq).grown hg (λ_ e=>e)).v (hd.ext (u.trans Z)) (a5.ext Z)
 rintro v3 w3 ⟨qs,a7,G,a6,a2⟩;have i:qs.length=ps.length:=G.len;refine ρ ?_;refine Jj ⟨⟨qs.map (·.2),⟨qs,A,ps.length,rfl,by rw[i],om,om,?_,λp hp=>?_⟩,?_,?_⟩,u.trans (Ql O a2 j)⟩
 .exact i ▸ a7.rd i
 .exact((J p (G.perm.mem_iff.1 hp)).grown a2 (λ_ e=>e)).v
 .rw[<-a1];exact G.perm.map _
 exact Jff (by rw[i];exact a6)
open Go.RowKit Pl Go.Wk _root_.Go.Proofs.Tryz
variable {ds:List Bool}{L ls m:List Row}{B B' k n:Nat}{v vd vk vr x:Value}{w w':World}
def tt7: TT:=(125,{ desc:=.invalid,size:=2,offs:=[0,1] })::(107,{ desc:=.interface #[("At",61),("Len",50),("Rank",63)] }) ::
 (179,{ desc:=.invalid,size:=1,offs:=[0] })::(177,{ desc:=.invalid,size:=3,offs:=[0,1,2] })::(183,{ desc:=.invalid,size:=2,offs:=[0,1] })::(100,{ desc:=.invalid,size:=5,offs:=[0] })::tt
theorem Jrl: TOk prog tt7:=⟨⟨_,underlying125,kr,kr⟩,⟨kr,kr⟩,⟨_,underlying179,kr,kr⟩,⟨_,underlying177,kr,kr⟩,⟨_,underlying183,kr,kr⟩,⟨_,underlying100,kr,kr⟩,Jjn⟩
instance (priority:=9000):Tab prog tt7:=⟨Jrl,mixed⟩
theorem Xqt(h:RowsV w v ls):
  Ret prog 105 [v] w λv' w'=>OwnR w' w.heap.size v' (ddF ls)/\Ext w w':=by
 obtain⟨ps,A,c,O,rfl,h3,h4,h5,h6⟩:=id h;have hn:ls.length=ps.length:=by rw[O];simp
 generalize hN:ps.length=n at *
 refine enE func105 ntmps105 ?_;refine ρ ?_;refine Jo (fun (k:Nat) (v3:Value)=>[(0,.slice A n c),(3,v3),(6,.int .i64 (n:Int)),(7,.int .i64 (k:Int))])
  (λk v3 w2=>k<=n/\Ext w w2/\OwnR w2 w.heap.size v3 (ddF (ls.take k))/\(ddF (ls.take k)).length<=k) (λk _=>n-k) 0 (.slice none 0 0) sB
  ⟨Nat.zero_le _,Ext.refl w,OwnR.nil _ _,by simp[ddF]⟩ ?_
 rintro k v3 w2 ⟨hk,G,a4,ac⟩;refine ciR (λh=>?_) (λh=>?_)
 .have a8:k<n:=by have:=oT h;omega
  have J:k<ps.length:=om
  have step:=Jlz (l:=ls) (k:=k) om;refine ρ ?_;refine Zb (fun (t:Bool)=>[(0,.slice A n c),(3,v3),(4,.int .i64 (k:Int)),(6,.int .i64 (n:Int)),(7,.int .i64 (k:Int)),(24,.bool t)])
   (λt w3=>t = !decide (k≠0/\ls.getD (k-1) []=ls.getD k [])/\Ext w2 w3) ?_ ?_
  .refine dr (scq 15 [12]) kr ?_;have u:Ext w2 w2.drew:=(Ext.refl w2).drew;have Z:=h5.ext (G.trans u);refine ρd ?_;refine dki 12 (λh=>?_) (λh=>?_)
   .have a5:k=0:=by have:=Zv h;omega
    refine ρd ?_;exact Jf true sB ⟨by simp[a5],u⟩
   have a5:k≠0:=by have:=Xo h;omega
   have a1:k-1<ps.length:=om
   refine Jb (k-1) Z om ?_;refine Jz (Z.cell (Uk a1)) ?_;refine Jb k Z a8 ?_;refine Jz (Z.cell (Uk J)) ?_;refine Jh (Jbd ((h6 _ (getD_mem' z0 ps a1)).ext (G.trans u)) ((h6 _ (getD_mem' z0 ps J)).ext (G.trans u))) ?_;rintro x w3 ⟨rfl,D⟩;refine⟨D,?_⟩;refine ρd ?_;refine Jf (!decide ((ps.getD (k-1) z0).2=(ps.getD k z0).2)) sB ⟨?_,u.trans D⟩;rw[O,Jqk,Jqk];simp[a5]
  rintro t w3 ⟨rfl,D⟩;have a3:=a4.ext D;have i:=G.trans D;refine ciR (λh=>?_) (λh=>?_)
  .rw[if_neg (by rw[Bool.not_eq_true']at h;exact oF h)]at step;refine ixR k (h5.ext i) a8 ?_;refine ldR ((h5.ext i).cell (Uk J)) ?_;refine clR (Ye ((h6 _ (getD_mem' z0 ps J)).ext i) (own w.heap.size v3) (λj hj=>by
    rcases hj with hj|hj
    .have:=i.size;omega
    exact(a3.lt j hj).2)) ?_
   rintro v4 w4 ⟨a7,a6⟩;obtain⟨B,bc,aa,_⟩:=a7.v;refine Qv (λw=>Jjj v4 w B _ bc aa) ?_;intro w5 b a2 af ae;refine ρ ?_;refine appR (a:=w) ((i.trans a6).trans a2) ER ((a3.ext a6).ext a2) ae (a7.ext a2) om ?_;intro v6 w6 ab a9 _;refine ρ ?_;refine Jl (k+1) v6 sB ⟨om,a9,?_,?_⟩ om
   .rw[step,O,Jqk,<-O];exact ab
   rw[step];simp;omega
  rw[if_pos (by simpa using h)]at step;refine ρ ?_;refine Jl (k+1) v3 sB ⟨om,i,?_,?_⟩ om
  .rw[step];exact a3
  rw[step];omega
 have ad:k=n:=by have:=oF h;omega
 subst ad;refine ρ ?_;rw[List.take_of_length_le om]at a4 ac;exact Jj ⟨a4,G⟩
def RowsA(w:World)(v:Value)(ds:List Bool)(ls:List Row): Prop:=∃ v1 v2,v=.agg #[v1,v2]/\RowsV w v1 ls/\BoolsV w v2 ds
theorem RowsA.ext{w w':World}{v:Value}{ds:List Bool}{ls:List Row}(h:RowsA w v ds ls)(hx:Ext w w'): RowsA w' v ds ls:=by
 obtain⟨j,i,G,D,u⟩:=h;exact⟨j,i,G,D.ext hx,u.ext hx⟩
theorem RowsV.slc(h:RowsV w v ls): ∃ A n c,v=.slice A n c:=by obtain⟨_,A,c,_,rfl,_⟩:=h;exact⟨A,_,c,rfl⟩
theorem BoolsV.slc{ls:List Bool}(h:BoolsV w v ls): ∃ A n c,v=.slice A n c:=by obtain⟨A,c,rfl,_⟩:=h;exact⟨A,_,c,rfl⟩
theorem Xkf(A B:Option Addr)(n c m e:Nat)(w:World): (Instr.build 125 #[(0,.slice A n c),(1,.slice B m e)]).run prog w=.ok (.agg #[.slice A n c,.slice B m e]) w:=kr
theorem Qbl: Qr prog 125=some (.agg #[.slice none 0 0,.slice none 0 0]):=kr
theorem BoolsV.one(ds:List Bool): ∀ u∈ds.map Value.bool,u.oneCell'=true:=by
 intro u i;obtain⟨b,_,rfl⟩:=List.mem_map.1 i;rfl
theorem Jbp(h:RowsV w v ls)(hd:BoolsV w vd ds)(hl:ls.length<20):
  Ret prog 55 [v,vd] w λv' w'=>(∃ m,RowsA w' v' ds m/\IsSet ds ls m/\m.length<=ls.length)/\Ext w w':=by
 refine enE func55 ntmps55 ?_;refine Jv (cs:=[.slice none 0 0,.slice none 0 0]) Qbl ?_;intro w1 b a1 aj a6;refine clR (Qhp (h.ext a1) (hd.ext a1) hl) ?_;rintro v2 w2 ⟨⟨i,a4,a5,aa⟩,Z⟩;refine clR (Xqt a4) ?_;rintro v3 w3 ⟨a3,O⟩;refine ρ ?_;obtain⟨D,dc,rfl,an,af,ae⟩:=id hd;have j:=(a1.trans Z).trans O;refine cl (Qwq (ae.ext j) (BoolsV.one ds) om) ?_;rintro v4 w4 ⟨⟨D',c',rfl,ah,ag,ak⟩,J⟩;obtain⟨A3,c3,rfl⟩:=a3.form;refine Zz (Xkf _ _ _ _ _ _ _) ?_;refine Qw (((a6.ext Z).ext O).ext J) (cs':=[.slice A3 (ddF i).length c3,.slice D' ds.length c']) ?_ (λu hu=>by simp at hu;rcases hu with rfl|rfl<;>rfl);intro w5 ac a7 a9;have G:=Jmc aa;have a2:IsSet ds ls (ddF i):=⟨G.1,λx=>(G.2 x).trans a5.mem_iff⟩;have a8:Ext w w5:=a9 w (j.trans J) aj;have ai:b<w2.heap.size:=(a6.ext Z).lt;have am:i.length<=1100000:=by obtain⟨_,_,_,_,h0,_⟩:=a4.parts;exact h0
 have ab:OwnR w5 w2.heap.size (.slice A3 (ddF i).length c3) (ddF i):=(a3.ext J).grown a7 ai;refine ρ ?_;refine Kq ac ⟨⟨ddF i,⟨_,_,rfl,ab.rows (by have:=Jqt i;omega),⟨D',c',rfl,ah,af,?_⟩⟩,a2,?_⟩,a8⟩
 .refine Rd.grown ag a7 (λad e e2=>?_);have:=ak ad e;injection e2 with e2
  have:=O.size;omega
 rw[<-a5.length_eq];exact Jqt i
theorem Vu(h:n<18446744073709551616): (Jq n).length<=1000:=by have:=Jfg h;omega
def AyR(w:World)(L:List Row)(B k:Nat)(x:Value): Prop :=
 if k<L.length then ∃ vr,∃ s:Nat,x=.tuple #[vr,.int .i64 (s:Int),.int .i64 0]/\RowV w vr (L.getD k [])/\s<=B
 else ∃ s:Nat,x=.tuple #[.slice none 0 0,.int .i64 (s:Int),.int .i64 3]/\s<=B
structure ArrW(w:World)(v:Value)(L:List Row)(B:Nat): Prop where
 len:∃ f rv,Yd prog v "Len" f rv/\∀ w',Ext w w'->Ret prog f [rv] w' λx w''=>NatV w'' x L.length/\Ext w' w''
 at_:∃ f rv,Yd prog v "At" f rv/\∀ w',Ext w w'->∀ k vk,NatV w' vk k->k<9223372036854775808->Ret prog f [rv,vk] w' λx w''=>AyR w'' L B k x/\Ext w' w''
 rank:∃ f rv,Yd prog v "Rank" f rv/\∀ w',Ext w w'->∀ i vr,i<L.length->RowV w' vr (L.getD i [])->Ret prog f [rv,vr] w' λx w''=>(∃ vn,∃ s:Nat,x=.tuple #[vn,.bool true,.int .i64 (s:Int),.int .i64 0]/\NatV w'' vn i/\s<=B)/\Ext w' w''
 small:L.length<=1100000
 bd:B<=100000000
theorem ArrW.ext(h:ArrW w v L B)(hx:Ext w w'): ArrW w' v L B:=by
 obtain⟨⟨f1,r1,O,h1⟩,⟨f2,D,J,h2⟩,⟨f3,u,G,h3⟩,h4,Z⟩:=h;exact⟨⟨f1,r1,O,λj i=>h1 j (hx.trans i)⟩,⟨f2,D,J,λj i=>h2 j (hx.trans i)⟩,⟨f3,u,G,λj i=>h3 j (hx.trans i)⟩,h4,Z⟩
theorem ArrW.form(h:ArrW w v L B): ∃ t x,v=.iface t x:=by
 obtain⟨⟨f1,r1,⟨t,x,rfl,_⟩,i⟩,_⟩:=h;exact⟨t,x,rfl⟩
theorem Jkt(n:Nat)(h:n<=1100000): IntKind.u64.wrap (n:Int)=(n:Int):=Uq om
theorem Qhj(h:RowsA w v ds m): Ret prog 283 [v] w λx w'=>NatV w' x m.length/\Ext w w':=by
 obtain⟨v1,v2,rfl,Z,O⟩:=h;obtain⟨A,c,rfl,hc,G,_⟩:=Z.parts;obtain⟨D,dn,dc,rfl⟩:=O.slc;refine enE func283 ntmps283 ?_;refine bxR ?_;intro w1 b1 j J u;refine ldR (u.at rfl) ?_;refine ρ ?_;rw[Jkt _ G];refine cl (Ig m.length om _) ?_;rintro x w2 ⟨hn,i⟩;refine ρ ?_;exact Jj ⟨hn,j.trans i⟩
theorem Qhk(h:RowsA w v ds m)(hk:NatV w vk k)(hkb:k<9223372036854775808): Ret prog 282 [v,vk] w λx w'=>AyR w' m 1 k x/\Ext w w':=by
 obtain⟨v1,v2,rfl,h1,h2⟩:=h;obtain⟨A,c,rfl,hc,hm,cs,J,a3⟩:=h1.parts;obtain⟨D,dn,dc,rfl⟩:=h2.slc;refine enE func282 ntmps282 ?_;refine bxR ?_;intro w1 b1 i a4 O;refine clR (Qpm (hk.ext i) om) ?_;rintro x w2 ⟨rfl,rfl⟩;refine ldR (O.at rfl) ?_;refine ρ ?_;rw[Jkt _ hm];refine ci (λG=>?_) (λj=>?_)
 .have G:¬ k<m.length:=by have:=oT G;omega
  refine ρ ?_;refine Vq ⟨?_,i⟩;unfold AyR;rw[if_neg G];exact⟨0,rfl,om⟩
 have j:k<m.length:=by have:=oF j;omega
 obtain⟨u,hu,a1⟩:=a3 k j;refine ldR (O.at rfl) ?_;refine ixR k (J.ext i) j ?_;refine ldR ((J.ext i).cell hu) ?_;refine clR (Ye (a1.ext i) (λ_=>False) (λ_ h=>h.elim)) ?_;rintro x w3 ⟨a2,Z⟩;refine ρ ?_;refine Vq ⟨?_,i.trans Z⟩;unfold AyR;rw[if_pos j];exact⟨x,1,rfl,a2.v,Nat.le_refl _⟩
theorem Qhg{r:Row}(h:RowsA w v ds m)(hr:RowV w vr r)(hl:Lt ds m)(hms:m.length<256): Ret prog 284 [v,vr] w λx w'=>(∃ vn,x=.tuple #[vn,.bool (decide (r∈m)),.int .i64 (Jp m.length:Int),.int .i64 0]/\NatV w' vn (cnt ds m r))/\Ext w w':=by
 obtain⟨v1,v2,rfl,h1,h2⟩:=h;obtain⟨A,c,rfl,hc,hm,cs,a2,a3⟩:=h1.parts;obtain⟨D,dn,dc,rfl⟩:=h2.slc;have a4:=Jcq ds m r;refine enE func284 ntmps284 ?_;refine bxR ?_;intro w1 b1 i a5 j;refine ldR (j.at rfl) ?_;refine ldR (j.at rfl) ?_;refine clR (Qhq (h1.ext i) (hr.ext i) (h2.ext i) hl) ?_;rintro x O ⟨rfl,J⟩;refine drR [(0,0),(0,1),(0,3),(0,4),(0,5),(0,6),(0,7),(1,2),(1,8),(0,9),(0,10),(0,11),(0,12)] ?_;have u:Ext O O.drew:=(Ext.refl O).drew;have a1:=(j.ext J).ext u;refine Jz (a1.at rfl) ?_;refine ρd ?_;rw[Jkt _ hm,Jkt _ (show cnt ds m r<=1100000 by omega)];refine dcl (Ig (cnt ds m r) om _) ?_;rintro x w3 ⟨Z,G⟩;refine⟨G,?_⟩;refine dcl (Jmx m.length om _) ?_;rintro y w4 ⟨rfl,rfl⟩;refine⟨Ext.refl _,?_⟩;refine ρd ?_;refine ρ ?_;exact Jjc ⟨⟨x,rfl,Z⟩,((i.trans J).trans u).trans G⟩
theorem Qrj(x y:Value): Yd prog (.iface 125 (.agg #[x,y])) "Len" 283 (.agg #[x,y]):=⟨_,_,rfl,λw=>kr,λw=>kr⟩
theorem Qrk(x y:Value): Yd prog (.iface 125 (.agg #[x,y])) "At" 282 (.agg #[x,y]):=⟨_,_,rfl,λw=>kr,λw=>kr⟩
theorem Qrh(x y:Value): Yd prog (.iface 125 (.agg #[x,y])) "Rank" 284 (.agg #[x,y]):=⟨_,_,rfl,λw=>kr,λw=>kr⟩
theorem AyR.mono(h:AyR w L B k x)(hb:B<=B'): AyR w L B' k x:=by
 unfold AyR at *;split
 .rename_i hk;rw[if_pos hk]at h;obtain⟨u,s,i,j,D⟩:=h;exact⟨u,s,i,j,om⟩
 rename_i hk;rw[if_neg hk]at h;obtain⟨s,i,j⟩:=h;exact⟨s,i,om⟩
theorem cmq_lt{m:Nat}: (Zg n m<0)↔n<m:=by unfold Zg;grind
theorem cmq_ge{m:Nat}: (0<=Zg n m)↔m<=n:=by unfold Zg;grind
theorem cmq_gt{m:Nat}: (0<Zg n m)↔m<n:=by unfold Zg;grind
theorem cmq_eq{m:Nat}: (Zg n m=0)↔n=m:=by unfold Zg;grind
theorem ifA: prog.underlying 107=some (.interface #[("At",61),("Len",50),("Rank",63)]):=kr
structure SlcV(w:World)(x:Value)(L:List Row)(B lo hi:Nat): Prop where
 ex:∃ v vl vh,x=.agg #[v,vl,vh]/\ArrW w v L B/\NatV w vl lo/\NatV w vh hi
 le:lo<=hi/\hi<=L.length
theorem SlcV.ext{w w':World}{x:Value}{L:List Row}{B lo hi:Nat}(h:SlcV w x L B lo hi)(hx:Ext w w'): SlcV w' x L B lo hi:=by
 obtain⟨⟨v,vl,i,J,G,D,u⟩,j⟩:=h;exact⟨⟨v,vl,i,J,G.ext hx,D.ext hx,u.ext hx⟩,j⟩
theorem NatV.slc(h:NatV w v n): ∃ A m c,v=.slice A m c:=by obtain⟨A,c,rfl,_⟩:=h;exact⟨A,_,c,rfl⟩
open Go.RowKit Pl Go.Wk
def NtsV(w:World)(v:Value)(cs:List Nat): Prop:=∃ A c,v=.slice A cs.length c/\cs.length<=c/\cs.length<=1100000/\Rd w 1 A cs.length (Je (nz cs))/\∀ x∈cs,x<=9223372036854775807
theorem NtsV.ext{w w':World}{v:Value}{cs:List Nat}(h:NtsV w v cs)(hx:Ext w w'): NtsV w' v cs:=by
 obtain⟨A,c,G,D,u,j,i⟩:=h;exact⟨A,c,G,D,u,j.ext hx,i⟩
theorem NtsV.slc{w:World}{v:Value}{cs:List Nat}(h:NtsV w v cs): ∃ A n c,v=.slice A n c:=by obtain⟨A,c,rfl,_⟩:=h;exact⟨A,_,c,rfl⟩
def unR(cs:List Nat)(r:Row): Nat->Row
 | 0=>List.replicate r.length V0
 | k+1=>(unR cs r k).set (cs.getD k 0) (r.getD k V0)
structure PerV(w:World)(x:Value)(L:List Row)(B:Nat)(cs:List Nat): Prop where
 ex:∃ v vc,x=.agg #[v,vc]/\ArrW w v L B/\NtsV w vc cs
 ok:∀ c∈cs,c<cs.length
 rows:∀ r∈L,r.length=cs.length
 back:∀ r∈L,unR cs (pmR cs r) cs.length=r
theorem PerV.ext{w w':World}{x:Value}{L:List Row}{B:Nat}{cs:List Nat}(h:PerV w x L B cs)(hx:Ext w w'): PerV w' x L B cs:=by
 obtain⟨⟨v,vc,J,G,D⟩,u,j,i⟩:=h;exact⟨⟨v,vc,J,G.ext hx,D.ext hx⟩,u,j,i⟩
open Go.RowKit Pl Go.Wk
theorem RowsA.cells{w:World}{v:Value}{ds:List Bool}{m:List Row}(h:RowsA w v ds m): ∃ v1 v2,v=.agg #[v1,v2]/\(∀ u∈[v1,v2],u.oneCell'=true):=by
 obtain⟨v1,v2,rfl,D,j⟩:=h;obtain⟨_,_,_,rfl⟩:=D.slc;obtain⟨_,_,_,rfl⟩:=j.slc;exact⟨_,_,rfl,λu i=>by simp at i;rcases i with rfl|rfl<;>rfl⟩
open Go.RowKit Pl Go.Wk
variable {B0 k pc:Nat}
theorem Qrm(A B C D E:Option Addr)(a b c d e a' b' c' d' e':Nat): Yd Tryz.prog (.iface 100 (.agg #[.slice A a a',.slice B b b',.slice C c c',.slice D d d',.slice E e e'])) "Len" 281 (.agg #[.slice A a a',.slice B b b',.slice C c c',.slice D d d',.slice E e e']):=⟨_,_,rfl,λw=>kr,λw=>kr⟩
theorem mIxAt(A B C D E:Option Addr)(a b c d e a' b' c' d' e':Nat): Yd Tryz.prog (.iface 100 (.agg #[.slice A a a',.slice B b b',.slice C c c',.slice D d d',.slice E e e'])) "At" 41 (.agg #[.slice A a a',.slice B b b',.slice C c c',.slice D d d',.slice E e e']):=⟨_,_,rfl,λw=>kr,λw=>kr⟩
theorem Qrl(A B C D E:Option Addr)(a b c d e a' b' c' d' e':Nat): Yd Tryz.prog (.iface 100 (.agg #[.slice A a a',.slice B b b',.slice C c c',.slice D d d',.slice E e e'])) "Rank" 39 (.agg #[.slice A a a',.slice B b b',.slice C c c',.slice D d d',.slice E e e']):=⟨_,_,rfl,λw=>kr,λw=>kr⟩
section
variable {w:World} {x:Value} {f:Nat} {ds:List Bool} {kf:Nat->Nat} {pf:Nat->Int} {BB:Nat->List BkT} {tot:Nat} {L:List Row}
theorem IxA.five(h:IxA w x f ds kf pf BB tot L): ∃ A B C D E a b c d e a' b' c' d' e',x=.agg #[.slice A a a',.slice B b b',.slice C c c',.slice D d d',.slice E e e']:=by
 obtain⟨DA,Z,BA,cb,KA,ck,G,cp,J,u,j,rfl,_,_,_,_,_,_,i,_⟩:=h.ix.ex;obtain⟨TA,O,rfl,_⟩:=i;exact⟨_,_,_,_,_,_,_,_,_,_,_,_,_,_,_,rfl⟩
theorem Qtk(h:IxA w x f ds kf pf BB tot L): Ret Tryz.prog 281 [x] w λu w'=>NatV w' u L.length/\Ext w w':=by
 obtain⟨A,B,C,D,E,a,b,c,d,e,a',b',c',d',e',rfl⟩:=h.five;refine enE Tryz.func281 Tryz.ntmps281 ?_;refine bxR ?_;intro w1 b1 i O G;refine Qk G ?_;refine clR (Jhz (h.ix.ext i) h.ip.nbT) ?_;rintro u Z ⟨J,_,j⟩;refine ρ ?_;rw[h.ip.len]at J;exact Jj ⟨J,i.trans j⟩
theorem Qtl(h:IxA w x f ds kf pf BB tot L){kv:Value}(hk:NatV w kv k): Ret Tryz.prog 41 [x,kv] w λu w'=>Jkl w f BB L k u w'/\Ext w w':=by
 obtain⟨A,B,C,D,E,a,b,c,d,e,a',b',c',d',e',rfl⟩:=h.five;refine enE Tryz.func41 Tryz.ntmps41 ?_;refine bxR ?_;intro w1 b1 i Z O;refine Qk O ?_;refine clR (Xwq (h.ext i) (hk.ext i)) ?_;rintro u w2 ⟨G,j⟩;have J:=i.size;unfold Jkl at j ⊢;cases hL:L[k]? with
 | none=>
  rw[hL]at j;simp only at j;subst j;refine ρ ?_;exact Vq ⟨rfl,i.trans G⟩
 | some r=>
  rw[hL]at j;obtain⟨RA,rc,st,rfl,h1,h2,h3,h4,h5⟩:=j;refine ρ ?_;exact Vq ⟨⟨RA,rc,st,rfl,h1,h2,h3,h4,λh0 ad e=>nL J (h5 h0 ad e)⟩,i.trans G⟩
theorem Qtj(tb:TB B0 w)(h:IxA w x f ds kf pf BB tot L){PA:Option Addr}{q:Row}(hq:RdR w PA q)(hqc:q.length<=pc):
  Ret Tryz.prog 39 [x,.slice PA q.length pc] w λu w'=>Ext w w'/\(q.length≠f->u=.tuple #[.slice none 0 0,.bool false,.int .i64 0,.int .i64 6]) /\
   (q.length=f->∃(kv:Value) (st:Nat),u=.tuple #[kv,.bool (decide (0<(wiL L q).length)),.int .i64 (st:Int),.int .i64 0]/\NatV w' kv (Zx ds L q)/\st<=Qc f λv=>hmB (BB v)):=by
 obtain⟨A,B,C,D,E,a,b,c,d,e,a',b',c',d',e',rfl⟩:=h.five;refine enE Tryz.func39 Tryz.ntmps39 ?_;refine bxR ?_;intro w1 b1 i a1 J;refine Qk J ?_;refine clR (Qhx (tb.ext i) (h.ext i) (Rd.ext hq i) hqc) ?_;rintro u w2 ⟨j,G,O⟩;by_cases e:q.length=f
 .obtain⟨kv,st,rfl,h1,h2⟩:=O e;refine ρ ?_;exact Jjc ⟨i.trans j,λZ=>absurd e Z,λ_=>⟨kv,st,rfl,h1,h2⟩⟩
 obtain rfl:=G e;refine ρ ?_;exact Jjc ⟨i.trans j,λ_=>rfl,λZ=>absurd Z e⟩
theorem IxA.arr(h:IxA w x f ds kf pf BB tot L)(hs:Lt ds L)(hrow:∀ y∈L,y.length=f)(hl:L.length<=1100000)(hb:Qc f (λv=>hmB (BB v))<=100000000): ArrW w (.iface 100 x) L (Qc f λv=>hmB (BB v)):=by
 obtain⟨A,B,C,D,E,a,b,c,d,e,a',b',c',d',e',rfl⟩:=h.five;refine⟨⟨_,_,Qrm _ _ _ _ _ _ _ _ _ _ _ _ _ _ _,λw' J=>Qtk (h.ext J)⟩,⟨_,_,mIxAt _ _ _ _ _ _ _ _ _ _ _ _ _ _ _,λw' J k vk hk a5=>(Qtl (h.ext J) hk).mono ?_⟩,⟨_,_,Qrl _ _ _ _ _ _ _ _ _ _ _ _ _ _ _,λw' J i vr hi hr=>?_⟩,hl,hb⟩
 .rintro u w2 ⟨O,G⟩;refine⟨?_,G⟩;unfold Jkl at O;unfold AyR;by_cases hk':k<L.length
  .rw[if_pos hk'];rw[getD_some hk']at O;obtain⟨RA,rc,st,rfl,Z,h2,h3,h4,_⟩:=O;exact⟨_,st,rfl,⟨RA,rc,rfl,h2,by have:=h.ip.f32;omega,Z⟩,h4⟩
  rw[if_neg hk'];rw[List.getElem?_eq_none om]at O;exact⟨0,O,Nat.zero_le _⟩
 obtain⟨RA,rc,rfl,a1,a4,a2⟩:=hr;obtain⟨B0,tb⟩:=h.tb;have j:=getD_mem' [] L hi;refine(Qtj (tb.ext J) (h.ext J) a2 a1).mono ?_;rintro u w2 ⟨G,_,a3⟩;obtain⟨kv,st,rfl,Z,h2⟩:=a3 (hrow _ j);rw[Xxn hrow (hrow _ j)]at Z;have hc:(L.filter λy=>decide (Jw y (L.getD i []) ds<0)).length=i:=Jvq hs hi;rw[hc]at Z;refine⟨⟨kv,st,?_,Z,h2⟩,G⟩;have hp:0<(wiL L (L.getD i [])).length:=List.length_pos_of_mem (List.mem_filter.2 ⟨j,by simp⟩);rw[decide_eq_true hp]
end
open Go.RowKit Pl Go.Wk
theorem Qtp{bs:List BkT}{B:Nat}(h:∀ b∈bs,b.2.ht<=B): hmB bs<=B:=by
 have key:∀(l:List BkT) (m:Nat),m<=B->(∀ b∈l,b.2.ht<=B)->l.foldl (λm b=>max m b.2.ht) m<=B:=by
  intro l;induction l with
  | nil=>intro m i _;exact i
  | cons b l ih=>intro m i j;exact ih _ (Nat.max_le.2 ⟨i,j b List.mem_cons_self⟩) λc u=>j c (List.mem_cons_of_mem _ u)
 exact key bs 0 (Nat.zero_le _) h
theorem Jct(A B C D E:Option Addr)(a b c d e a' b' c' d' e':Nat)(w:World): (Instr.build 100 #[(0,.agg #[.slice A a a',.slice B b b',.slice C c c',.slice D d d',.slice E e e'])]).run Tryz.prog w=.ok (.agg #[.slice A a a',.slice B b b',.slice C c c',.slice D d d',.slice E e e']) w:=kr
open Go.RowKit Pl Go.Wk _root_.Go.Proofs.Tryz
variable {ad:Addr}{ds:List Bool}{A C L:List Row}{B BA BC b base bl bn bs c i j k lo0 m n p sz0 t t1 t2 t3:Nat}{r:Row}{R RA RC:Row->Nat}{S SA SC:Row->Prop}{u v va vc vk vl vr vs y:Value}{a w w' w0:World}
def tt8: TT:=(121,{ desc:=.invalid,size:=2,offs:=[0,1] })::(113,{ desc:=.slice 188,esz:=2 })::(188,{ desc:=.array 2 5,size:=2,esz:=1 })::tt7
theorem Qdg: TOk prog tt8:=⟨⟨_,underlying121,kr,kr⟩,⟨kr,kr,kr⟩,⟨kr,kr,kr⟩,Jrl⟩
instance (priority:=9500):Tab prog tt8:=⟨Qdg,mixed⟩
theorem or0(n:Nat)(h:n<18446744073709551616): bits .or .u64 (IntKind.u64.wrap (0*2^min (32:Int).toNat IntKind.u64.bits)) (n:Int)=(n:Int):=by
 have e:IntKind.u64.wrap (0*2^min (32:Int).toNat IntKind.u64.bits)=((0:Nat):Int):=by rw[Int.zero_mul];decide
 rw[e,u64_or_nat 0 n om om,Nat.zero_or]
theorem Xqf{A:Option Addr}{x:UInt32}(ho:Zp w base (.slice A 1 c) [x]): Ret prog 181 [.slice A 1 c,.int .u32 2] w λr w'=>r=.int .u32 ((x.toNat % 2:Nat):Int)/\Zp w' base (.slice A 1 c) [UInt32.ofNat (x.toNat / 2)]/\w.grownBy w' (Value.slice A 1 c).ownBlock:=by
 have hx:x.toNat<4294967296:=x.toNat_lt;refine enE func181 ntmps181 ?_;refine ρ ?_;refine Qf (λk:Nat=>[(0,.slice A 1 c),(1,.int .u32 2),(5,.int .u64 ((if k=1 then 0 else x.toNat % 2:Nat):Int)),(6,.int .i64 ((k:Int)-1))])
  (λk j=>k<=1/\(k=1->j=w)/\(k=0->Zp j base (.slice A 1 c) [UInt32.ofNat (x.toNat / 2)]/\w.grownBy j (Value.slice A 1 c).ownBlock)) (λk=>k) 1 sB ⟨nR _,λ_=>rfl,λh=>om⟩ ?_
 rintro k j ⟨hk,h1,h0⟩;refine ciR (λh=>?_) (λh=>?_)
 .have G:k=1:=by have:=oT h;omega
  subst G;obtain rfl:=h1 rfl;have i:Rd j 1 A 1 (Nc [x]):=Rd.own ho;refine ρ ?_;refine wshl rfl rfl (by decide) rfl ?_;refine ixR 0 i om ?_;refine ldR (i.cell (Xe (l:=[x]) (k:=0) (by simp))) ?_;refine ρ ?_;have Z:bits .or .u64 (IntKind.u64.wrap (((if 1=1 then 0 else x.toNat % 2:Nat):Int)*2^min (32:Int).toNat IntKind.u64.bits)) (IntKind.u64.wrap (([x].getD 0 0).toNat:Int))=(x.toNat:Int):=by
   have e0:IntKind.u64.wrap (([x].getD 0 0).toNat:Int)=(x.toNat:Int):=Uq (z:=(x.toNat:Int)) om;rw[if_pos rfl,e0];exact or0 x.toNat om
  have O:IntKind.u64.wrap 2=2:=by decide
  refine kv 5 (u:=.int .u64 (x.toNat:Int)) (congrArg (Value.int .u64) Z) ?_;refine kv 24 (u:=.int .u64 (x.toNat:Int)) (congrArg (Value.int .u64) Z) ?_;refine kv 26 (u:=.int .u64 2) (congrArg (Value.int .u64) O) ?_;refine wquo rfl rfl (by decide) rfl ?_;have e2:IntKind.u32.wrap (IntKind.u64.wrap ((x.toNat:Int).tdiv 2))=((UInt32.ofNat (x.toNat / 2)).toNat:Int):=by
   have:(x.toNat:Int).tdiv 2=((x.toNat / 2:Nat):Int):=rfl;rw[this,Uq om,Ux]
  obtain⟨s1,s2,s3,s4,s5⟩:=Zt ho (q:=0) (by simp) (.int .u32 ((UInt32.ofNat (x.toNat / 2)).toNat:Int));refine ixR 0 i om ?_;rw[e2];refine sto (s1.trans (Xe (l:=[x]) (k:=0) (by simp))) s2 ?_;refine ρ ?_;refine kv 32 (u:=.int .u64 2) (congrArg (Value.int .u64) O) ?_;refine wrem rfl rfl (by decide) rfl ?_;refine ρ ?_;exact Qy 0 (by
   have e3:(x.toNat:Int).tmod 2=((x.toNat % 2:Nat):Int):=rfl;rw[e3];exact sB) ⟨om,λh=>om,λ_=>⟨s3,s5⟩⟩ om
 have J:k=0:=by have:=oF h;omega
 subst J;obtain⟨D,hg⟩:=h0 rfl;refine ρ ?_;refine Jj ⟨?_,D,hg⟩;rw[if_neg om,Ux,UInt32.toNat_ofNat',Nat.mod_eq_of_lt (show x.toNat % 2<2^32 by omega)]
theorem Qpq(hv:NatV w v n)(hu:NatV w u 2)(hn:n<4294967296):
  Ret prog 144 [v,u] w λr w'=>(∃ x y,r=.tuple #[x,y,.int .i64 0]/\NatV w' x (n / 2)/\Fresh w x)/\Ext w w':=by
 have j:Jq 2=[2]:=Jhm (by decide) (by decide);refine enE func144 ntmps144 ?_;refine clR (Yl hv) ?_;rintro v' w' ⟨⟨A,rfl,ha⟩,rfl⟩;refine clR (Yl hu) ?_;rintro u' a1 ⟨⟨B,rfl,hb⟩,rfl⟩;rw[j]at hb ⊢;have a6:(Jq n).length<=2:=Jfg om;refine clR (Uv (n:=n) (m:=2) ⟨A,_,rfl,Nat.le_refl _,om,ha⟩ ⟨B,1,by rw[j],by rw[j];simp,by rw[j];simp,by rw[j];exact hb⟩) ?_;rintro t w' ⟨rfl,i⟩;refine ciR (λh=>?_) (λh=>?_)
 .have a5:n<2:=by
   have:=oT h;unfold Zg at this;rcases Nat.lt_or_ge n 2 with h1|h1
   .exact h1
   rw[if_neg om]at this;split at this<;>omega
  refine clR (Qwp (ha.ext i) (Jyc _) om) ?_;rintro v' w1 ⟨_,hx⟩;refine ρ ?_;refine Vq ⟨⟨.slice none 0 0,v',rfl,?_,λad _ _ e=>by cases e⟩,i.trans hx⟩;rw[show n / 2=0 by omega];exact NatV.nil _
 have a7:2<=n:=by
  have:=oF h;unfold Zg at this;rcases Nat.lt_or_ge n 2 with h1|h1
  .rw[if_pos h1]at this;omega
  exact h1
 have l1:Jq n=[UInt32.ofNat n]:=Jhm om hn;rw[l1]at ha ⊢;refine clR (Jmn (ha.ext i) (Jyc _) (by simp)) ?_;rintro q w1 ⟨ho,G⟩;obtain⟨A',c',rfl,hc,hf⟩:=Jy ho;have Z:=(hb.ext i).ext G;refine ixR 0 Z (by simp) ?_;refine ldR (Z.cell (Xe (l:=[2]) (k:=0) (by simp))) ?_;refine clR (Xqf ho) ?_;rintro r w2 ⟨rfl,a3,a4⟩;have a2:Ext a1 w2:=Ql (i.trans G) a4 (λk e=>nL i.size (hf k e).1);have O:Rd w2 1 A' 1 (Nc [UInt32.ofNat ((UInt32.ofNat n).toNat / 2)]):=Rd.own a3;refine clR (Ij (l:=[UInt32.ofNat ((UInt32.ofNat n).toNat / 2)]) O hc (by simp)) ?_;rintro t w3 ⟨rfl,rfl⟩;have:=Jjp O (by simp);have J:val [UInt32.ofNat ((UInt32.ofNat n).toNat / 2)]=n / 2:=by
  simp only[val,UInt32.toNat_ofNat'];omega
 rw[J]at this ⊢;refine ρ ?_;rw[Uq om];refine cl (Ig ((UInt32.ofNat n).toNat % 2) om _) ?_;rintro y w4 ⟨_,D⟩;refine ρ ?_;exact Vq ⟨⟨_,y,rfl,this.ext D,λad _ _ e=>by injection e with e;subst e;exact nL i.size (hf ad.block rfl).1⟩,a2.trans D⟩
theorem Qsb(h:n≠0): Jp (n / 2)+1=Jp n:=by
 unfold Jp;rw[if_neg h];by_cases h1:n / 2=0
 .rw[if_pos h1];have:n=1:=om
  subst this;rfl
 rw[if_neg h1];have:Nat.log2 n=Nat.log2 (n / 2)+1:=by rw[Nat.log2_def,if_pos om]
 omega
theorem Qrz(h:n<=m): Jp n<=Jp m:=by
 unfold Jp;by_cases h1:n=0
 .rw[if_pos h1];omega
 rw[if_neg h1,if_neg om];have:2^Nat.log2 n<=m:=nL (Nat.log2_self_le h1) h;have:=(Nat.le_log2 om).2 this;omega
structure SrI(pr:Nat->Bool)(I:World->Nat->Nat->Prop)(lo0 sz0:Nat)(lo sz c:Nat): Prop where
 low:lo0<=lo
 high:lo+sz<=lo0+sz0
 cnt:c+Jp sz<=Jp sz0
 bel:lo=lo0∨pr (lo-1)=false
 abv:lo+sz=lo0+sz0∨pr (lo+sz)=true
theorem Qgm{f:FuncId}{caps:Array Value}{pr:Nat->Bool}{I:World->Nat->Nat->Prop}{N:Nat->Prop}(hI:∀ w w' hi c,I w hi c->Ext w w'->I w' hi c)(hN:∀ k,N k->k<w.heap.size)(hT:∀ w1 p vp hi c,GrN N w w1->I w1 hi c->NatX N w1 vp p->lo0<=p->p<lo0+sz0->c<Jp sz0->Ret prog f (vp::caps.toList) w1 λx w2=>x=.tuple #[.bool (pr p),.int .i64 0]/\GrN N w1 w2/\I w2 (if pr p then p else hi) (c+1))(h0:I w (lo0+sz0) 0)(hl:NatV w vl lo0)(hs:NatV w vs sz0)(hlb:lo0<2000000000)(hsb:sz0<2000000000):
  Ret prog 152 [vl,vs,.func (.func f) #[] caps] w λx w'=>∃ vp p c,x=.tuple #[vp,.int .i64 0]/\NatV w' vp p/\I w' p c/\GrN N w w'/\c<=Jp sz0/\lo0<=p/\p<=lo0+sz0/\(p=lo0∨pr (p-1)=false)/\(p=lo0+sz0∨pr p=true):=by
 refine enE func152 ntmps152 ?_;refine clR (Jwn hl (Vu om)) ?_;rintro ap w1 ⟨ay,b4,a2⟩;refine clR (Jwn (hs.ext a2) (Vu om)) ?_;rintro an w2 ⟨av,b3,ab⟩;have b8:∀ k,N k->k<w1.heap.size:=λk J=>nM (hN k J) a2.size;refine ρ ?_;refine Qbz (fun (a b:Value) (lo sz c:Nat)=>[(0,a),(1,b),(2,.func (.func f) #[] caps)])
  (λa b lo sz c w3=>GrN N w w3/\NatX N w3 a lo/\NatX N w3 b sz/\I w3 (lo+sz) c/\SrI pr I lo0 sz0 lo sz c) (λ_ _ _ sz _=>sz) ap an lo0 sz0 0 sB
  ⟨GrN.ext (a2.trans ab),(b4.x ay hN).ext ab,b3.x av b8,hI _ _ _ _ h0 (a2.trans ab),⟨nR _,Nat.le_refl _,om,.inl rfl,.inl rfl⟩⟩ ?_
 rintro a b lo sz c w3 ⟨O,ha,hb,ak,hS⟩;have h1:=hS.low;have h2:=hS.high;have ad:∀ k,N k->k<w3.heap.size:=λk J=>nM (hN k J) O.size;obtain⟨B,cb,rfl,bc,be,bd⟩:=id hb.1;refine ciR (λh=>?_) (λh=>?_)
 .have ac:sz≠0:=λe=>by
   subst e;have:=oT h;rw[limbs_0]at this;simp at this
  have b5:=Qsb ac;have hc:=hS.cnt;refine clR (Ig 2 om _) ?_;rintro u w4 ⟨hu,a1⟩;refine clR (Qpq (hb.1.ext a1) hu om) ?_;rintro x w5 ⟨⟨vh,vy,rfl,hh,b2⟩,aa⟩;refine clR (Gt ((ha.1.ext a1).ext aa) hh (Vu om) (Vu om)) ?_;rintro vm w6 ⟨hm,b1,ae⟩;have G:=(a1.trans aa).trans ae;have ai:∀ k,N k->k<w4.heap.size:=λk J=>nM (ad k J) a1.size;have b7:∀ k,N k->k<w5.heap.size:=λk J=>nM (ai k J) aa.size;have ag:NatX N w6 vh (sz / 2):=(b2.x hh ai).ext ae;have af:NatX N w6 vm (lo+sz / 2):=b1.x hm b7;refine ρ ?_;refine clv (hT w6 (lo+sz / 2) vm (lo+sz) c (O.trans (GrN.ext G)) (hI _ _ _ _ ak G) af om om om) ?_;rintro x w7 ⟨rfl,a3,Z⟩;have i:GrN N w3 w7:=(GrN.ext G).trans a3;refine ciR (λhp=>?_) (λhp=>?_)
  .refine ρ ?_;rw[hp,if_pos rfl]at Z;refine Qjh a vh lo (sz / 2) (c+1) sB ⟨O.trans i,ha.gr i,ag.gr a3,Z,⟨h1,om,om,hS.bel,.inr hp⟩⟩ om
  refine ρ ?_;rw[hp]at Z;rw[if_neg (by decide)]at Z;refine cl (Ig 1 om _) ?_;rintro u1 w8 ⟨au,a9⟩;refine clR (Gt ((af.gr a3).1.ext a9) au (Vu om) (Vu om)) ?_;rintro ao w9 ⟨ax,ah,aq⟩;refine clR (Ig 1 om _) ?_;rintro u2 ba ⟨ar,a7⟩;refine ρ ?_;have a4:=(a9.trans aq).trans a7;refine cl (Jhh ((ag.gr a3).1.ext a4) ar (Vu om) (Vu om)) ?_;rintro vq am ⟨hq,a6⟩;have j:=a4.trans a6;refine clR (Jhg ((hb.gr i).1.ext j) hq (Vu om)) ?_;rintro y b9 ⟨⟨vz,rfl,hz,az⟩,a5⟩;have a8:=i.size;have b6:∀ k,N k->k<w8.heap.size:=λk J=>nM (ad k J) (nL a8 a9.size);have aj:∀ k,N k->k<am.heap.size:=λk J=>nM (ad k J) (nL a8 j.size);have D:=j.trans a5;refine ρ ?_;have e1:lo+sz / 2+1+(sz-(sz / 2+1))=lo+sz:=om
  have bb:Jp (sz-(sz / 2+1))<=Jp (sz / 2):=Qrz om;refine Qjh ao vz (lo+sz / 2+1) (sz-(sz / 2+1)) (c+1) sB ⟨(O.trans i).trans (GrN.ext D),((ah.x ax b6).ext a7).ext (a6.trans a5),az.x hz aj,by rw[e1];exact hI _ _ _ _ Z D,⟨om,om,om,.inr (by rw[Nat.add_sub_cancel];exact hp),by rw[e1];exact hS.abv⟩⟩ om
 have ac:sz=0:=by
  have:=oF h;rcases Nat.eq_zero_or_pos sz with h0|h0
  .exact h0
  exfalso
  apply this
  have:Jq sz≠[]:=λe=>by rw[Jzr om]at e;cases e
  have:=List.length_pos_iff.2 this;omega
 subst ac;have hc:=hS.cnt;refine ρ ?_;exact Vx ⟨a,lo,c,rfl,ha.1,ak,O,om,h1,h2,hS.bel,hS.abv⟩
section
variable {A C:List Row}
def cF(A C:List Row)(i:Nat): Nat:=((A.take i).filter (λr=>decide (r∈C))).length
def dF(A C:List Row)(i:Nat): Nat:=((A.take i).filter (λr=>!decide (r∈C))).length
def Xg(A C:List Row): List Row:=A.filter (λr=>!decide (r∈C))
theorem Jrw{A:List Row}(h:i<A.length): A.take (i+1)=A.take i++[A.getD i []]:=by
 rw[List.take_succ_eq_append_getElem h];simp[List.getD,List.getElem?_eq_getElem h]
theorem Jmp(h:i<A.length): cF A C (i+1)=cF A C i+(if A.getD i []∈C then 1 else 0):=by
 unfold cF;rw[Jrw h,List.filter_append,List.length_append];by_cases hc:A.getD i []∈C
 .rw[if_pos hc,List.filter_cons_of_pos (by simpa using hc)];rfl
 rw[if_neg hc,List.filter_cons_of_neg (by simpa using hc)];rfl
theorem Jmd(h:i<A.length): dF A C (i+1)=dF A C i+(if A.getD i []∈C then 0 else 1):=by
 unfold dF;rw[Jrw h,List.filter_append,List.length_append];by_cases hc:A.getD i []∈C
 .rw[if_pos hc,List.filter_cons_of_neg (by simpa using hc)];rfl
 rw[if_neg hc,List.filter_cons_of_pos (by simpa using hc)];rfl
theorem Jkg(h:i<=A.length): cF A C i+dF A C i=i:=by
 induction i with
 | zero=>simp[cF,dF]
 | succ i ih=>
  have:=ih om;rw[Jmp om,Jmd om];split<;>omega
theorem Xzg(h:i<=j): cF A C i<=cF A C j:=by
 unfold cF;have:(A.take i).Sublist (A.take j):=by
  have e:A.take i=(A.take j).take i:=by rw[List.take_take,Nat.min_eq_left h]
  rw[e];exact List.take_sublist _ _
 exact(this.filter _).length_le
theorem Qkm(h:i<A.length)(hc:A.getD i [] ∉ C): (Xg A C).getD (dF A C i) []=A.getD i []/\dF A C i<(Xg A C).length:=by
 have e:Xg A C=(A.take i).filter (λr=>!decide (r∈C))++(A.getD i []::(A.drop (i+1)).filter (λr=>!decide (r∈C))):=by
  unfold Xg;conv=>lhs;rw[<-List.take_append_drop i A,List.filter_append]
  congr 1
  rw[List.drop_eq_getElem_cons h];have j:A.getD i []=A[i]:=by simp[List.getD,List.getElem?_eq_getElem h]
  rw[j]at hc ⊢;rw[List.filter_cons_of_pos (by simpa using hc)]
 rw[e];unfold dF;refine⟨?_,by simp⟩;simp[List.getD]
structure DifH(A C:List Row)(RC:Row->Nat): Prop where
 rank:∀ i,i<A.length->RC (A.getD i [])=cF A C i
 size:C.length=cF A C A.length
theorem DifH.len(h:DifH A C RC): (Xg A C).length=A.length-C.length/\C.length<=A.length:=by
 have u:=Jkg (A:=A) (C:=C) (nR _);have j:=h.size;have i:dF A C A.length=(Xg A C).length:=by unfold dF Xg;rw[List.take_length]
 omega
def prD(A C:List Row)(k p:Nat): Bool:=decide (k+cF A C (p+1)<=p)
theorem found(h:DifH A C RC)(hk:k<(Xg A C).length)(h1:k<=p)(h2:p<=k+C.length)(h3:p=k∨prD A C k (p-1)=false)(h4:p=k+C.length∨prD A C k p=true):
  p<A.length/\A.getD p []=(Xg A C).getD k []:=by
 obtain⟨O,u⟩:=h.len;have hp:p<A.length:=om
 have G:=Jkg (A:=A) (C:=C) (i:=p) om;have D:=Jkg (A:=A) (C:=C) (i:=p+1) om;have J:cF A C (p+1)<=C.length:=by rw[h.size];exact Xzg om
 have g1:k+1<=dF A C (p+1):=by
  rcases h4 with h4|h4
  .omega
  have:=oT h4;omega
 have Z:dF A C p<=k:=by
  rcases h3 with h3|h3
  .omega
  have h3:=oF h3;rcases Nat.eq_zero_or_pos p with h0|h0
  .subst h0;omega
  rw[Nat.sub_add_cancel h0]at h3;omega
 have j:=Jmd (C:=C) hp;by_cases hc:A.getD p []∈C
 .rw[if_pos hc]at j;omega
 rw[if_neg hc]at j;have:dF A C p=k:=om
 refine⟨hp,?_⟩;rw[<-this];exact(Qkm hp hc).1.symm
end
structure ArrO(w:World)(v:Value)(L:List Row)(R:Row->Nat)(B:Nat)(S:Row->Prop): Prop where
 len:∃ f rv,Yd Tryz.prog v "Len" f rv/\∀ w',Ext w w'->Ret Tryz.prog f [rv] w' λx w''=>NatV w'' x L.length/\Ext w' w''
 at_:∃ f rv,Yd Tryz.prog v "At" f rv/\∀ w',Ext w w'->∀ k vk,NatV w' vk k->k<9223372036854775808->Ret Tryz.prog f [rv,vk] w' λx w''=>AyR w'' L B k x/\Ext w' w''
 rank:∃ f rv,Yd Tryz.prog v "Rank" f rv/\∀ w',Ext w w'->∀ r vr,S r->RowV w' vr r->Ret Tryz.prog f [rv,vr] w' λx w''=>(∃ vn,∃ s:Nat,x=.tuple #[vn,.bool (decide (r∈L)),.int .i64 (s:Int),.int .i64 0]/\NatV w'' vn (R r)/\s<=B)/\Ext w' w''
 small:L.length<=1100000
 rk:∀ r,S r->R r<=L.length
 bd:B<=100000000
theorem ArrO.ext(h:ArrO w v L R B S)(hx:Ext w w'): ArrO w' v L R B S:=by
 obtain⟨⟨f1,r1,O,h1⟩,⟨f2,D,J,h2⟩,⟨f3,u,G,h3⟩,h4,h5,Z⟩:=h;exact⟨⟨f1,r1,O,λj i=>h1 j (hx.trans i)⟩,⟨f2,D,J,λj i=>h2 j (hx.trans i)⟩,⟨f3,u,G,λj i=>h3 j (hx.trans i)⟩,h4,h5,Z⟩
theorem ArrO.form(h:ArrO w v L R B S): ∃ t x,v=.iface t x:=by
 obtain⟨⟨f1,r1,⟨t,x,rfl,_⟩,i⟩,_⟩:=h;exact⟨t,x,rfl⟩
theorem ArrW.o(h:ArrW w v L B)(hs:Lt ds L): ArrO w v L (cnt ds L) B (·∈L):=by
 obtain⟨h1,h2,⟨f3,r3,m3,h3⟩,h4,h5⟩:=h;refine⟨h1,h2,⟨f3,r3,m3,λG j r O hr D=>?_⟩,h4,λr _=>Jcq _ _ _,h5⟩;obtain⟨i,hi,rfl⟩:=List.getElem_of_mem hr;rw[<-Qd [] L hi]at D ⊢;refine(h3 G j i O hi D).mono ?_;rintro x J ⟨⟨Z,s,e,hn,u⟩,hx⟩;exact⟨⟨Z,s,by rw[decide_eq_true (getD_mem' [] L hi)];exact e,by rw[Jvq hs hi];exact hn,u⟩,hx⟩
theorem Gr{m:List Row}(h:RowsA w v ds m)(hl:Lt ds m)(hms:m.length<256)(S:Row->Prop): ArrO w (.iface 125 v) m (cnt ds m) 64 S:=by
 obtain⟨v1,v2,rfl,u,j⟩:=id h;refine⟨⟨_,_,Qrj _ _,λw' i=>Qhj (h.ext i)⟩,⟨_,_,Qrk _ _,λw' i k vk Z G=>(Qhk (h.ext i) Z G).mono λx D ⟨u,j⟩=>⟨u.mono om,j⟩⟩,
  ⟨_,_,Qrh _ _,λw' i r vr _ O=>(Qhg (h.ext i) O hl hms).mono λx D ⟨⟨J,u,j⟩,h3⟩=>⟨⟨J,Jp m.length,u,j,by have:=Jqn (k:=8) (x:=m.length) om;omega⟩,h3⟩⟩,om,λr _=>Jcq _ _ _,om⟩
theorem Jmv{cs:List Value}(hB:Blk w b t cs)(he:ad.block=b)(hc:w.cell? ad=some u): cs[ad.off]?=some u:=by
 unfold World.cell? at hc;rw[he]at hc;rw[show w.heap[b]?=_ from hB]at hc;simp only at hc;split at hc
 .cases hc
 simpa using hc
theorem Jhd(h:NatV w v n)(hB:Blk w b t [y])(hy:∀ x,y≠.int .u32 x)(h0:n≠0)(e:v=.slice (some ad) m c): ad.block≠b:=by
 intro u;obtain⟨A,O,rfl,J,G,D⟩:=h;injection e with e1 e2 e3
 subst e1;have j:Jq n≠[]:=λe=>by rw[Jzr h0]at e;cases e
 have hp:=List.length_pos_iff.2 j;have:=D.cell (Xe (l:=Jq n) (k:=0) om);rw[show adr (some ad) 0=ad from rfl]at this;have:=Jmv hB u this;have i:=List.mem_of_getElem? this;rw[List.mem_singleton]at i;exact hy _ i.symm
theorem Jfw(h:RowV w v r)(hB:Blk w b t [y])(h0:r≠[]){A:Option Addr}(e:v=.slice A m c): ∀ ad,A=some ad->ad.block≠b:=by
 rintro ad rfl D;obtain⟨A,Z,rfl,O,J,G⟩:=h;injection e with e1 e2 e3
 subst e1;have hp:=List.length_pos_iff.2 h0;have c0:=RdR.cell G hp (j:=1) (u:=((r.getD 0 V0).cells.getD 1 (.bool false))) (by rfl);rw[show(adr (some ad) (0*3)).add 1=ad.add 1 from rfl]at c0;have:=Jmv hB (ad:=ad.add 1) (by rw[Ug];exact D) c0;have i:=(List.getElem?_eq_some_iff.1 this).1;simp[Addr.add]at i
def Ve(bs bl bn:Nat)(k:Nat): Prop:=k=bs∨k=bl∨k=bn
theorem Qpl{s:Int}{kn:Bool}(h:NatV w v n)(h1:Blk w bs t1 [.int .i64 s])(h2:Blk w bl t2 [vl])(hl:∃ A n c,vl=.slice A n c)(h3:Blk w bn t3 [.bool kn]): NatX (Ve bs bl bn) w v n:=by
 obtain⟨A,j,c,rfl⟩:=hl;refine⟨h,λh0 u m c e i=>?_⟩;rcases i with i|i|i
 .exact Jhd h h1 (λx e=>by cases e) h0 e i
 .exact Jhd h h2 (λx e=>by cases e) h0 e i
 exact Jhd h h3 (λx e=>by cases e) h0 e i
theorem Qhm{v1 v2 v3:Value}(h:RowV w v r)(h1:Blk w bs t1 [v1])(h2:Blk w bl t2 [v2])(h3:Blk w bn t3 [v3]): RowX w (Ve bs bl bn) v r:=by
 obtain⟨A,c,e,J,G,D⟩:=id h;refine⟨A,c,e,J,G,D,λh0 u j i=>?_⟩;rcases i with i|i|i
 .exact Jfw h h1 h0 e u j i
 .exact Jfw h h2 h0 e u j i
 exact Jfw h h3 h0 e u j i
structure AtI(A C:List Row)(k S bs bl bn:Nat)(a w:World)(hi c:Nat): Prop where
 old:Ext a w
 steps:∃ s:Nat,Blk w bs 3 [.int .i64 (s:Int)]/\s<=S*c
 last:∃ kn vl,Blk w bl 59 [vl]/\(∃ A n c,vl=.slice A n c)/\Blk w bn 4 [.bool kn]/\(kn=true->RowX w (Ve bs bl bn) vl (A.getD hi []))/\(kn=false->hi=k+C.length)
theorem Qrx{x:Nat}(h:x<2^k): Jp x<=k:=by
 unfold Jp;split
 .omega
 rename_i h0;have:=(Nat.log2_lt h0).2 h;omega
theorem Xqp{vp:Value}{bd bk hi:Nat}(hD:DifH A C RC)(ha:ArrO w0 va A RA BA SA)(hc:ArrO w0 vc C RC BC SC)(hSC:∀ r,r∈A->SC r)(hx0:Ext w0 a)(hbd:Blk a bd 121 [va,vc])(hbk:Blk a bk 45 [vk])(hk:NatV a vk k)(hkb:k<2000000)(h1:a.heap.size<=bs)(h2:a.heap.size<=bl)(h3:a.heap.size<=bn)(hsl:bs≠bl)(hsn:bs≠bn)(hln:bl≠bn)(hI:AtI A C k (BA+BC) bs bl bn a w hi c)(hp:NatX (Ve bs bl bn) w vp p)(hpA:p<A.length)(hcb:c<=64):
  Ret Tryz.prog 153 [vp,.pointer (some ⟨bd,0,none⟩),.pointer (some ⟨bs,0,none⟩),.pointer (some ⟨bk,0,none⟩),.pointer (some ⟨bl,0,none⟩),.pointer (some ⟨bn,0,none⟩)] w
   λx w'=>x=.tuple #[.bool (prD A C k p),.int .i64 0]/\GrN (Ve bs bl bn) w w'/\AtI A C k (BA+BC) bs bl bn a w' (if prD A C k p then p else hi) (c+1):=by
 have cp:=ha.bd;have co:=hc.bd;have ce:=ha.small;obtain⟨ao,⟨s0,bp,cj⟩,kn,vl,b4,ba,b2,bh,bi⟩:=hI;obtain⟨fA,rA,mA,hA⟩:=ha.at_;obtain⟨fC,rC,mC,cb⟩:=hc.rank;have hN:∀ k,Ve bs bl bn k->w0.heap.size<=k/\k<w.heap.size:=λk hk=>by
  have:=hx0.size;have l1:=bp.lt;have l2:=b4.lt;have l3:=b2.lt;rcases hk with rfl|rfl|rfl<;>constructor<;>omega
 have br:=hbd.ext ao;refine enE Tryz.func153 Tryz.ntmps153 ?_;refine ldR (br.at rfl) ?_;refine ρ ?_;refine inv mA (hA w (hx0.trans ao) p vp hp.1 om) ?_;rintro y w1 ⟨hy,a1⟩;unfold AyR at hy;rw[if_pos hpA]at hy;obtain⟨vr,Z,rfl,ar,ch⟩:=hy;have O:=bp.ext a1;have ar:=Qhm ar O (b4.ext a1) (b2.ext a1);refine ldR (O.cell 0) ?_;have hm:(BA+BC)*c<=200000000*64:=Nat.mul_le_mul om hcb;refine Xq (O.cell 0) (O.frozen 0) ?_;have ah:=O.set 0 (.int .i64 ((s0:Int)+(Z:Int)));have bj:GrN (Ve bs bl bn) w1 (w1.setCell ⟨bs,0,none⟩ (.int .i64 ((s0:Int)+(Z:Int)))):=GrN.set _ (.inl rfl);have aq:Ext a (w1.setCell ⟨bs,0,none⟩ (.int .i64 ((s0:Int)+(Z:Int)))):=(ao.trans a1).setCell h1 _;have a6:=(GrN.ext a1).trans bj;have am:=(b4.ext a1).far (p:=⟨bs,0,none⟩) (Ne.symm hsl) (.int .i64 ((s0:Int)+(Z:Int)));have aj:=(b2.ext a1).far (p:=⟨bs,0,none⟩) (Ne.symm hsn) (.int .i64 ((s0:Int)+(Z:Int)));generalize w1.setCell ⟨bs,0,none⟩ (.int .i64 ((s0:Int)+(Z:Int)))=w2 at *
 simp only[List.set_cons_zero]at ah;have bc:=ar.gr bj;have c8:=hp.gr a6;refine ρ ?_;obtain⟨tc,xc,rfl⟩:=hc.form;refine dr [(0,0),(0,1),(0,2),(0,4),(0,5),(1,3),(1,6),(0,7),(0,8),(0,9),(0,10),(0,11),(0,12),(0,13),(0,14),(0,15)] kr ?_;have an:Ext w2 w2.drew:=(Ext.refl w2).drew;refine Jz (((hbd.ext aq).ext an).at rfl) ?_;refine ρd ?_;refine dnci ?_;refine Jh (Ye (bc.v.ext an) (λ_=>False) (λ_ h=>h.elim)) ?_;rintro bw w3 ⟨c6,b7⟩;refine⟨b7,?_⟩;have a5:=an.trans b7;have bg:A.getD p []∈A:=by simp[List.getD,List.getElem?_eq_getElem hpA]
 have cq:∀ k,Ve bs bl bn k->w0.heap.size<=k/\k<w3.heap.size:=λk hk=>⟨(hN k hk).1,Nat.lt_of_lt_of_le (hN k hk).2 (nL a6.size a5.size)⟩;refine ρd ?_;refine Jvm mC (cb w3 ((hx0.trans aq).trans a5) (A.getD p []) bw (hSC _ bg) c6.v) ?_;rintro y w4 ⟨⟨vn,s2,rfl,ax,cg⟩,b6⟩;refine⟨b6,?_⟩;have D:=a5.trans b6;have J:=ah.ext D;have ax:=Qpl ax J (am.ext D) ba (aj.ext D);refine ρd ?_;refine ldR (J.cell 0) ?_;refine Xq (J.cell 0) (J.frozen 0) ?_;have a7:=J.set 0 (.int .i64 ((s0:Int)+(Z:Int)+(s2:Int)));have ac:GrN (Ve bs bl bn) w4 (w4.setCell ⟨bs,0,none⟩ (.int .i64 ((s0:Int)+(Z:Int)+(s2:Int)))):=GrN.set _ (.inl rfl);have ap:Ext a (w4.setCell ⟨bs,0,none⟩ (.int .i64 ((s0:Int)+(Z:Int)+(s2:Int)))):=(aq.trans D).setCell h1 _;have a3:=(a6.trans (GrN.ext D)).trans ac;have ak:=(am.ext D).far (p:=⟨bs,0,none⟩) (Ne.symm hsl) (.int .i64 ((s0:Int)+(Z:Int)+(s2:Int)));have ai:=(aj.ext D).far (p:=⟨bs,0,none⟩) (Ne.symm hsn) (.int .i64 ((s0:Int)+(Z:Int)+(s2:Int)))
 have c5:=(bc.ext D).gr ac;have c7:=(c8.ext D).gr ac;have av:=ax.gr ac;generalize w4.setCell ⟨bs,0,none⟩ (.int .i64 ((s0:Int)+(Z:Int)+(s2:Int)))=w5 at *
 simp only[List.set_cons_zero]at a7;rw[hD.rank p hpA]at av;have cn:cF A C p<=A.length:=by have:=Jkg (A:=A) (C:=C) (i:=p) om;omega
 refine ρ ?_;refine Zb (λu:Value=>[(9,vr),(0,vp),(2,.pointer (some ⟨bs,0,none⟩)),(3,.pointer (some ⟨bk,0,none⟩)),(4,.pointer (some ⟨bl,0,none⟩)),(5,.pointer (some ⟨bn,0,none⟩)),(12,u)])
  (λu w6=>Ext w5 w6/\NatV w6 u (cF A C (p+1))) ?_ ?_
 .refine ci (λh=>?_) (λh=>?_)
  .have ay:A.getD p []∈C:=oT h;refine clR (Ig 1 om _) ?_;rintro u1 w6 ⟨c4,a4⟩;refine clR (Jhh (av.1.ext a4) c4 (Vu om) (Vu om)) ?_;rintro u2 w7 ⟨c3,ab⟩;refine ρ ?_;exact Jf u2 sB ⟨a4.trans ab,by rw[Jmp hpA,if_pos ay];exact c3⟩
  have ay:A.getD p [] ∉ C:=oF h;refine ρ ?_;exact Jf vn sB ⟨Ext.refl _,by rw[Jmp hpA,if_neg ay];exact av.1⟩
 rintro u w6 ⟨a4,hu⟩;have ad:=ap.trans a4;have cc:cF A C (p+1)<=A.length:=by have:=Jkg (A:=A) (C:=C) (i:=p+1) om;omega
 refine ldR ((hbk.ext ad).cell 0) ?_;refine clR (Jhh (hk.ext ad) hu (Vu om) (Vu om)) ?_;rintro v7 w7 ⟨c2,ab⟩;refine clR (Uv ((c7.1.ext a4).ext ab) c2) ?_;rintro t w8 ⟨rfl,c1⟩;have j:=(a4.trans ab).trans c1;have ae:s0+Z+s2<=(BA+BC)*(c+1):=by rw[Nat.mul_succ];omega
 refine ciR (λh=>?_) (λh=>?_)
 .have ck:=cmq_lt.1 (oT h);have au:prD A C k p=false:=decide_eq_false om;refine ρ ?_;rw[au,if_neg (by decide)];refine Vx ⟨rfl,a3.trans (GrN.ext j),⟨ap.trans j,⟨s0+Z+s2,?_,ae⟩,kn,vl,ak.ext j,ba,ai.ext j,λe=>((bh e).gr a3).ext j,bi⟩⟩;have:=a7.ext j;simpa using this
 have cm:¬ p<k+cF A C (p+1):=λh'=>oF h (cmq_lt.2 h');have au:prD A C k p=true:=decide_eq_true om;have ca:∀ k,Ve bs bl bn k->k<w8.heap.size:=λk hk=>nM (hN k hk).2 (nL a3.size j.size);refine clR (Ye (c5.v.ext j) (Ve bs bl bn) ca) ?_;rintro cd w9 ⟨bb,bz⟩;have G:=j.trans bz;have a9:=ak.ext G;have bq:=ai.ext G;have bo:=a7.ext G;have b5:=ap.trans G;have bm:=a3.trans (GrN.ext G);obtain⟨A9,c9,rfl,_⟩:=id bb;refine Xq (a9.cell 0) (a9.frozen 0) ?_;have aa:=a9.set 0 (.slice A9 (A.getD p []).length c9);have a2:=bq.far (p:=⟨bl,0,none⟩) (Ne.symm hln) (.slice A9 (A.getD p []).length c9);have b1:=bo.far (p:=⟨bl,0,none⟩) hsl (.slice A9 (A.getD p []).length c9);have b9:=b5.setCell (p:=⟨bl,0,none⟩) h2 (.slice A9 (A.getD p []).length c9);have ag:GrN (Ve bs bl bn) w9 (w9.setCell ⟨bl,0,none⟩ (.slice A9 (A.getD p []).length c9)):=GrN.set _ (.inr (.inl rfl))
 have bf:=bb.gr ag;generalize w9.setCell ⟨bl,0,none⟩ (.slice A9 (A.getD p []).length c9)=w10 at *
 simp only[List.set_cons_zero]at aa;refine Xq (a2.cell 0) (a2.frozen 0) ?_;have a8:=a2.set 0 (.bool true);have b3:=aa.far (p:=⟨bn,0,none⟩) hln (.bool true);have az:=b1.far (p:=⟨bn,0,none⟩) hsn (.bool true);have b8:=b9.setCell (p:=⟨bn,0,none⟩) h3 (.bool true);have af:GrN (Ve bs bl bn) w10 (w10.setCell ⟨bn,0,none⟩ (.bool true)):=GrN.set _ (.inr (.inr rfl));have be:=bf.gr af;generalize w10.setCell ⟨bn,0,none⟩ (.bool true)=w11 at *
 simp only[List.set_cons_zero]at a8;refine ρ ?_;rw[au,if_pos rfl];refine Vx ⟨rfl,(bm.trans ag).trans af,⟨b8,⟨s0+Z+s2,?_,ae⟩,true,_,b3,⟨_,_,_,rfl⟩,a8,λe=>be,λe=>by cases e⟩⟩;simpa using az
theorem zRow: Qr Tryz.prog 59=some (.slice none 0 0):=kr
theorem Kk: Qr Tryz.prog 121=some (.agg #[.nilIface,.nilIface]):=kr
def DAt(w:World)(D:List Row)(B k:Nat)(x:Value): Prop :=
 if k<D.length then ∃ vr,∃ s:Nat,x=.tuple #[vr,.int .i64 (s:Int),.int .i64 0]/\RowV w vr (D.getD k [])/\s<=B
 else x=.tuple #[.slice none 0 0,.int .i64 0,.int .i64 3]
theorem Jlw(hD:DifH A C RC)(ha:ArrO w va A RA BA SA)(hc:ArrO w vc C RC BC SC)(hSC:∀ r,r∈A->SC r)(hk:NatV w vk k)(hkb:k<2000000):
  Ret Tryz.prog 98 [.agg #[va,vc],vk] w λx w'=>DAt w' (Xg A C) ((BA+BC)*Jp C.length+BA) k x/\Ext w w':=by
 obtain⟨cp,d3⟩:=hD.len;have cj:=ha.small;have ch:=hc.small;have cz:=ha.bd;have cy:=hc.bd;obtain⟨ta,xa,rfl⟩:=ha.form;obtain⟨tc,xc,rfl⟩:=hc.form;obtain⟨fL,rL,mL,hL⟩:=ha.len;obtain⟨fM,rM,mM,hM⟩:=hc.len;obtain⟨A0,c0,rfl,cx,cq,cm⟩:=id hk;refine enE Tryz.func98 Tryz.ntmps98 ?_;refine bxR ?_;intro w1 bd bh d1 c7;refine bxR ?_;intro w2 bk b1 d0 c6;have O:=c7.ext b1;have G:=bh.trans b1;refine ldR (O.at rfl) ?_;refine ρ ?_;refine Jww ifA (.inr ⟨_,_,rfl⟩) ?_;refine ldR (O.at rfl) ?_;refine ρ ?_;refine inv mM (hM w2 G) ?_;rintro vm w3 ⟨b4,ao⟩;refine ldR ((O.ext ao).at rfl) ?_;refine ρ ?_;refine inv mL (hL w3 (G.trans ao)) ?_;rintro vl w4 ⟨c1,an⟩;refine clR (Jhf c1 (b4.ext an) (Vu om)) ?_;rintro y w5 ⟨⟨vd,rfl,c3⟩,az⟩;rw[if_neg (show¬ A.length<C.length by omega)];have a2:=(ao.trans an).trans az;have ag:=c6.ext a2;refine ldR (ag.cell 0) ?_;refine clR (Uv ((hk.ext G).ext a2) c3) ?_
 rintro t w6 ⟨rfl,am⟩;have a1:=a2.trans am;refine ciR (λh=>?_) (λh=>?_)
 .have cv:=cmq_ge.1 (oT h);refine ρ ?_;refine Vq ⟨?_,G.trans a1⟩;unfold DAt;rw[if_neg om]
 have aq:k<(Xg A C).length:=by
  have:=oF h;rcases Nat.lt_or_ge k (A.length-C.length) with h1|h1
  .omega
  exact absurd (cmq_ge.2 h1) this
 refine Jv zInt ?_;intro w7 bs ax ba b8;refine Jv Jdk ?_;intro w8 bn av c8 c5;refine ρ ?_;have a5:=b8.ext av;refine sto (a5.cell 0) (a5.frozen 0) ?_;have ap:bs≠bn:=by have:=b8.lt;omega
 have ay:=ax.trans av;have ae:=a5.set 0 (.int .i64 0);have a9:=c5.far (p:=⟨bs,0,none⟩) (Ne.symm ap) (.int .i64 0);have bg:Ext w6 (w8.setCell ⟨bs,0,none⟩ (.int .i64 0)):=ay.setCell ba _;generalize w8.setCell ⟨bs,0,none⟩ (.int .i64 0)=w9 at *
 simp only[List.set_cons_zero]at ae;refine Xq (a9.cell 0) (a9.frozen 0) ?_;have ai:w6.heap.size<=bn:=nL ax.size c8;have J:=a9.set 0 (.bool false);have a8:=ae.far (p:=⟨bn,0,none⟩) ap (.bool false);have ad:Ext w6 (w9.setCell ⟨bn,0,none⟩ (.bool false)):=bg.setCell ai _;generalize w9.setCell ⟨bn,0,none⟩ (.bool false)=w10 at *
 simp only[List.set_cons_zero]at J;refine Jv zRow ?_;intro bf bl a3 bc b9;have bi:bs≠bl:=by have:=a8.lt;omega
 have bz:bl≠bn:=by have:=J.lt;omega
 have u:=ad.trans a3;have bb:w6.heap.size<=bl:=nL ad.size bc;have a7:=a8.ext a3;have aa:=J.ext a3;have ah:=O.ext a1;have af:=ag.ext am;have i:=G.trans a1;have b5:=hk.ext i;refine ldR ((af.ext u).cell 0) ?_;have cb:Jp C.length<=21:=Qrx om;have hN:∀ j,Ve bs bl bn j->j<bf.heap.size:=λj hj=>by
  have l1:=a7.lt;have l2:=b9.lt;have l3:=aa.lt;rcases hj with rfl|rfl|rfl<;>omega
 have ca:∀ j,Ve bs bl bn j->w6.heap.size<=j:=λj hj=>by rcases hj with rfl|rfl|rfl<;>omega
 refine clR (Qgm (pr:=prD A C k) (I:=AtI A C k (BA+BC) bs bl bn w6) (N:=Ve bs bl bn) (lo0:=k) (sz0:=C.length)
  (λw w' hi c h hx=>⟨h.old.trans hx,by obtain⟨s,h1,h2⟩:=h.steps;exact⟨s,h1.ext hx,h2⟩,by obtain⟨kn,vl,h1,h2,h3,h4,h5⟩:=h.last;exact⟨kn,vl,h1.ext hx,h2,h3.ext hx,λe=>(h4 e).ext hx,h5⟩⟩)
  hN
  (λw1 p vp hi c hg hI hp co cr cw=>Xqp hD (ha.ext i) (hc.ext i) hSC (Ext.refl _) ah af b5 hkb ba bb ai bi ap bz hI hp om om)
  ⟨u,⟨0,a7,Nat.zero_le _⟩,false,_,b9,⟨_,_,_,rfl⟩,aa,λe=>(by cases e),λ_=>rfl⟩
  (b5.ext u) ((((b4.ext an).ext az).ext am).ext u) om om) ?_
 rintro y Z ⟨vp,p,c,rfl,b3,be,b7,c4,bw,br,bq,bp⟩;obtain⟨bo,b2⟩:=found hD aq bw br bq bp;obtain⟨ak,⟨s,a6,hs⟩,kn,vw,au,cg,ar,b6,c2⟩:=be;have hm:(BA+BC)*c<=(BA+BC)*Jp C.length:=Nat.mul_le_mul_left _ c4;have cn:(BA+BC)*Jp C.length<=200000000*21:=Nat.mul_le_mul om cb;refine ldR (ar.cell 0) ?_;refine ciR (λh=>?_) (λh=>?_)
 .subst h;obtain⟨A9,c9,rfl,_⟩:=id (b6 rfl);refine drR (scq 5 []) ?_;have D:Ext Z Z.drew:=(Ext.refl Z).drew;refine Jz ((au.ext D).cell 0) ?_;refine Jz ((a6.ext D).cell 0) ?_;refine ρd ?_;refine ρ ?_;refine Vq ⟨?_,(i.trans ak).trans D⟩;unfold DAt;rw[if_pos aq,<-b2];exact⟨_,s,rfl,(b6 rfl).v.ext D,om⟩
 subst h;have cc:=c2 rfl;obtain⟨fA,rA,mA,hA⟩:=ha.at_;have a4:=i.trans ak;refine ldR ((ah.ext ak).at rfl) ?_;refine ρ ?_;have d2:∀ j,Ve bs bl bn j->w.heap.size<=j/\j<Z.heap.size:=λj hj=>⟨nL i.size (ca j hj),Nat.lt_of_lt_of_le (hN j hj) b7.size⟩;refine inv mA (hA Z a4 p vp b3 om) ?_;rintro y aj ⟨hy,ac⟩;unfold AyR at hy;rw[if_pos bo]at hy;obtain⟨vr,s1,rfl,bm,ck⟩:=hy;refine drR [(0,0),(0,2),(0,3),(0,4),(1,1),(0,5),(0,6),(0,7)] ?_;have D:Ext aj aj.drew:=(Ext.refl aj).drew;refine Jz (((a6.ext ac).ext D).cell 0) ?_;refine Jh (Ye (bm.ext D) (λ_=>False) (λ_ h=>h.elim)) ?_;rintro ce cd ⟨bj,ab⟩;refine⟨ab,?_⟩;refine ρd ?_;refine ρ ?_;refine Vq ⟨?_,((a4.trans ac).trans D).trans ab⟩;unfold DAt;rw[if_pos aq,<-b2];exact⟨_,s+s1,rfl,bj.v,om⟩
theorem Qkl(ha:ArrO w va A RA BA SA)(hc:ArrO w vc C RC BC SC):
  Ret Tryz.prog 100 [.agg #[va,vc]] w λx w'=>NatV w' x (A.length-C.length)/\Ext w w':=by
 have a3:=ha.small;obtain⟨ta,xa,rfl⟩:=ha.form;obtain⟨tc,xc,rfl⟩:=hc.form;obtain⟨fL,rL,mL,hL⟩:=ha.len;obtain⟨fM,rM,mM,hM⟩:=hc.len;refine enE Tryz.func100 Tryz.ntmps100 ?_;refine bxR ?_;intro O bd D a4 G;refine ldR (G.at rfl) ?_;refine ρ ?_;refine Jww ifA (.inr ⟨_,_,rfl⟩) ?_;refine drR [(0,0),(0,1),(0,3),(0,4),(1,2),(1,5),(1,6),(0,7),(0,8),(0,9),(0,10),(0,11)] ?_;have i:Ext O O.drew:=(Ext.refl O).drew;refine Jz ((G.ext i).at rfl) ?_;refine Jz ((G.ext i).at rfl) ?_;refine ρd ?_;refine Jvm mL (hL _ (D.trans i)) ?_;rintro vl w2 ⟨a1,u⟩;refine⟨u,?_⟩;refine ρd ?_;refine Jvm mM (hM w2 ((D.trans i).trans u)) ?_;rintro vm w3 ⟨Z,j⟩;refine⟨j,?_⟩;refine Jh (Jhf (a1.ext j) Z (Vu om)) ?_;rintro y w4 ⟨⟨vd,rfl,a2⟩,J⟩;refine⟨J,?_⟩;refine ρd ?_;refine ρ ?_;exact Jj ⟨a2,(((D.trans i).trans u).trans j).trans J⟩
theorem Xqn(ha:ArrO w va A RA BA SA)(hc:ArrO w vc C RC BC SC)(hr:RowV w vr r)(h1:SA r)(h2:SC r):
  Ret Tryz.prog 107 [.agg #[va,vc],vr] w λx w'=>(∃ vn,∃ s:Nat,x=.tuple #[vn,.bool (decide (r∈A) && !decide (r∈C)),.int .i64 (s:Int),.int .i64 0]/\NatV w' vn (RA r-RC r))/\Ext w w':=by
 have ac:=ha.small;have ah:=ha.bd;have ag:=hc.bd;have af:=ha.rk r h1;obtain⟨ta,xa,rfl⟩:=ha.form;obtain⟨tc,xc,rfl⟩:=hc.form;obtain⟨fL,rL,mL,hL⟩:=ha.rank;obtain⟨fM,rM,mM,hM⟩:=hc.rank;obtain⟨A0,c0,rfl,_⟩:=id hr;refine enE Tryz.func107 Tryz.ntmps107 ?_;refine bxR ?_;intro w1 bd a3 ai a2;refine ldR (a2.at rfl) ?_;refine ρ ?_;refine Jww ifA (.inr ⟨_,_,rfl⟩) ?_;refine drR [(0,0),(0,1),(0,2),(0,4),(0,5),(1,3),(1,6),(0,7),(0,8),(0,9),(0,10),(0,11),(0,12),(0,13),(0,14),(0,15)] ?_;have u:Ext w1 w1.drew:=(Ext.refl w1).drew;refine Jz ((a2.ext u).at rfl) ?_;refine ρd ?_;refine dnci ?_;refine Jh (Ye ((hr.ext a3).ext u) (λ_=>False) (λ_ h=>h.elim)) ?_;rintro a6 w2 ⟨a9,a1⟩;refine⟨a1,?_⟩;have J:=(a3.trans u).trans a1;refine ρd ?_;refine Jvm mL (hL w2 J r a6 h1 a9.v) ?_;rintro y w3 ⟨⟨vn,s1,rfl,aa,ae⟩,Z⟩;refine⟨Z,?_⟩;refine ρd ?_;refine drR [(0,0),(0,1),(0,2),(0,4),(0,5),(1,3),(1,6),(0,7),(0,8),(0,9),(0,10),(0,11),(0,12),(0,13),(0,14),(0,15)] ?_
 have i:Ext w3 w3.drew:=(Ext.refl w3).drew;have j:=(J.trans Z).trans i;refine Jz (((((a2.ext u).ext a1).ext Z).ext i).at rfl) ?_;refine ρd ?_;refine dnci ?_;refine Jh (Ye (hr.ext j) (λ_=>False) (λ_ h=>h.elim)) ?_;rintro a5 w4 ⟨a8,D⟩;refine⟨D,?_⟩;refine ρd ?_;refine Jvm mM (hM w4 (j.trans D) r a5 h2 a8.v) ?_;rintro y w5 ⟨⟨vm,s2,rfl,ab,ad⟩,O⟩;refine⟨O,?_⟩;refine ρd ?_;refine clR (Jhf (((aa.ext i).ext D).ext O) ab (Vu om)) ?_;rintro y w6 ⟨⟨vd,rfl,a4⟩,a7⟩;have G:=((j.trans D).trans O).trans a7;refine ρ ?_;refine ki 58 (λh=>?_) (λh=>?_)
 .refine ρ ?_;refine Jjc ⟨⟨vd,s1+s2,?_,a4⟩,G⟩;rw[h];rfl
 refine ρ ?_;refine Jjc ⟨⟨vd,s1+s2,?_,a4⟩,G⟩;rw[h];rfl
theorem Xks(x y:Value)(t s:TypeId)(u v:Value)(hx:x=.iface t u)(hy:y=.iface s v)(w:World): (Instr.build 121 #[(0,x),(1,y)]).run Tryz.prog w=.ok (.agg #[x,y]) w:=by subst hx;subst hy;kernel_rfl
theorem Xkr(w:World): (Instr.build 121 #[]).run Tryz.prog w=.ok (.agg #[.nilIface,.nilIface]) w:=kr
theorem Jjd(ha:ArrO w va A RA BA SA)(hc:ArrO w vc C RC BC SC):
  Ret Tryz.prog 54 [va,vc] w λx w'=>x=(if C.length<=A.length then .tuple #[.agg #[va,vc],.int .i64 0] else .tuple #[.agg #[.nilIface,.nilIface],.int .i64 28])/\Ext w w':=by
 obtain⟨ta,xa,rfl⟩:=ha.form;obtain⟨tc,xc,rfl⟩:=hc.form;obtain⟨fL,rL,mL,hL⟩:=ha.len;obtain⟨fM,rM,mM,hM⟩:=hc.len;refine enE Tryz.func54 Tryz.ntmps54 ?_;refine Jv Kk ?_;intro w1 b j a2 a7;refine ρ ?_;refine Jww ifA (.inr ⟨_,_,rfl⟩) ?_;refine ρ ?_;refine Jww ifA (.inr ⟨_,_,rfl⟩) ?_;refine ρ ?_;refine inv mM (hM w1 j) ?_;rintro vm w2 ⟨a4,O⟩;refine ρ ?_;refine inv mL (hL w2 (j.trans O)) ?_;rintro vl w3 ⟨a6,J⟩;refine clR (Uv (a4.ext J) a6) ?_;rintro t w4 ⟨rfl,a3⟩;have i:=(O.trans J).trans a3;have a1:=a7.ext i;refine ciR (λh=>?_) (λh=>?_)
 .have a9:=cmq_gt.1 (oT h);refine Zz (Xkr _) ?_;refine Qw a1 (cs':=[.nilIface,.nilIface]) ?_ (λu Z=>by simp at Z;subst Z;rfl);intro w5 G a8 D;refine ρ ?_;refine Zn G ⟨?_,D w (j.trans i) a2⟩;rw[if_neg om]
 have a5:C.length<=A.length:=by
  have:=oF h;rcases Nat.lt_or_ge A.length C.length with h1|h1
  .exact absurd (cmq_gt.2 h1) this
  exact h1
 refine Zz (Xks _ _ _ _ _ _ rfl rfl _) ?_;refine Qw a1 (cs':=[.iface ta xa,.iface tc xc]) ?_ (λu Z=>by simp at Z;rcases Z with rfl|rfl<;>rfl);intro w5 G a8 D;refine ρ ?_;refine Zn G ⟨?_,D w (j.trans i) a2⟩;rw[if_pos a5]
end Go.Proofs.YtgobkbeokaaplaaGreatDoor
namespace Go.Wk
open Go.RowKit
variable {d n ty:Nat}
theorem dnes{P:Program}{al:AL}{w:World}{Q:Exit->Act->World->Prop}{ops:Array Oper}{drest:List (Nat×Oper)}{pos:String}{aft:Array Edge}{t t2:TypeId}{x y:Operand}{xs ys:Array Value}{v:Value}(hg:P.eqGuardType P.depth t=false)(hb:∀ w,(binOp .neq t (.agg xs) (.agg ys)).run P w=.ok v w)(k:WD P n ops Q drest ((d,v)::al) w)(hx:ev al x=some (.agg xs):=by rfl)(hy:ev al y=some (.agg ys):=by rfl)(hd:Nat.blt d n=true:=by rfl): WD P n ops Q ((0,⟨some d,.binOp .neq t x y t2,ty,pos,aft,none⟩)::drest) al w :=
 dy (λw' _ a i=>by
  simp only[execOp,i.ev hx,i.ev hy,Sem.run_bind,run_eqGuard_agg w' _ _ _ _ _ _ hg,Result.andThen_ok,hb];rfl) hd k
end Go.Wk
namespace Go.Proofs.YtgobkbeokaaplaaGreatDoor
open Go.RowKit Pl Go.Wk _root_.Go.Proofs.Tryz
attribute [local irreducible] WC WL QX WD WDB WP WN WG WH WM
variable {ds:List Bool}{A C l m:List Row}{BA BC b i k n:Nat}{u v va vb vc vr:Value}{w:World}
theorem eqIn(a b:V)(w:World): (Op.equalIn 10000 147 a.val b.val).run prog w=.ok (eqv a b) w:=by
 have h:=eqV a b w;rw[V.val,V.val,run_eql_struct]at h;rw[V.val,V.val];revert h
 generalize (Op.equalIn 10000 147 (.agg #[.int .i64 a.kind,.int .i64 a.num,.string a.str]) (.agg #[.int .i64 b.kind,.int .i64 b.num,.string b.str])).run prog w=r
 intro h;cases r with
 | ok v w'=>simp only[Result.andThen_ok]at h;injection h with h1 h2;injection h1 with h1;rw[h1,h2]
 | halt x w'=>simp[Result.andThen]at h
theorem neV(a b:V)(w:World): (binOp .neq 147 a.val b.val).run prog w=.ok (.bool (!eqv a b)) w:=by
 have h:=eqIn a b w;rw[V.val,V.val]at h;rw[V.val,V.val,run_neq_struct,h];rfl
theorem Jfr{a b:Row}(ha:RowV w va a)(hb:RowV w vb b):
  Ret prog 101 [va,vb] w λr w'=>r=.bool (decide (a=b))/\Ext w w':=by
 obtain⟨A,ac,rfl,a5,a4,ha⟩:=ha;obtain⟨B,bc,rfl,a3,a2,hb⟩:=hb;refine enE func101 ntmps101 ?_;refine ciR (λh=>?_) (λh=>?_)
 .refine ρ ?_;refine Jj ⟨?_,Ext.refl w⟩;rw[decide_eq_false (λe=>by subst e;simp at h)]
 have J:a.length=b.length:=by simp at h;omega
 refine ρ ?_;refine Qf (λk=>[(0,.slice A a.length ac),(1,.slice B b.length bc),(5,.int .i64 ((k:Nat):Int))])
  (λk w'=>Ext w w'/\k<=a.length/\a.take k=b.take k) (λk=>a.length-k) 0 sB ⟨Ext.refl w,Nat.zero_le _,rfl⟩ ?_
 rintro k w1 ⟨hx,a1,he⟩;refine ciR (λh=>?_) (λh=>?_)
 .have G:k<a.length:=by have:=oT h;omega
  have D:k<b.length:=om
  have i:=hx.trans ((Ext.refl w1).drew);have Z:=ha.ext i;have O:=hb.ext i;have ea:a.take (k+1)=a.take k++[a.getD k V0]:=by rw[List.take_succ_eq_append_getElem G];simp[List.getD,List.getElem?_eq_getElem G]
  have eb:b.take (k+1)=b.take k++[b.getD k V0]:=by rw[List.take_succ_eq_append_getElem D];simp[List.getD,List.getElem?_eq_getElem D]
  refine drR (scq 9 []) ?_;refine Uf 3 k Z G ?_;refine Qz (λj u hu=>RdR.cell Z G hu) ?_;refine Uf 3 k O D ?_;refine Qz (λj u hu=>RdR.cell O D hu) ?_;refine ρd ?_;refine dnes kr (neV (a.getD k V0) (b.getD k V0)) ?_;refine ρd ?_;refine ci (λh=>?_) (λh=>?_)
  .refine ρ ?_;refine Jj ⟨?_,i⟩;rw[decide_eq_false (λe=>by
    subst e;rw[(Jcn _ _).2 rfl]at h;cases h)]
  refine ρ ?_;refine Qy (k+1) sB ⟨i,om,?_⟩ om;have e9:a.getD k V0=b.getD k V0:=(Jcn _ _).1 (by simpa using h);rw[ea,eb,he,e9]
 have hk:k=a.length:=by have:=oF h;omega
 subst hk;refine ρ ?_;refine Jj ⟨?_,hx⟩;rw[List.take_length,J,List.take_length]at he;rw[decide_eq_true he]
theorem Qzk{r:Row}(hl:RowsV w v l)(hr:RowV w vr r): Ret prog 104 [v,vr] w λx w'=>x=.bool (decide (r∈l))/\Ext w w':=by
 obtain⟨A,c,rfl,hc,hm,cs,G,a1⟩:=hl.parts;refine enE func104 ntmps104 ?_;refine ρ ?_;refine Qf (λk=>[(0,.slice A l.length c),(1,vr),(5,.int .i64 ((k:Nat):Int))])
  (λk w'=>Ext w w'/\k<=l.length/\r ∉ l.take k) (λk=>l.length-k) 0 sB ⟨Ext.refl w,Nat.zero_le _,by simp⟩ ?_
 rintro k w1 ⟨i,hk,hn⟩;refine ciR (λh=>?_) (λh=>?_)
 .have j:k<l.length:=by have:=oT h;omega
  obtain⟨u,hu,J⟩:=a1 k j;refine ixR k (G.ext i) j ?_;refine ldR ((G.ext i).cell hu) ?_;refine clR (Jfr (J.ext i) (hr.ext i)) ?_;rintro x w2 ⟨rfl,D⟩;refine ciR (λh=>?_) (λh=>?_)
  .have Z:=oT h;refine ρ ?_;refine Jj ⟨?_,i.trans D⟩;rw[decide_eq_true (Z ▸ getD_mem' [] l j)]
  have Z:=oF h;refine ρ ?_;refine Qy (k+1) sB ⟨i.trans D,om,?_⟩ om;rw[List.take_succ_eq_append_getElem j,<-Qd [] l j,List.mem_append,List.mem_singleton];rintro(h|h)
  .exact hn h
  exact Z h.symm
 have O:k=l.length:=by have:=oF h;omega
 subst O;refine ρ ?_;refine Jj ⟨?_,i⟩;rw[List.take_length]at hn;rw[decide_eq_false hn]
theorem Qpw(hl:RowsV w v l)(hu:RowsV w u m): Ret prog 57 [v,u] w λx w'=>RowsV w' x (l.filter (λr=>!decide (r∈m)))/\Ext w w':=by
 obtain⟨ps,A,c,rfl,rfl,h3,h4,h5,h6⟩:=id hl;refine enE func57 ntmps57 ?_;refine ρ ?_;refine Xn (fun (k:Nat) (v5:Value) (J:List Pr)=>[(0,.slice A ps.length c),(1,u),(5,v5),(6,.int .i64 ((k:Nat):Int))])
  (λk v5 J w'=>Ext w w'/\k<=ps.length/\w'.ownsRow w.heap.size 59 1 v5 J.length (J.map (·.1))/\J=(ps.take k).filter (λp=>!decide (p.2∈m))) (λk _ _=>ps.length-k) 0 (.slice none 0 0) [] sB
  ⟨Ext.refl w,Nat.zero_le _,Zw _ _ _ _,by simp⟩ ?_
 rintro k v5 J w1 ⟨i,hk,O,j⟩;refine ciR (λh=>?_) (λh=>?_)
 .have D:k<ps.length:=by have:=oT h;omega
  have a1:=h6 _ (getD_mem' z0 ps D);have et:ps.take (k+1)=ps.take k++[ps.getD k z0]:=by rw[List.take_succ_eq_append_getElem D,<-Qd z0 ps D]
  have a5:J.length<=k:=by rw[j];exact nL (List.length_filter_le _ _) (by simp;omega)
  refine ixR k (h5.ext i) D ?_;refine ldR ((h5.ext i).cell (Uk D)) ?_;refine clR (Qzk (hu.ext i) (a1.ext i)) ?_;rintro x w2 ⟨rfl,Z⟩;have G:=i.trans Z;refine ciR (λh=>?_) (λh=>?_)
  .obtain⟨B,bc,a4,_⟩:=id a1;refine ixR k (h5.ext G) D ?_;refine ldR ((h5.ext G).cell (Uk D)) ?_;refine Qv (λw=>Jjj _ w B _ bc a4) ?_;intro w3 b3 a2 aa a8;refine ρ ?_;refine apo (a:=w) (G.trans a2) ER (Jk (Jk O Z) a2) a8.one (λu hu=>by rw[List.mem_singleton.1 hu];exact a1.one) (by unfold maxLen;omega) om ?_;intro v7 w7 a6 a3 _ _;refine ρ ?_;refine Qt (k+1) v7 (J++[ps.getD k z0]) sB ⟨a3,om,by simpa using a6,?_⟩ om;rw[et,List.filter_append,<-j,List.filter_cons_of_pos (by simpa using h)];rfl
  refine ρ ?_;refine Qt (k+1) v5 J sB ⟨G,om,Jk O Z,?_⟩ om;rw[et,List.filter_append,<-j,List.filter_cons_of_neg (by simpa using h)];simp
 have a7:k=ps.length:=by have:=oF h;omega
 subst a7;refine ρ ?_;refine Jj ⟨?_,i⟩;rw[List.take_length]at j;obtain⟨A8,c8,rfl,a9,_⟩:=Jy O;have a5:J.length<=ps.length:=by rw[j];exact List.length_filter_le _ _
 refine⟨J,A8,c8,?_,rfl,a9,om,Rd.own O,λp hp=>?_⟩
 .rw[j,List.filter_map];rfl
 rw[j]at hp;exact(h6 p (List.mem_filter.1 hp).1).ext i
theorem Xzv(hl:RowsV w v l)(hu:RowsV w u m): Ret prog 52 [v,u] w λx w'=>RowsV w' x (l.filter (λr=>decide (r∈m)))/\Ext w w':=by
 obtain⟨ps,A,c,rfl,rfl,h3,h4,h5,h6⟩:=id hl;refine enE func52 ntmps52 ?_;refine ρ ?_;refine Xn (fun (k:Nat) (v5:Value) (J:List Pr)=>[(0,.slice A ps.length c),(1,u),(5,v5),(6,.int .i64 ((k:Nat):Int))])
  (λk v5 J w'=>Ext w w'/\k<=ps.length/\w'.ownsRow w.heap.size 59 1 v5 J.length (J.map (·.1))/\J=(ps.take k).filter (λp=>decide (p.2∈m))) (λk _ _=>ps.length-k) 0 (.slice none 0 0) [] sB
  ⟨Ext.refl w,Nat.zero_le _,Zw _ _ _ _,by simp⟩ ?_
 rintro k v5 J w1 ⟨i,hk,O,j⟩;refine ciR (λh=>?_) (λh=>?_)
 .have D:k<ps.length:=by have:=oT h;omega
  have a1:=h6 _ (getD_mem' z0 ps D);have et:ps.take (k+1)=ps.take k++[ps.getD k z0]:=by rw[List.take_succ_eq_append_getElem D,<-Qd z0 ps D]
  have a5:J.length<=k:=by rw[j];exact nL (List.length_filter_le _ _) (by simp;omega)
  refine ixR k (h5.ext i) D ?_;refine ldR ((h5.ext i).cell (Uk D)) ?_;refine clR (Qzk (hu.ext i) (a1.ext i)) ?_;rintro x w2 ⟨rfl,Z⟩;have G:=i.trans Z;refine ciR (λh=>?_) (λh=>?_)
  .obtain⟨B,bc,a4,_⟩:=id a1;refine ixR k (h5.ext G) D ?_;refine ldR ((h5.ext G).cell (Uk D)) ?_;refine Qv (λw=>Jjj _ w B _ bc a4) ?_;intro w3 b3 a2 aa a8;refine ρ ?_;refine apo (a:=w) (G.trans a2) ER (Jk (Jk O Z) a2) a8.one (λu hu=>by rw[List.mem_singleton.1 hu];exact a1.one) (by unfold maxLen;omega) om ?_;intro v7 w7 a6 a3 _ _;refine ρ ?_;refine Qt (k+1) v7 (J++[ps.getD k z0]) sB ⟨a3,om,by simpa using a6,?_⟩ om;rw[et,List.filter_append,<-j,List.filter_cons_of_pos (by simpa using h)];rfl
  refine ρ ?_;refine Qt (k+1) v5 J sB ⟨G,om,Jk O Z,?_⟩ om;rw[et,List.filter_append,<-j,List.filter_cons_of_neg (by simpa using h)];simp
 have a7:k=ps.length:=by have:=oF h;omega
 subst a7;refine ρ ?_;refine Jj ⟨?_,i⟩;rw[List.take_length]at j;obtain⟨A8,c8,rfl,a9,_⟩:=Jy O;have a5:J.length<=ps.length:=by rw[j];exact List.length_filter_le _ _
 refine⟨J,A8,c8,?_,rfl,a9,om,Rd.own O,λp hp=>?_⟩
 .rw[j,List.filter_map];rfl
 rw[j]at hp;exact(h6 p (List.mem_filter.1 hp).1).ext i
theorem Qzz{q:Row->Bool}(i:Nat): cF A (A.filter q) i=((A.take i).filter q).length:=by
 unfold cF;congr 1
 apply List.filter_congr
 intro x u;have j:x∈A:=List.mem_of_mem_take u;rw[Bool.eq_iff_iff,decide_eq_true_iff,List.mem_filter];exact⟨λh=>h.2,λh=>⟨j,h⟩⟩
theorem Xjm(h:Lt ds A)(hi:i<A.length): A.filter (λx=>decide (Jw x (A.getD i []) ds<0))=A.take i:=by
 have h0:∀ p:Row->Bool,A.filter p=(A.take i).filter p++(A.drop i).filter p:=λp=>by rw[<-List.filter_append,List.take_append_drop]
 rw[h0];have Z:(A.take i).filter (λx=>decide (Jw x (A.getD i []) ds<0))=A.take i:=by
  rw[List.filter_eq_self];intro x G;obtain⟨j,J,rfl⟩:=List.getElem_of_mem G;have u:j<i:=by simp at J;omega
  have:=h.at u hi;rw[Qd [] A (by omega:j<A.length)]at this;simpa using this
 have O:(A.drop i).filter (λx=>decide (Jw x (A.getD i []) ds<0))=[]:=by
  rw[List.filter_eq_nil_iff];intro x G;obtain⟨j,J,rfl⟩:=List.getElem_of_mem G;have u:i+j<A.length:=by simp at J;omega
  rw[List.getElem_drop,<-Qd [] A u];intro D;have D:=oT D;by_cases e:j=0
  .subst e;exact Jqj _ _ D
  exact Qxf (h.at (i:=i) (j:=i+j) om u) D
 rw[Z,O,List.append_nil]
theorem Jcm(h:Lt ds A)(q:Row->Bool): DifH A (A.filter q) (cnt ds (A.filter q)):=by
 refine⟨λi hi=>?_,?_⟩
 .rw[Qzz];unfold cnt;rw[List.filter_filter];have:A.filter (λa=>decide (Jw a (A.getD i []) ds<0) && q a)=(A.filter (λx=>decide (Jw x (A.getD i []) ds<0))).filter q:=by
   rw[List.filter_filter];apply List.filter_congr
   intro x _;rw[Bool.and_comm]
  rw[this,Xjm h hi]
 rw[Qzz,List.take_length]
theorem Xjl(q:Row->Bool): Xg A (A.filter q)=A.filter (λr=>!q r):=by
 unfold Xg;apply List.filter_congr
 intro x i;congr 1
 rw[Bool.eq_iff_iff,decide_eq_true_iff,List.mem_filter];exact⟨λh=>h.2,λh=>⟨i,h⟩⟩
theorem Jcl(h:Lt ds A)(q:Row->Bool): Lt ds (A.filter q):=h.sublist List.filter_sublist
theorem Qzx(h:Lt ds A)(q:Row->Bool): IsSet ds (A.filter q) (A.filter q):=⟨Jcl h q,λ_=>Iff.rfl⟩
def Gs(n:Int): V:=⟨1,n,⟨#[]⟩⟩
theorem Xkh(n:Int)(w:World): (Instr.build 147 #[(0,.int .i64 1),(1,.int .i64 n)]).run prog w=.ok (Gs n).val w:=kr
theorem Kn(n:Int)(w:World): Ret prog 97 [.int .i64 n] w λx w'=>x=(Gs n).val/\Ext w w':=by
 refine enE func97 ntmps97 ?_;refine Jv (cs:=[.int .i64 0,.int .i64 0,.string ⟨#[]⟩]) Gj ?_;intro Z b j G D;refine Zz (Xkh n _) ?_;refine Qw D (cs':=(Gs n).cells) ?_ (V.one _);intro O u J i;refine ρ ?_;exact Kq u ⟨rfl,i w j G⟩
theorem Jzg(h:n<=1100000)(w:World): Ret prog 99 [.int .i64 (n:Int)] w λx w'=>NatV w' x n/\Fresh w x/\Ext w w':=by
 refine enE func99 ntmps99 ?_;refine ρ ?_;rw[Jkt _ h];refine cl (Jwm n om _) ?_;rintro x D ⟨u,j,i⟩;refine ρ ?_;exact Jj ⟨u,j,i⟩
def Jxw(l:List (UInt8×UInt8)): List Value:=l.flatMap λp=>[.int .u8 (p.1.toNat:Int),.int .u8 (p.2.toNat:Int)]
theorem Jgq: ∀(l:List (UInt8×UInt8)) (i j:Nat),i<l.length->j<2->(Jxw l)[i*2+j]?=[Value.int .u8 ((l.getD i (0,0)).1.toNat:Int),.int .u8 ((l.getD i (0,0)).2.toNat:Int)][j]?
 | [],i,j,h,_=>by simp at h
 | p::l,0,j,_,hj=>by
  simp only[Jxw,List.flatMap_cons,Nat.zero_mul,Nat.zero_add,List.getD_cons_zero];rw[List.getElem?_append_left (by simp;omega)]
 | p::l,i+1,j,h,hj=>by
  have ih:=Jgq l i j (by simpa using h) hj;simp only[Jxw,List.flatMap_cons,List.getD_cons_succ]at ih ⊢;rw[List.getElem?_append_right (by simp;omega),<-ih];congr 1
  simp;omega
def PairsG(w:World)(v:Value)(l:List (UInt8×UInt8)): Prop:=∃ A c,v=.slice A l.length c/\l.length<=c/\l.length<=9223372036854775807/\Rd w 2 A l.length (Jxw l)
theorem PairsG.ext{w w':World}{v:Value}{l:List (UInt8×UInt8)}(h:PairsG w v l)(hx:Ext w w'): PairsG w' v l:=by obtain⟨A,c,D,u,j,i⟩:=h;exact⟨A,c,D,u,j,i.ext hx⟩
def Ib(p:UInt8×UInt8): Row:=[Gs (p.1.toNat:Int),Gs (p.2.toNat:Int)]
theorem bs2W(a b:V)(w:World): (Instr.buildSlice 59 2 #[(0,a.val),(1,b.val)]).run prog w=.ok (.slice (some ⟨w.heap.size,0,none⟩) 2 2) (w.alloc (.cells (Js [a,b]).toArray 147)):=kr
theorem Jrh(x:UInt8): IntKind.i64.wrap (x.toNat:Int)=(x.toNat:Int):=by
 have:x.toNat<256:=x.toNat_lt;exact Ir om
theorem Qhl{l:List (UInt8×UInt8)}(h:PairsG w v l)(hl:l.length<=1000000): Ret prog 53 [v] w λx w'=>RowsV w' x (l.map Ib)/\Ext w w':=by
 obtain⟨A,c,rfl,hc,hm,a7⟩:=h;refine enE func53 ntmps53 ?_;refine ρ ?_;refine Xn (fun (k:Nat) (v3:Value) (qs:List Pr)=>[(0,.slice A l.length c),(3,v3),(4,.int .i64 ((k:Nat):Int))])
  (λk v3 qs w'=>Ext w w'/\k<=l.length/\OwnR w' w.heap.size v3 (qs.map (·.2))/\qs.map (·.2)=(l.take k).map Ib) (λk _ _=>l.length-k) 0 (.slice none 0 0) [] sB
  ⟨Ext.refl w,Nat.zero_le _,OwnR.nil _ _,by simp⟩ ?_
 rintro k v3 qs w1 ⟨D,hk,a1,u⟩;refine ciR (λh=>?_) (λh=>?_)
 .have j:k<l.length:=by have:=oT h;omega
  have g0:(Jxw l)[k*2+0]?=some (.int .u8 ((l.getD k (0,0)).1.toNat:Int)):=Jgq l k 0 j om;have g1:(Jxw l)[k*2+1]?=some (.int .u8 ((l.getD k (0,0)).2.toNat:Int)):=Jgq l k 1 j om;have J:Ext w1 w1.drew:=(Ext.refl w1).drew;have a3:=D.trans J;have i:=a7.ext a3;have c0:w1.drew.cell? ((adr A (k*2)).add 0)=some (.int .u8 ((l.getD k (0,0)).1.toNat:Int)):=by rw[Xh];exact i.cell g0
  have c1:w1.drew.cell? ((adr A (k*2)).add 1)=some (.int .u8 ((l.getD k (0,0)).2.toNat:Int)):=by rw[Xh];exact i.cell g1
  have ae:(qs.map (·.2)).length=k:=by rw[u];simp;omega
  refine ρ ?_;refine drC 8 [0,1,2,8,9] [(0,3),(0,4),(0,5),(0,6),(0,10),(0,11),(0,12),(0,13),(1,7),(1,14),(1,15),(1,16),(2,17),(2,18)] kr ?_;refine ρp ?_;refine Uf 2 k i j ?_;refine ρd ?_;refine dixa 0 ?_;refine Jz c0 ?_;refine Uf 2 k i j ?_;refine ρd ?_;refine dixa 1 ?_;refine Jz c1 ?_;refine ρd ?_;rw[Jrh,Jrh];refine dcl (Kn _ _) ?_;rintro x w2 ⟨rfl,Z⟩;refine⟨Z,?_⟩;refine Jh (Kn _ _) ?_;rintro x w3 ⟨rfl,O⟩;refine⟨O,?_⟩;refine ρd ?_;refine dbsl (bs2W _ _) ?_;intro w4 b4 a5 ac ab;refine ρd ?_;refine dbsl (λw=>Jjj _ w (some ⟨b4,0,none⟩) 2 2 rfl) ?_;intro w5 b5 a2 af aa;have G:=(((J.trans Z).trans O).trans a5).trans a2;have a6:RowX w5 (own w.heap.size v3) (.slice (some ⟨b4,0,none⟩) 2 2) (Ib (l.getD k (0,0))):=by
   refine⟨some ⟨b4,0,none⟩,2,rfl,by simp[Ib],by simp[Ib],(ab.rd (n:=2) (sz:=3) rfl).ext a2,λ_ ad e hn=>?_⟩;injection e with e
   subst e;have hs:w1.heap.size<=b4:=nL ((J.trans Z).trans O).size ac;rcases hn with hn|hn
   .have:=D.size;simp only at hn;omega
   have:=(a1.lt _ hn).2;simp only at this;omega
  refine ρd ?_;refine Qq ?_;refine appR (a:=w) (D.trans G) ER (a1.ext G) aa a6 om ?_;intro v6 w6 a8 a4 _;refine ρ ?_;refine Qa ?_;refine Qq ?_;refine ρ ?_;refine Qt (k+1) v6 (qs++[(.slice (some ⟨b4,0,none⟩) 2 2,Ib (l.getD k (0,0)))]) sB ⟨a4,om,by simpa using a8,?_⟩ om;have e9:l.take (k+1)=l.take k++[l.getD k (0,0)]:=by rw[List.take_succ_eq_append_getElem j];simp[List.getD,List.getElem?_eq_getElem j]
  rw[List.map_append,u,e9,List.map_append];rfl
 have a9:k=l.length:=by have:=oF h;omega
 subst a9;refine ρ ?_;refine Jj ⟨?_,D⟩;rw[List.take_length]at u;rw[<-u];exact a1.rows (by rw[u];simp;omega)
theorem Qks{A C:List Row}(k:Nat): ∀ i,i<=A.length->k<dF A C i->∃ p,p<i/\A.getD p [] ∉ C/\dF A C p=k
 | 0,_,h=>by simp[dF]at h
 | i+1,hi,h=>by
  have hs:=Jmd (C:=C) (show i<A.length by omega);rcases Nat.lt_or_ge k (dF A C i) with h1|h1
  .obtain⟨p,h2,h3,h4⟩:=Qks k i om h1;exact⟨p,om,h3,h4⟩
  by_cases hc:A.getD i []∈C
  .rw[if_pos hc]at hs;omega
  rw[if_neg hc]at hs;exact⟨i,om,hc,om⟩
theorem Xqq(h:k<(Xg A C).length): ∃ p,p<A.length/\A.getD p [] ∉ C/\p-cF A C p=k/\(Xg A C).getD k []=A.getD p []:=by
 have e:dF A C A.length=(Xg A C).length:=by unfold dF Xg;rw[List.take_length]
 obtain⟨p,u,j,D⟩:=Qks k A.length (nR _) (by rw[e];exact h);have hs:=Jkg (A:=A) (C:=C) (i:=p) om;exact⟨p,u,j,om,by rw[<-D];exact(Qkm u j).1⟩
theorem Jnm{RA RC:Row->Nat}{SA SC:Row->Prop}(hD:DifH A C RC)(ha:ArrO w va A RA BA SA)(hc:ArrO w vc C RC BC SC)(hSA:∀ r,r∈A->SA r)(hSC:∀ r,r∈A->SC r)(hRA:∀ i,i<A.length->RA (A.getD i [])=i)(hv:RowsV w v (Xg A C)):
  Ret prog 56 [.agg #[va,vc],v] w λx w'=>x=.bool true/\Ext w w':=by
 obtain⟨b1,bg⟩:=hD.len;have bb:=ha.small;have ba:=hc.small;obtain⟨ta,xa,rfl⟩:=ha.form;obtain⟨tc,xc,rfl⟩:=hc.form;obtain⟨Av,cv,rfl,be,b9,cs,a9,b3⟩:=hv.parts;refine enE func56 ntmps56 ?_;refine bxR ?_;intro w1 bd a8 bf ap;refine Jt (λj u hu=>ap.at hu) ?_;refine clR (Qkl (ha.ext a8) (hc.ext a8)) ?_;rintro vl w2 ⟨b2,au⟩;refine clR (Jzg (n:=(Xg A C).length) om _) ?_;rintro vn w3 ⟨az,_,aj⟩;refine clR (Uv (b2.ext aj) az) ?_;rintro t w4 ⟨rfl,ar⟩;rw[<-b1,cmq_eq.2 rfl];have ab:=(au.trans aj).trans ar;have b4:=a8.trans ab;refine ρ ?_;refine Qf (λk=>[(1,.slice Av (Xg A C).length cv),(2,.pointer (some ⟨bd,0,none⟩)),(5,.int .i64 ((k:Nat):Int))])
  (λk w'=>Ext w1 w'/\k<=(Xg A C).length) (λk=>(Xg A C).length-k) 0 sB ⟨ab,Nat.zero_le _⟩ ?_
 rintro k w5 ⟨ad,hk⟩;have J:=a8.trans ad;have a6:=ap.ext ad;refine ciR (λh=>?_) (λh=>?_)
 .have a5:k<(Xg A C).length:=by have:=oT h;omega
  obtain⟨u,hu,am⟩:=b3 k a5;obtain⟨p,af,ay,ax,ae⟩:=Xqq a5;have a4:(Xg A C).getD k []∈A:=by rw[ae];exact getD_mem' [] A af
  refine drR (scq 11 [2,3]) ?_;have Z:Ext w5 w5.drew:=(Ext.refl w5).drew;refine Qz (λj u hu=>(a6.ext Z).at hu) ?_;refine Jh (Jzg (n:=k) om _) ?_;rintro vk w6 ⟨ag,_,a2⟩;refine⟨a2,?_⟩;have G:=Z.trans a2;refine Jh (Jlw hD (ha.ext (J.trans G)) (hc.ext (J.trans G)) hSC ag om) ?_;rintro x w7 ⟨hx,a1⟩;refine⟨a1,?_⟩;unfold DAt at hx;rw[if_pos a5]at hx;obtain⟨vr,s,rfl,av,bc⟩:=hx;have ai:=G.trans a1;refine ρd ?_;refine drR (scq 15 [5]) ?_;have aa:Ext w7 w7.drew:=(Ext.refl w7).drew;have O:=ai.trans aa;have D:=J.trans O;refine Qz (λj u hu=>(a6.ext O).at hu) ?_;refine Jb k (a9.ext D) a5 ?_;refine Jz ((a9.ext D).cell hu) ?_;refine Jh (Xqn (ha.ext D) (hc.ext D) (am.ext D) (hSA _ a4) (hSC _ a4)) ?_;rintro x w8 ⟨⟨b7,s2,rfl,an⟩,a7⟩;refine⟨a7,?_⟩;have aq:(Xg A C).getD k [] ∉ C:=by rw[ae];exact ay
  rw[ae,hRA p af,hD.rank p af,ax]at an;rw[decide_eq_true a4,decide_eq_false aq];have a3:=D.trans a7;refine ρd ?_;refine ixR k (a9.ext a3) a5 ?_;refine ldR ((a9.ext a3).cell hu) ?_;refine clR (Jfr ((av.ext aa).ext a7) (am.ext a3)) ?_;rintro _ w9 ⟨rfl,ah⟩;rw[decide_eq_true rfl];refine clR (Jzg (n:=k) om _) ?_;rintro b8 b6 ⟨ao,_,ac⟩;refine clR (Uv ((an.ext ah).ext ac) ao) ?_;rintro _ b5 ⟨rfl,ak⟩;rw[cmq_eq.2 rfl];refine ρ ?_;exact Qy (k+1) sB ⟨((((O.trans a7).trans ah).trans ac).trans ak) |> ad.trans,om⟩ om
 refine drR (scq 12 [3,4]) ?_;have Z:Ext w5 w5.drew:=(Ext.refl w5).drew;refine Qz (λj u hu=>(a6.ext Z).at hu) ?_;refine Jh (Jzg (n:=(Xg A C).length) om _) ?_;rintro vk w6 ⟨ag,_,a2⟩;refine⟨a2,?_⟩;have G:=Z.trans a2;refine Jh (Jlw hD (ha.ext (J.trans G)) (hc.ext (J.trans G)) hSC ag om) ?_;rintro x w7 ⟨hx,a1⟩;refine⟨a1,?_⟩;unfold DAt at hx;rw[if_neg om]at hx;subst hx;refine ρd ?_;refine ρ ?_;exact Jj ⟨rfl,(J.trans G).trans a1⟩
theorem bs4R(b1 b2 b3 b4:Nat)(w:World): (Instr.buildSlice 95 4 #[(0,.slice (some ⟨b1,0,none⟩) 1 1),(1,.slice (some ⟨b2,0,none⟩) 1 1),(2,.slice (some ⟨b3,0,none⟩) 1 1),(3,.slice (some ⟨b4,0,none⟩) 1 1)]).run prog w=.ok (.slice (some ⟨w.heap.size,0,none⟩) 4 4) (w.alloc (.cells [Value.slice (some ⟨b1,0,none⟩) 1 1,.slice (some ⟨b2,0,none⟩) 1 1,.slice (some ⟨b3,0,none⟩) 1 1,.slice (some ⟨b4,0,none⟩) 1 1].toArray 59)):=kr
theorem bs2Q(b1 b2:Nat)(w:World): (Instr.buildSlice 95 2 #[(0,.slice (some ⟨b1,0,none⟩) 1 1),(1,.slice (some ⟨b2,0,none⟩) 1 1)]).run prog w=.ok (.slice (some ⟨w.heap.size,0,none⟩) 2 2) (w.alloc (.cells [Value.slice (some ⟨b1,0,none⟩) 1 1,.slice (some ⟨b2,0,none⟩) 1 1].toArray 59)):=kr
theorem Jqm{a:V}(h:Blk w b 147 (Js [a])): RowV w (.slice (some ⟨b,0,none⟩) 1 1) [a]:=⟨some ⟨b,0,none⟩,1,rfl,Nat.le_refl _,by simp,h.rd rfl⟩
def Zc(n:Int): Row:=[Gs n]
theorem exLt(a b:Int)(h:a<b): Jw (Zc a) (Zc b) []<0:=by
 have:cmpV (Gs a) (Gs b) = -1:=by
  unfold cmpV Gs sgn;simp only[ne_eq,not_true_eq_false,if_false];rw[if_pos om,if_pos h]
 unfold Zc;rw[Jw,if_neg (by rw[this];decide),this];decide
def exD: List Row:=[Zc 1,Zc 3,Zc 5,Zc 7]
def exQ(r:Row): Bool:=decide (r=Zc 3) || decide (r=Zc 7)
theorem Jvk: Lt [] exD:=by
 unfold Lt exD;refine List.pairwise_cons.2 ⟨λb i=>?_,List.pairwise_cons.2 ⟨λb i=>?_,List.pairwise_cons.2 ⟨λb i=>?_,List.pairwise_singleton _ _⟩⟩⟩
 .simp only[List.mem_cons,List.not_mem_nil,or_false]at i;rcases i with rfl|rfl|rfl<;>exact exLt _ _ (by decide)
 .simp only[List.mem_cons,List.not_mem_nil,or_false]at i;rcases i with rfl|rfl<;>exact exLt _ _ (by decide)
 simp only[List.mem_cons,List.not_mem_nil,or_false]at i;rcases i with rfl;exact exLt _ _ (by decide)
theorem Qkd: exD.filter exQ=[Zc 3,Zc 7]:=by decide
theorem exD_d: exD.filter (λr=>!exQ r)=[Zc 1,Zc 5]:=by decide
theorem Xwn(w:World): Ret prog 48 [] w λx w'=>x=.bool true/\Ext w w':=by
 refine enE func48 ntmps48 ?_;refine clR (Kn 1 _) ?_;rintro _ w1 ⟨rfl,c2⟩;refine Qv (Jqw _) ?_;intro w2 b2 c1 _ c8;refine clR (Kn 3 _) ?_;rintro _ w3 ⟨rfl,bz⟩;refine Qv (Jqw _) ?_;intro w4 b4 bw _ c7;refine clR (Kn 5 _) ?_;rintro _ w5 ⟨rfl,bs⟩;refine Qv (Jqw _) ?_;intro w6 b6 br _ c6;refine clR (Kn 7 _) ?_;rintro _ w7 ⟨rfl,bq⟩;refine Qv (Jqw _) ?_;intro w8 b8 bp _ c5;refine Qv (bs4R b2 b4 b6 b8) ?_;intro w9 b9 aj _ c4;have ak:=aj;have a6:=(bq.trans bp).trans aj;have a7:=(bs.trans br).trans a6;have a8:=(bz.trans bw).trans a7;have b7:=(c2.trans c1).trans a8;have hA:RowsV w9 (.slice (some ⟨b9,0,none⟩) 4 4) exD:=⟨[(_,Zc 1),(_,Zc 3),(_,Zc 5),(_,Zc 7)],some ⟨b9,0,none⟩,4,rfl,rfl,Nat.le_refl _,by simp,c4.rd rfl,λp hp=>by
  simp only[List.mem_cons,List.not_mem_nil,or_false]at hp;rcases hp with rfl|rfl|rfl|rfl
  .exact(Jqm c8).ext a8
  .exact(Jqm c7).ext a7
  .exact(Jqm c6).ext a6
  exact(Jqm c5).ext ak⟩
 refine clR (Jbp hA (BoolsV.nil w9 none 0) (by decide)) ?_;rintro va cx ⟨⟨m,bn,bb,_⟩,b5⟩;have hm:m=exD:=bb.uniq ⟨Jvk,λ_=>Iff.rfl⟩;subst hm;refine ρ ?_;refine mki underlying125 (λms e=>by cases e) ?_;refine clR (Kn 3 _) ?_;rintro _ cw ⟨rfl,b3⟩;refine Qv (Jqw _) ?_;intro cv cb b1 _ bj;refine clR (Kn 7 _) ?_;rintro _ cr ⟨rfl,az⟩;refine Qv (Jqw _) ?_;intro cq ca ay _ bi;refine Qv (bs2Q cb ca) ?_;intro ah bo ac _ bh;have O:=(az.trans ay).trans ac;have a5:=(b3.trans b1).trans O;have hB:RowsV ah (.slice (some ⟨bo,0,none⟩) 2 2) (exD.filter exQ):=by
  rw[Qkd];exact⟨[(_,Zc 3),(_,Zc 7)],some ⟨bo,0,none⟩,2,rfl,rfl,Nat.le_refl _,by simp,bh.rd rfl,λp hp=>by
   simp only[List.mem_cons,List.not_mem_nil,or_false]at hp;rcases hp with rfl|rfl
   .exact(Jqm bj).ext O
   exact(Jqm bi).ext ac⟩
 refine clR (Jbp hB (BoolsV.nil ah none 0) (by decide)) ?_;rintro vb cp ⟨⟨m2,bm,af,_⟩,ax⟩;have c3:m2=exD.filter exQ:=af.uniq (Qzx Jvk exQ);subst c3;refine ρ ?_;refine mki underlying125 (λms e=>by cases e) ?_;refine ρ ?_;have Z:=a5.trans ax;have a3:=Gr (bn.ext Z) Jvk (by decide) (λ_=>True);have a2:=Gr bm (Jcl Jvk exQ) (by decide) (λ_=>True);refine cl (Jjd a3 a2) ?_;rintro _ ag ⟨rfl,av⟩;rw[if_pos (by decide)];refine Jv Kk ?_;intro co cz au bl bg;refine Qw bg (cs':=[.iface 125 va,.iface 125 vb]) ?_ (λu hu=>by simp at hu;rcases hu with rfl|rfl<;>rfl);intro a1 ad cc ar;have a4:Ext ag a1:=ar ag au bl;have G:=av.trans a4;have a3:=a3.ext G;have a2:=a2.ext G;have hD:DifH exD (exD.filter exQ) (cnt [] (exD.filter exQ)):=Jcm Jvk exQ;have ae:Ext w a1:=(b7.trans b5).trans (Z.trans G);refine drR (scq 10 [1,2]) ?_;have ai:Ext a1 a1.drew:=(Ext.refl a1).drew
 refine Qz (λj u hu=>(ad.ext ai).at hu) ?_;refine Jh (Jzg (n:=1) om _) ?_;rintro vk cn ⟨bf,_,ab⟩;refine⟨ab,?_⟩;have D:=ai.trans ab;refine Jh (Jlw hD (a3.ext D) (a2.ext D) (λ_ _=>trivial) bf om) ?_;rintro x cm ⟨hx,aa⟩;refine⟨aa,?_⟩;have c9:Xg exD (exD.filter exQ)=[Zc 1,Zc 5]:=by rw[Xjl,exD_d]
 unfold DAt at hx;rw[c9,if_pos (by decide)]at hx;obtain⟨vr,s,rfl,bc,_⟩:=hx;have i:=D.trans aa;refine ρd ?_;refine Jt (λj u hu=>(ad.ext i).at hu) ?_;refine clR (Qkl (a3.ext i) (a2.ext i)) ?_;rintro vl ck ⟨bd,aq⟩;refine clR (Jzg (n:=2) om _) ?_;rintro v2 cj ⟨ba,_,a9⟩;refine clR (Uv (bd.ext a9) ba) ?_;rintro _ ch ⟨rfl,ap⟩;have e2:exD.length-(exD.filter exQ).length=2:=by rw[Qkd];rfl
 rw[e2,cmq_eq.2 rfl];refine clR (Kn 5 _) ?_;rintro _ cg ⟨rfl,ao⟩;refine Qv (Jqw _) ?_;intro ce cy an _ be;have J:=(((aq.trans a9).trans ap).trans ao).trans an;refine clR (Jfr (bc.ext J) (Jqm be)) ?_;rintro _ cd ⟨rfl,am⟩;have e3:decide (([Zc 1,Zc 5]:List Row).getD 1 []=[Gs 5])=true:=by decide
 rw[e3];refine ρ ?_;exact Jj ⟨rfl,((ae.trans i).trans J).trans am⟩
end Go.Proofs.YtgobkbeokaaplaaGreatDoor
namespace Go.Wk
section
variable {N:Nat->Prop} {P:Program} {n:Nat} {al:AL} {w:World} {Q:Exit->Act->World->Prop} {ops:Array Oper} {drest:List (Nat×Oper)}
variable {d ty:Nat} {pos:String} {aft:Array Edge}
theorem Jzj{t:TypeId}{td:TypeDesc}(ht:P.underlying t=some td)(hn:∀ ms,td≠.interface ms){v:Value}{x:Operand}(kk:WN N P n ops Q drest ((d,.iface t v)::al) w)(hx:ev al x=some v:=by rfl)(hd:Nat.blt d n=true:=by rfl): WN N P n ops Q ((0,⟨some d,.makeInterface t x,ty,pos,aft,none⟩)::drest) al w :=
 ny_ (λw' _ a i=>Qgs ht hn i hx (some d) w') hd kk
end
end Go.Wk
namespace Go.Proofs.YtgobkbeokaaplaaGreatDoor
open Go.RowKit Pl Go.Wk _root_.Go.Proofs.Tryz
attribute [local irreducible] WC WL QX WD WDB WP WN WG WH WM
variable {cs ys:List Value}{B0 b n pc t:Nat}{A PA:Option Addr}{W w:World}
theorem Jtz(h:Rd w 1 A n cs)(hB:Blk w b t ys)(hne:∀ u∈cs,u ∉ ys)(hg:GrN (λk=>k=b) w W): Rd W 1 A n cs:=by
 refine Vb h hg λi ad e (j:ad.block=b)=>?_;subst e;have D:=h.cell (gE i);exact hne _ (List.getElem_mem i) (List.mem_of_getElem? (Jmv hB (ad:=ad) j D))
theorem RowsA.off{v:Value}{ds:List Bool}{m:List Row}(h:RowsA w v ds m)(hB:Blk w b t [.nilIface,.nilIface]): Off (λk=>k=b) w λu=>RowsA u v ds m:=by
 obtain⟨v1,v2,rfl,⟨ps,A,c,rfl,rfl,h3,h4,h5,J⟩,⟨D,dc,rfl,h7,h8,h9⟩⟩:=h;have hn:∀ u:Value,u∈[Value.nilIface,.nilIface]->u=.nilIface:=λu i=>by
  simp only[List.mem_cons,List.not_mem_nil,or_false,or_self]at i;exact i
 refineλW G=>⟨_,_,rfl,⟨ps,A,c,rfl,rfl,h3,h4,Jtz h5 hB (λu i j=>?_) G,λp hp=>?_⟩,⟨D,dc,rfl,h7,h8,Jtz h9 hB (λu i j=>?_) G⟩⟩
 .obtain⟨p,hp,rfl⟩:=List.mem_map.1 i;obtain⟨Z,O,e,_⟩:=J p hp;have:=hn _ j;rw[e]at this;cases this
 .obtain⟨Z,O,e1,e2,e3,e4⟩:=J p hp;exact⟨Z,O,e1,e2,e3,(Jtm e4 hB (λu i s e=>by rw[hn u i]at e;cases e)) W G⟩
 obtain⟨p,hp,rfl⟩:=List.mem_map.1 i;have:=hn _ j;cases this
theorem Qxd{ds:List Bool}: ∀ {m l:List Row},Lt ds m->(∀ x∈m,x∈l)->m.length<=l.length
 | [],l,_,_=>by simp
 | a::m,l,h,hs=>by
  obtain⟨h1,h2⟩:=List.pairwise_cons.1 h;have ih:=Qxd (m:=m) (l:=l.erase a) h2 λx hx=>by
   have hne:x≠a:=λe=>by subst e;exact Jqj _ _ (h1 _ hx)
   exact(List.mem_erase_of_ne hne).2 (hs x (List.mem_cons_of_mem _ hx))
  rw[List.length_erase_of_mem (hs a List.mem_cons_self)]at ih;have:=List.length_pos_of_mem (hs a List.mem_cons_self);simp only[List.length_cons];omega
theorem Xql{c:Cse}{ps:List (UInt8×UInt8)}(hTB:TB B0 w)(h:CseV w cs c)(hfit:∀ i,i<c.rss.length->∀ r∈c.rss.getD i [],∀ u∈r,Vj u)(hP:PairsG w (.slice PA ps.length pc) ps):
  Ret prog 8 [.agg cs.toArray,.slice PA ps.length pc] w λu w'=>u=.bool true/\Ext w w':=by
 obtain⟨dA,dc,pA,c6,vA,vc,rA,rc,rfl,hD,fg,hV,hR,hn,hf⟩:=id h;obtain⟨ds,dg⟩:∃ ds,ds=c.ds:=⟨_,rfl⟩;refine enE func8 ntmps8 ?_;refine bxR ?_;intro w1 b d5 hb hB;refine Qk hB ?_;refine clR (Xjn (h.ext d5)) ?_;rintro u w2 ⟨d0,fw,rfl,df,ff⟩;have aj:=d5.trans d0;have co:=hB.ext d0;have ao:∀ v,Ext w v->Ret prog 48 [] v λu w'=>u=.bool true/\Ext w w':=λv hv=>(Xwn v).mono λu w' ⟨h1,h2⟩=>⟨h1,hv.trans h2⟩;cases fw with
 | false=>
  refine clR (ao _ aj) ?_;rintro _ w3 ⟨rfl,ah⟩;refine ρ ?_;exact Jj ⟨rfl,ah⟩
 | true=>
 refine ρ ?_;refine ki 26 (λhk=>?_) (λhk=>?_)
 .refine clR (ao _ aj) ?_;rintro _ w3 ⟨rfl,ah⟩;refine ρ ?_;exact Jj ⟨rfl,ah⟩
 have fc:ps.length<=10:=by have:=oF hk;omega
 refine ldR (co.at (i:=1) rfl) ?_;refine ciR (λda=>?_) (λda=>?_)
 .refine clR (ao _ aj) ?_;rintro _ w3 ⟨rfl,ah⟩;refine ρ ?_;exact Jj ⟨rfl,ah⟩
 clear hk da;refine Qk co ?_;refine clR (Qcw (h.ext aj)) ?_;rintro u w3 ⟨ah,fi,fa,aA,fh,f9,ac,an,ok,rfl,el,eg,ea,ew⟩;have et:=co.ext ah;refine Jv Jkn ?_;intro w4 b4 e5 ed er;refine Zk er ?_;intro w5 ep fe e4;have ae:Ext w3 w5:=e4 w3 e5 ed;have dz:=et.ext ae;have ax:=(aj.trans ah).trans ae;refine ciR (λhk=>?_) (λhk=>?_)
 .refine clR (ao _ ax) ?_;rintro _ w6 ⟨rfl,b8⟩;refine ρ ?_;exact Jj ⟨rfl,b8⟩
 obtain rfl:ok=true:=by simpa using hk
 clear hk;obtain⟨d9,ats,ee,hG,hmk,dh⟩:=ea rfl;have hC:CseOk c ats:=⟨df rfl,d9,ee,hmk,dh trivial,hfit⟩;refine Qk ep ?_;obtain⟨ts,bi,em⟩:=Xzx hC (el.ext ae) (eg.ext ae) (hG.ext ae λcs a ⟨t,e,h⟩=>⟨t,e,h.ext ae⟩);have e7:ts.length=c.m:=by have:=hC.al;rw[bi,List.length_map]at this;exact this
 refine clR (Qsl (hTB.ext ax) (hC.bldI bi) em) ?_;rintro u w6 ⟨b8,x,st,kf,pf,R,rfl,hE,d8⟩;have bl:=Qsm (L:=c.ans) ⟨B0,hTB.ext (ax.trans b8)⟩ (hC.bldI bi) (Qhd bi) hE d8.here hC.ans.1 (λy=>by rw[e7];exact hC.ans.2 y) (by have:=hC.anl;omega);obtain⟨IA,IB,IC,ID,IE,ia,ib,ic,c9,ie,cc,cb,ca,c8,c7,rfl⟩:=bl.five;refine Jv Jyg ?_;intro w7 b7 e3 ec eo;refine Zk eo ?_;intro w8 en fd e2;have b6:Ext w6 w8:=e2 w6 e3 ec;have br:=(ax.trans b8).trans b6;have cx:=b8.trans b6;have bd:=dz.ext cx;have be:Ext w8 w8.drew:=(Ext.refl w8).drew;have e8:c.rss.length=c.m:=by rw[<-hC.len];rfl
 refine drR [(0,0),(0,2),(0,3),(1,1),(1,4),(0,5)] ?_;refine Qz (cs:=[.int .i64 c.n,.int .i64 c.f,.slice dA c.ds.length dc,.slice pA c.pm.length c6,.slice vA c.vs.length vc,.slice rA c.rss.length rc]) (λj u hu=>(bd.ext be).at hu) ?_;refine Jz ((bd.ext be).at (i:=2) rfl) ?_;refine Jh Qlc ?_;rintro u w9 ⟨rfl,bf⟩;refine⟨bf,?_⟩;have cd:=br.trans be;have ef:=CseV.rin (hV.ext cd) (hR.ext cd) hC;have hA:Ret prog 50 [.agg #[.int .i64 c.n,.int .i64 c.f,.slice pA c.pm.length c6,.slice vA c.vs.length vc,.slice rA c.rss.length rc],.slice dA c.ds.length dc] w9 λu w'=>RowsV w' u c.ans/\Ext w9 w':=by
  rw[hC.nN.1,hC.fF.1,e8];exact Qln (pA:=pA) (pn:=c.pm.length) (pc:=c6) (vc:=vc) (rc:=rc) hC.refP (ef.ext bf) (by have:=hC.nN.2;omega) hC.fF.2 (hD.ext (cd.trans bf))
 refine Jh hA ?_;rintro av f6 ⟨bb,bq⟩;refine⟨bq,?_⟩;refine ρd ?_;have b5:=(be.trans bf).trans bq;have b9:=br.trans b5;obtain⟨AA,ak,rfl⟩:∃ A k,av=.slice A c.ans.length k:=by obtain⟨_,A,k,e0,e,_⟩:=id bb;exact⟨A,k,by rw[e,e0];simp⟩
 have a5:=hC.ans.1;have ei:=hC.anl;have dq:∀ y∈c.ans,y.length=c.F:=λy hy=>hC.arow hy;obtain⟨xv,b2⟩:∃ xv,xv=Value.agg #[.slice IA ia cc,.slice IB ib cb,.slice IC ic ca,.slice ID c9 c8,.slice IE ie c7]:=⟨_,rfl⟩;obtain⟨L,hL⟩:∃ L,L=c.ans:=⟨_,rfl⟩;refine clR (Qhl (hP.ext b9) om) ?_;rintro pv f5 ⟨e9,bp⟩;refine clR (Xzv (bb.ext bp) e9) ?_;rintro bv a9 ⟨ba,d4⟩;have a7:=bp.trans d4;have aq:=b9.trans a7;have ap:=b5.trans a7;obtain⟨q,hq⟩:∃ q:Row->Bool,q=λr=>decide (r∈ps.map Ib):=⟨_,rfl⟩;rw[<-hq]at ba;rw[<-hL]at bb a5 ei dq ba ⊢;rw[<-dg]at a5 bl hD ⊢;obtain⟨BA,bk,rfl⟩:∃ A k,bv=.slice A (L.filter q).length k:=by obtain⟨_,A,k,e0,e,_⟩:=id ba;exact⟨A,k,by rw[e,e0];simp⟩
 have fb:(L.filter q).length<=10:=by
  have:=Qxd (l:=ps.map Ib) (Jcl a5 q) λx hx=>by have:=(List.mem_filter.1 hx).2;rw[hq]at this;exact oT this
  rw[List.length_map]at this;omega
 have dx:Qc c.F (λv=>hmB (BBx (Zr c.N pf (TV c.N c.F kf pf R ds (plO (toN c.pm) c.F)) (ts.map (·.2))) c.N c.F kf pf R ds (plO (toN c.pm) c.F) v))<=100000000:=by
  have h1:∀ n,Qc n (λv=>hmB (BBx (Zr c.N pf (TV c.N c.F kf pf R ds (plO (toN c.pm) c.F)) (ts.map (·.2))) c.N c.F kf pf R ds (plO (toN c.pm) c.F) v))<=n*65536:=by
   intro n;induction n with
   | zero=>exact Nat.zero_le _
   | succ n ih=>
    rw[Qc,Nat.succ_mul];have:hmB (BBx (Zr c.N pf (TV c.N c.F kf pf R ds (plO (toN c.pm) c.F)) (ts.map (·.2))) c.N c.F kf pf R ds (plO (toN c.pm) c.F) n)<=65536:=Qtp λb hb=>bl.hb n b hb
    omega
  have:=h1 c.F;have:=hC.fF.2;have:=hC.nN.2;omega
 have bc:=((bl.arr (hL ▸ a5) (hL ▸ dq) (by rw[<-hL];omega) dx).o (hL ▸ a5)).ext b6;rw[<-b2,<-hL]at bc;generalize Qc c.F (λv=>hmB (BBx (Zr c.N pf (TV c.N c.F kf pf R ds (plO (toN c.pm) c.F)) (ts.map (·.2))) c.N c.F kf pf R ds (plO (toN c.pm) c.F) v))=Bd at bc dx
 have au:=bc.ext ap;have az:=en.ext ap;have cn:=bd.ext ap;rw[<-dg]at cn;have dw:BoolsV a9 (.slice dA ds.length dc) ds:=hD.ext aq;have am:Ext a9 a9.drew:=(Ext.refl a9).drew;have aa:Lt ds (L.filter q)/\(L.filter q).length<256/\(L.filter q).length<=L.length:=⟨Jcl a5 q,om,List.length_filter_le _ _⟩;have dn:∀ v,Ext a9.drew v->Ret prog 55 [.slice BA (L.filter q).length bk,.slice dA ds.length dc] v λx w'=>RowsA w' x ds (L.filter q)/\Ext v w':=λv hv=>(Jbp (ba.ext (am.trans hv)) (dw.ext (am.trans hv)) om).mono λx w' ⟨⟨m,h1,h2,_⟩,h3⟩=>⟨by
  rw[<-h2.uniq (Qzx a5 q)];exact h1,h3⟩
 refine ρ ?_;refine drM (λk=>a9.drew.heap.size<=k) ?_;refine Xu (fuel':=9) [(0,0),(0,1),(0,2),(0,3),(0,4),(0,5)] #[true,true,true,true,true,true,false,false,false,false,false,false,false,false,false] kr kr rfl ?_;refine ρn ?_;refine Xs (cs:=[.slice IA ia cc,.slice IB ib cb,.slice IC ic ca,.slice ID c9 c8,.slice IE ie c7]) (λw' hg j u hu=>((az.ext am).ext (hg.old (Ext.refl _) λk hk=>hk)).at hu) ?_;refine ρn ?_;refine Kp (Jct _ _ _ _ _ _ _ _ _ _ _ _ _ _ _) ?_;rw[<-b2];refine ρn ?_;refine Jzj underlying100 (λms e=>by cases e) ?_;refine ρn ?_;refine nld (λw' hg=>((cn.ext am).ext (hg.old (Ext.refl _) λk hk=>hk)).at (i:=2) rfl) ?_;refine ρn ?_;refine Zq ?_;refine Jwp 2 (lst 15 13) (fun (y:Value×Nat)=>[(65,.agg #[.iface 100 xv,.iface 125 y.1]),(66,.int .i64 0),(12,.pointer (some ⟨y.2,0,none⟩)),(2,.pointer (some ⟨b,0,none⟩)),(4,.bool false),(7,.pointer (some ⟨b7,0,none⟩)),(9,.int .i64 0),(10,.slice AA L.length ak),(11,.slice BA (L.filter q).length bk)])
  (λy w'=>Ext a9.drew w'/\Blk w' y.2 121 [.nilIface,.nilIface]/\a9.drew.heap.size<=y.2/\RowsA w' y.1 ds (L.filter q)) ?_ ?_
 rotate_left
 .intro rest;refine Ga 6 12 kr rfl rfl rfl ?_ ?_
  .refine cl (dn a9.drew (Ext.refl _)) ?_;rintro va v1 ⟨a1,J⟩;refine Jd (Qh (GrN.ext J) ?_);refine Xu (fuel':=7) [(0,7)] #[true,true,true,true,true,true,true,true,false,false,false,false,false,false,false] kr kr rfl ?_;refine ρn ?_;refine Jzj underlying125 (λms e=>by cases e) ?_;refine ρn ?_;refine Zq ?_;refine Ga 8 12 kr rfl rfl rfl ?_ ?_
   .refine cl (Jjd (au.ext (am.trans J)) (Gr a1 aa.1 aa.2.1 (λ_=>True))) ?_;rintro _ v2 ⟨rfl,D⟩;rw[if_pos aa.2.2];refine Jd (Qh (GrN.ext D) ?_);refine Xu (fuel':=3) [(0,9),(0,10),(0,11)] #[true,true,true,true,true,true,true,true,true,true,true,true,false,false,false] kr kr rfl ?_;refine ρn ?_;refine Zq ?_;refine Zj 12 kr rfl rfl ?_;refine alc Kk ?_;intro v3 b3 G ad ab;refine Jd (Qh (GrN.ext G) ?_);refine Gy (listed':=lst 15 13) kr ?_;exact rest (va,b3) _ _ ⟨(J.trans D).trans G,ab,Nat.le_trans (J.trans D).size ad,(a1.ext D).ext G⟩ sB
   refine alc Kk ?_;intro v2 b3 D ad ab;refine Jd (Qh (GrN.ext D) ?_);refine Zj 8 kr rfl rfl ?_;refine cl (Jjd (au.ext (am.trans (J.trans D))) (Gr (a1.ext D) aa.1 aa.2.1 (λ_=>True))) ?_;rintro _ v3 ⟨rfl,G⟩;rw[if_pos aa.2.2];refine Jd (Qh (GrN.ext G) ?_);refine Xu (fuel':=2) [(0,9),(0,10),(0,11)] (lst 15 13) kr kr rfl ?_;refine ρn ?_;refine Zq ?_;exact rest (va,b3) _ _ ⟨(J.trans D).trans G,ab.ext G,Nat.le_trans J.size ad,(a1.ext D).ext G⟩ sB
  refine alc Kk ?_;intro v1 b3 J ad ab;refine Jd (Qh (GrN.ext J) ?_);refine Zj 6 kr rfl rfl ?_;refine cl (dn v1 J) ?_;rintro va v2 ⟨a1,D⟩;refine Jd (Qh (GrN.ext D) ?_);refine Xu (fuel':=6) [(0,7)] #[true,true,true,true,true,true,true,true,false,false,false,false,true,false,false] kr kr rfl ?_;refine ρn ?_;refine Jzj underlying125 (λms e=>by cases e) ?_;refine ρn ?_;refine Zq ?_;refine Zj 8 kr rfl rfl ?_;refine cl (Jjd (au.ext (am.trans (J.trans D))) (Gr a1 aa.1 aa.2.1 (λ_=>True))) ?_;rintro _ v3 ⟨rfl,G⟩;rw[if_pos aa.2.2];refine Jd (Qh (GrN.ext G) ?_);refine Xu (fuel':=2) [(0,9),(0,10),(0,11)] (lst 15 13) kr kr rfl ?_;refine ρn ?_;refine Zq ?_;exact rest (va,b3) _ _ ⟨(J.trans D).trans G,(ab.ext D).ext G,ad,a1.ext G⟩ sB
 rintro⟨bm,fk⟩ f8 ⟨d7,bw,c3,dm⟩;refine Zj 13 kr rfl rfl ?_;refine stW bw ?_;intro b1 dv c1 de;have cw:Ext a9.drew b1:=de a9.drew d7 c3;have dk:RowsA b1 bm ds (L.filter q):=RowsA.off dm bw b1 (GrN.by c1 λk hk=>by injection hk with hk;exact hk.symm);refine Jd (Qh (GrN.by c1 λk hk=>by injection hk with hk;rw[<-hk];exact c3) ?_);refine Xu (fuel':=0) [(0,14)] (lst 15 15) kr kr rfl ?_;refine ρn ?_;refine Zq ?_;refine Jzn kr ?_;have a3:=am.trans cw;have cg:=aq.trans a3;have ch:=au.ext a3;have ck:=Gr dk aa.1 aa.2.1 (λ_=>True);have bj:Ext b1 b1.drew:=(Ext.refl b1).drew
 -- the first
 refine drR (scq 14 [10,11]) ?_;refine Qz (cs:=[.iface 100 xv,.iface 125 bm]) (λj u hu=>(dv.ext bj).at hu) ?_;refine Jh (Qpw (bb.ext ((a7.trans a3).trans bj)) (ba.ext (a3.trans bj))) ?_;rintro mv f4 ⟨eb,bo⟩;refine⟨bo,?_⟩;refine ρd ?_;have af:=bj.trans bo;refine dcl (Jnm (Jcm a5 q) (ch.ext af) (ck.ext af) (λ_ h=>h) (λ_ _=>trivial) (λi hi=>Jvq a5 hi) eb) ?_;rintro _ f3 ⟨rfl,bn⟩;refine⟨bn,?_⟩;refine ρd ?_;have ay:=af.trans bn;have e6:=cg.trans ay;have a4:=a3.trans ay;refine Qk (az.ext a4) ?_;refine Zz (Jct _ _ _ _ _ _ _ _ _ _ _ _ _ _ _ _) ?_;rw[<-b2];refine ρ ?_;refine mki underlying100 (λms e=>by cases e) ?_;refine Qk (az.ext a4) ?_;refine Zz (Jct _ _ _ _ _ _ _ _ _ _ _ _ _ _ _ _) ?_;rw[<-b2];refine ρ ?_;refine mki underlying100 (λms e=>by cases e) ?_;refine clR (Jjd (au.ext a4) (au.ext a4)) ?_;rintro _ cq ⟨rfl,d3⟩;rw[if_pos (nR _)]
 refine Jv Kk ?_;intro f2 eu d2 di db;refine Zk db ?_;intro a8 du ex d1;have bg:Ext cq a8:=d1 cq d2 di;have bh:=d3.trans bg;have Z:=a4.trans bh;have ag:=au.ext Z;have cp:=az.ext Z;have cm:=cn.ext Z;have cj:=dw.ext Z;have a2:Ext a8 a8.drew:=(Ext.refl a8).drew;have O:Lt ds ([]:List Row)/\([]:List Row).length<256/\([]:List Row).length<=L.length:=⟨List.Pairwise.nil,by decide,Nat.zero_le _⟩;have c4:∀ v,Ext a8.drew v->Ret prog 55 [.slice none 0 0,.slice dA ds.length dc] v λx w'=>RowsA w' x ds []/\Ext v w':=λv hv=>(Jbp (RowsV.nil v none 0) (cj.ext (a2.trans hv)) (by decide)).mono λx w' ⟨⟨m,h1,_,h2⟩,h3⟩=>⟨by
  have:m=[]:=List.eq_nil_of_length_eq_zero (by simpa using h2);rw[this]at h1;exact h1,h3⟩
 refine ρ ?_;refine drM (λk=>a8.drew.heap.size<=k) ?_;refine Xu (fuel':=9) [(0,0),(0,1),(0,2),(0,3),(0,4)] #[true,true,true,true,true,false,false,false,false,false,false,false,false,false] kr kr rfl ?_;refine ρn ?_;refine Xs (cs:=[.slice IA ia cc,.slice IB ib cb,.slice IC ic ca,.slice ID c9 c8,.slice IE ie c7]) (λw' hg j u hu=>((cp.ext a2).ext (hg.old (Ext.refl _) λk hk=>hk)).at hu) ?_;refine ρn ?_;refine Kp (Jct _ _ _ _ _ _ _ _ _ _ _ _ _ _ _) ?_;rw[<-b2];refine ρn ?_;refine Jzj underlying100 (λms e=>by cases e) ?_;refine ρn ?_;refine nld (λw' hg=>((cm.ext a2).ext (hg.old (Ext.refl _) λk hk=>hk)).at (i:=2) rfl) ?_;refine ρn ?_;refine Zq ?_;refine Jwp 2 (lst 14 12) (fun (y:Value×Nat)=>[(100,.agg #[.iface 100 xv,.iface 125 y.1]),(101,.int .i64 0),(16,.pointer (some ⟨y.2,0,none⟩)),(2,.pointer (some ⟨b,0,none⟩)),(4,.bool false),(10,.slice AA L.length ak),(14,.pointer (some ⟨eu,0,none⟩)),(15,.int .i64 0)])
  (λy w'=>Ext a8.drew w'/\Blk w' y.2 121 [.nilIface,.nilIface]/\a8.drew.heap.size<=y.2/\RowsA w' y.1 ds []) ?_ ?_
 rotate_left
 .intro rest;refine Ga 5 11 kr rfl rfl rfl ?_ ?_
  .refine cl (c4 a8.drew (Ext.refl _)) ?_;rintro va v1 ⟨a1,J⟩;refine Jd (Qh (GrN.ext J) ?_);refine Xu (fuel':=7) [(0,6)] #[true,true,true,true,true,true,true,false,false,false,false,false,false,false] kr kr rfl ?_;refine ρn ?_;refine Jzj underlying125 (λms e=>by cases e) ?_;refine ρn ?_;refine Zq ?_;refine Ga 7 11 kr rfl rfl rfl ?_ ?_
   .refine cl (Jjd (ag.ext (a2.trans J)) (Gr a1 O.1 O.2.1 (λ_=>True))) ?_;rintro _ v2 ⟨rfl,D⟩;rw[if_pos O.2.2];refine Jd (Qh (GrN.ext D) ?_);refine Xu (fuel':=3) [(0,8),(0,9),(0,10)] #[true,true,true,true,true,true,true,true,true,true,true,false,false,false] kr kr rfl ?_;refine ρn ?_;refine Zq ?_;refine Zj 11 kr rfl rfl ?_;refine alc Kk ?_;intro v3 b3 G ad ab;refine Jd (Qh (GrN.ext G) ?_);refine Gy (listed':=lst 14 12) kr ?_;exact rest (va,b3) _ _ ⟨(J.trans D).trans G,ab,Nat.le_trans (J.trans D).size ad,(a1.ext D).ext G⟩ sB
   refine alc Kk ?_;intro v2 b3 D ad ab;refine Jd (Qh (GrN.ext D) ?_);refine Zj 7 kr rfl rfl ?_;refine cl (Jjd (ag.ext (a2.trans (J.trans D))) (Gr (a1.ext D) O.1 O.2.1 (λ_=>True))) ?_;rintro _ v3 ⟨rfl,G⟩;rw[if_pos O.2.2];refine Jd (Qh (GrN.ext G) ?_);refine Xu (fuel':=2) [(0,8),(0,9),(0,10)] (lst 14 12) kr kr rfl ?_;refine ρn ?_;refine Zq ?_;exact rest (va,b3) _ _ ⟨(J.trans D).trans G,ab.ext G,Nat.le_trans J.size ad,(a1.ext D).ext G⟩ sB
  refine alc Kk ?_;intro v1 b3 J ad ab;refine Jd (Qh (GrN.ext J) ?_);refine Zj 5 kr rfl rfl ?_;refine cl (c4 v1 J) ?_;rintro va v2 ⟨a1,D⟩;refine Jd (Qh (GrN.ext D) ?_);refine Xu (fuel':=6) [(0,6)] #[true,true,true,true,true,true,true,false,false,false,false,true,false,false] kr kr rfl ?_;refine ρn ?_;refine Jzj underlying125 (λms e=>by cases e) ?_;refine ρn ?_;refine Zq ?_;refine Zj 7 kr rfl rfl ?_;refine cl (Jjd (ag.ext (a2.trans (J.trans D))) (Gr a1 O.1 O.2.1 (λ_=>True))) ?_;rintro _ v3 ⟨rfl,G⟩;rw[if_pos O.2.2];refine Jd (Qh (GrN.ext G) ?_);refine Xu (fuel':=2) [(0,8),(0,9),(0,10)] (lst 14 12) kr kr rfl ?_;refine ρn ?_;refine Zq ?_;exact rest (va,b3) _ _ ⟨(J.trans D).trans G,(ab.ext D).ext G,ad,a1.ext G⟩ sB
 rintro⟨cr,fj⟩ f7 ⟨d6,bs,c2,dl⟩;refine Zj 12 kr rfl rfl ?_;refine stW bs ?_;intro c5 dt bz dd;have cv:Ext a8.drew c5:=dd a8.drew d6 c2;have dj:RowsA c5 cr ds []:=RowsA.off dl bs c5 (GrN.by bz λk hk=>by injection hk with hk;exact hk.symm);refine Jd (Qh (GrN.by bz λk hk=>by injection hk with hk;rw[<-hk];exact c2) ?_);refine Xu (fuel':=0) [(0,13)] (lst 14 14) kr kr rfl ?_;refine ρn ?_;refine Zq ?_;refine Jzn kr ?_;have a6:=a2.trans cv;have ce:=(aq.trans Z).trans a6;have eh:=Gr dj O.1 O.2.1 (λ_=>True);have ar:=ag.ext a6;have eT:L.filter (λ_=>true)=L:=List.filter_eq_self.2 λ_ _=>rfl;have eF:L.filter (λ_=>false)=[]:=List.filter_eq_nil_iff.2 λ_ _ h=>by cases h
 have ej:DifH L L (cnt ds L):=by have:=Jcm a5 (λ_=>true);rwa [eT]at this
 have ek:DifH L [] (cnt ds []):=by have:=Jcm a5 (λ_=>false);rwa [eF]at this
 have e1:Xg L L=[]:=List.filter_eq_nil_iff.2 λr hr h=>by rw[decide_eq_true hr]at h;cases h
 have e0:Xg L []=L:=List.filter_eq_self.2 λr _=>by simp
 refine Qk (du.ext a6) ?_;refine clR (Jnm ej ar ar (λ_ h=>h) (λ_ h=>h) (λi hi=>Jvq a5 hi) (by rw[e1];exact RowsV.nil _ none 0)) ?_;rintro _ f0 ⟨rfl,ai⟩;refine Qk (dt.ext ai) ?_;refine clR (Jnm ek (ar.ext ai) (eh.ext ai) (λ_ h=>h) (λ_ _=>trivial) (λi hi=>Jvq a5 hi) (by rw[e0];exact bb.ext (((a7.trans Z).trans a6).trans ai))) ?_;rintro _ ez ⟨rfl,cz⟩;refine clR (ao _ ((ce.trans ai).trans cz)) ?_;rintro _ ey ⟨rfl,cy⟩;refine ρ ?_;exact Jj ⟨rfl,cy⟩
end Go.Proofs.YtgobkbeokaaplaaGreatDoor
namespace Go.Proofs.YtgobkbeokaaplaaGreatDoor
open Go.RowKit Pl Go.Wk Go.ChangeShapes Go.WideShapes
variable {cs:List Value}{B0 cap fuel len:Nat}{v vy:Value}
section
variable {H:Type} {enc:TypeId×Value->H} {w:World} {base b0:Nat} {spare:Nat->Bool} {held:Bool}
theorem Qdj{P:Program}{t e:TypeId}{x:DataW H×List MemPlace}(ht:P.underlying t=some (.array 2 e))(hce:P.cellsOf e=1)(hct:P.cellsOf t=2)(h:DataW.trod enc P w base spare held fuel t cs=some x):
  ∃ c0 c1 y0 y1 n,cs=[c0,c1]/\DataW.trod enc P w base spare held n e [c0]=some y0/\DataW.trod enc P w base spare held n e [c1]=some y1:=by
 cases fuel with
 | zero=>simp[DataW.trod]at h
 | succ n=>
  unfold DataW.trod at h;rw[ht]at h;have i:List.range 2=[0,1]:=rfl;simp[i,hce,hct]at h;obtain⟨j,h⟩:=h;match cs,j with
  | [c0,c1],_=>
   simp at h;cases h0:DataW.trod enc P w base spare held n e [c0] with
   | none=>simp[h0]at h
   | some y0=>
    cases h1:DataW.trod enc P w base spare held n e [c1] with
    | none=>simp[h0,h1]at h
    | some y1=>exact⟨c0,c1,y0,y1,n,rfl,h0,h1⟩
theorem Jrj{n:Int}(h:0<=n/\n<=255): ∃ x:UInt8,n=(x.toNat:Int):=⟨UInt8.ofNat n.toNat,by rw[UInt8.toNat_ofNat'];omega⟩
theorem Qnl{n:Nat}{y:DataW H×List MemPlace}(h:DataW.trod enc Tryz.prog w base spare held n 188 cs=some y): ∃ p:UInt8×UInt8,cs=[.int .u8 (p.1.toNat:Int),.int .u8 (p.2.toNat:Int)]:=by
 obtain⟨c0,O,J,G,n,rfl,D,f1⟩:=Qdj Tryz.underlying188 kr kr h;obtain⟨a0,j,_,w0⟩:=DataW.trod_int Tryz.underlying5 D;obtain⟨Z,i,_,u⟩:=DataW.trod_int Tryz.underlying5 f1;simp at j i;subst j;subst i;obtain⟨x,rfl⟩:=Jrj (bounds_u8 w0);obtain⟨z,rfl⟩:=Jrj (bounds_u8 u);exact⟨(x,z),rfl⟩
theorem Qnk{A:Option Addr}{x:DataW H×List MemPlace}(h:DataW.trod enc Tryz.prog w base spare held fuel 113 [.slice A len cap]=some x):
  ∃ l:List (UInt8×UInt8),PairsG w (.slice A len cap) l:=by
 obtain⟨l,G,D,O,u,j⟩:=Qnn (sz:=2) (λp:UInt8×UInt8=>[Value.int .u8 (p.1.toNat:Int),.int .u8 (p.2.toNat:Int)]) (λ_=>True) Tryz.underlying113 kr (λn J y i=>by obtain⟨p,hp⟩:=Qnl i;exact⟨p,hp,trivial⟩) h;subst G;exact⟨l,A,cap,rfl,u,by unfold maxLen at j;omega,D⟩
def Qbd(w:World)(v:Value): Prop:=∃(A:Option Addr) (c:Nat) (l:List (UInt8×UInt8)),v=.slice A l.length c/\PairsG w (.slice A l.length c) l
theorem Qnj{d:DataW H}{p:List MemPlace}(hv:Value.okWide Tryz.prog w .any b0 113 v)(h:DataW.Trod enc Tryz.prog w base spare held 113 v d p): Qbd w v:=by
 obtain⟨a,len,D,rfl⟩:=okWide_slice Tryz.underlying113 hv;obtain⟨j,u⟩:=h;obtain⟨l,i⟩:=Qnk u;obtain⟨A,c,e,O,J,G⟩:=id i;injection e with e1 e2 e3
 subst e1;subst e2;subst e3;exact⟨_,_,l,rfl,i⟩
end
theorem Xqk{w:World}(hTB:TB B0 w)(h:Qbh w v)(hy:Qbd w vy): Ret Tryz.prog 8 [v,vy] w λu w'=>u=.bool true/\Ext w w':=by
 obtain⟨cs,c,rfl,j,i⟩:=h;obtain⟨A,k,l,rfl,D⟩:=hy;exact Xql hTB j i D
end Go.Proofs.YtgobkbeokaaplaaGreatDoor
