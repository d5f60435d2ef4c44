/- Part 9. -/
import Derived.Test.YtebcagekopgdhaaGreatDoorZ08
import Derived.OpenShut
set_option linter.unusedVariables false
set_option maxRecDepth 100000
set_option maxHeartbeats 40000000
namespace Go.Proofs.YtebcagekopgdhaaGreatDoor
open Go.RowKit Pl Go.Wk
namespace Pl
variable {m:Nat}
def rkS(X:IX)(ds:List Bool)(q:Row): Nat->Nat
 | 0=>0
 | m+1=>rkS X ds q m+bef (ds.getD m false) (q.getD m V0) (X.E m (X.key m (q.take m)))*X.others m (q.take m)
section
variable {X:IX} {ds:List Bool} {q:Row}
theorem Jfr(h:X.Srt ds)(hm:m<q.length)(hg:X.Gp (q.take m)): X.Gp (q.take (m+1))↔q.getD m V0∈(X.E m (X.key m (q.take m))).map (·.1):=by
 have C:(q.take m).length=m:=by rw [List.length_take];omega
 have e:q.take (m+1)=q.take m++[q.getD m V0]:=by rw [List.take_succ_eq_append_getElem hm];simp [List.getD,hm]
 constructor
 .intro o;have u:=o m (by rw [List.length_take];omega);rw [List.take_take,Nat.min_eq_left om,h.d0,getD_take V0 om]at u;exact u
 .intro o;rw [e];exact AX.Gp.snoc hg (by rw [C];exact o)
theorem rk_inv(h:X.Srt ds)(hok:X.Ok)(hq:q.length<=X.F): ∀ m,m<=q.length->X.Gp (q.take m)->Jc ds (X.ext X.F []) q=rkS X ds q m+Jc ds (X.ext (X.F-m) (q.take m)) q
 | 0,_,_=>by simp [rkS]
 | m+1,hm,hg=>by
  have hg':X.Gp (q.take m):=by
   have:=hg.pre m;rwa [List.take_take,Nat.min_eq_left om]at this
  have hl:(q.take m).length=m:=by rw [List.length_take];omega
  have ih:=rk_inv h hok hq m om hg';have hmem:=(Jfr h om hg').1 hg;have e:X.F-m=(X.F-(m+1))+1:=om
  have h1:=h.cnt_step hok (n:=X.F-(m+1)) (y:=q.take m) (q:=q) (by rw [hl];omega) hq (by rw [hl];omega) (by rw [hl]);rw [hl]at h1;rw [if_pos hmem]at h1;have e2:q.take m++[q.getD m V0]=q.take (m+1):=by rw [List.take_succ_eq_append_getElem om];simp [List.getD,show m<q.length by omega]
  rw [e2]at h1;rw [ih,e,h1,rkS];omega
theorem rk_stop(h:X.Srt ds)(hok:X.Ok)(hq:q.length<=X.F)(hm:m<q.length)(hg:X.Gp (q.take m))(hn:¬ X.Gp (q.take (m+1))): Jc ds (X.ext X.F []) q=rkS X ds q (m+1):=by
 have u:(q.take m).length=m:=by rw [List.length_take];omega
 have e:X.F-m=(X.F-(m+1))+1:=om
 have C:=h.cnt_step hok (n:=X.F-(m+1)) (y:=q.take m) (q:=q) (by rw [u];omega) hq (by rw [u];omega) (by rw [u]);rw [u]at C;rw [if_neg λo=>hn ((Jfr h hm hg).2 o)]at C;rw [rk_inv h hok hq m om hg,e,C,rkS,Nat.add_zero]
theorem rk_end(h:X.Srt ds)(hok:X.Ok)(hq:q.length<=X.F)(hg:X.Gp q): Jc ds (X.ext X.F []) q=rkS X ds q q.length:=by
 have:=rk_inv h hok hq q.length (Nat.le_refl _) (by rw [List.take_length];exact hg);rw [this,List.take_length,AX.cnt_end,Nat.add_zero]
end
end Pl
theorem Jwv(ds:List Bool)(L:List Row)(q:Row): Jc ds L q<=L.length:=List.length_filter_le _ _
section
variable {f:Nat} {ds:List Bool} {kf:Nat->Nat} {pf:Nat->Int} {BB:Nat->List BkT} {tot:Nat} {L:List Row}
theorem IxP.rk_inv(ip:IxP f ds kf pf BB tot L)(ne:tot≠0){q:Row}(hq:q.length<=f){m:Nat}(hm:m<=q.length)(hg:(Qu f kf pf BB).Gp (q.take m)): rkS (Qu f kf pf BB) ds q m<=L.length:=by
 have u:=Pl.rk_inv (ip.srt ne) (ip.ok ne) (q:=q) hq m hm hg;have o:=Jwv ds L q;rw [ip.ans ne]at o ⊢;have:(Qu f kf pf BB).F=f:=rfl;rw [this]at u;omega
theorem IxP.rk_stop(ip:IxP f ds kf pf BB tot L)(ne:tot≠0){q:Row}(hq:q.length<=f){m:Nat}(hm:m<q.length)(hg:(Qu f kf pf BB).Gp (q.take m))(hn:¬ (Qu f kf pf BB).Gp (q.take (m+1))): Jc ds L q=rkS (Qu f kf pf BB) ds q (m+1):=by
 rw [ip.ans ne];exact Pl.rk_stop (ip.srt ne) (ip.ok ne) hq hm hg hn
theorem IxP.rk_end(ip:IxP f ds kf pf BB tot L)(ne:tot≠0){q:Row}(hq:q.length<=f)(hg:(Qu f kf pf BB).Gp q): Jc ds L q=rkS (Qu f kf pf BB) ds q q.length:=by
 rw [ip.ans ne];exact Pl.rk_end (ip.srt ne) (ip.ok ne) hq hg
theorem IxP.wi_len(ip:IxP f ds kf pf BB tot L)(ne:tot≠0){y:Row}(hy:y.length<=f)(hg:(Qu f kf pf BB).Gp y): (wiL L y).length=(Qu f kf pf BB).pend y.length y:=by
 rw [ip.wi_some ne hy hg];exact (ip.ok ne).ext_len _ y (by show y.length+(f-y.length)=f;omega)
end
open Go.RowKit Pl Go.Wk
variable {f i:Nat}{a b:Row}
section
variable {ds:List Bool} {L:List Row} {p:Row}
theorem hi_eq(ds:List Bool)(L:List Row)(p:Row): (L.filter λx=>decide (Jk (x.take p.length) p ds<=0)).length=Jc ds L p+(wiL L p).length:=by
 unfold Jc wiL;induction L with
 | nil=>rfl
 | cons x L ih=>
  simp only [List.filter_cons];by_cases h0:x.take p.length=p
  .have e:Jk (x.take p.length) p ds=0:=by rw [h0];exact Ze p ds
   rw [if_pos (show decide (Jk (x.take p.length) p ds<=0)=true by rw [e];rfl),if_neg (show ¬ decide (Jk (x.take p.length) p ds<0)=true by rw [e];decide),if_pos (by simpa using h0),List.length_cons,List.length_cons,ih];omega
  .have o:Jk (x.take p.length) p ds≠0:=λe=>h0 (Gd _ _ ds e);rw [if_neg (show ¬ decide (x.take p.length=p)=true by simpa using h0)];by_cases h1:Jk (x.take p.length) p ds<0
   .rw [if_pos (by simpa using Int.le_of_lt h1),if_pos (by simpa using h1),List.length_cons,List.length_cons,ih];omega
   .rw [if_neg (by simp;omega),if_neg (by simpa using h1),ih]
theorem Qgm(h:Lt ds L)(hi:i<L.length)(he:(L.getD i []).take p.length=p): i=Jc ds L p+(wiL (L.take i) p).length:=by
 have e:Jc ds L p=Jc ds (L.take i) p+Jc ds (L.drop i) p:=by rw [<-Jcd,List.take_append_drop]
 have U:Jc ds (L.drop i) p=0:=Jcc λx u=>by
  obtain ⟨j,o,rfl⟩:=List.getElem_of_mem u;rw [List.getElem_drop];have G:Jk (L.getD i []) (L[i+j]'(by rw [List.length_drop]at o;omega)) ds<=0:=by
   rcases Nat.eq_zero_or_pos j with rfl|h'
   .simp only [Nat.add_zero,Jm [] _ hi];rw [Ze];exact Int.le_refl _
   .have:=Jkw h (i:=i) (j:=i+j) om (by rw [List.length_drop]at o;omega);rw [<-Jm [] _ (show i+j<L.length by rw [List.length_drop]at o;omega)];exact Int.le_of_lt this
  have k:=Jln _ _ ds p.length G;rw [he]at k;have:=Ur p ((L[i+j]'(by rw [List.length_drop]at o;omega)).take p.length) ds;omega
 have C:∀ x∈L.take i,Jk (x.take p.length) p ds<=0:=λx u=>by
  obtain ⟨j,o,rfl⟩:=List.getElem_of_mem u;rw [List.length_take]at o;rw [List.getElem_take];have:=Jkw h (i:=j) (j:=i) om hi;rw [Jm [] _ (show j<L.length by omega)]at this;have k:=Jln _ _ ds p.length (Int.le_of_lt this);rwa [he]at k
 have O:(L.take i).filter (λx=>decide (Jk (x.take p.length) p ds<=0))=L.take i:=List.filter_eq_self.2 λx u=>by simpa using C x u
 have J:=hi_eq ds (L.take i) p;rw [O,List.length_take,Nat.min_eq_left om]at J;omega
theorem Jfs(h:Lt ds L)(hi:i<L.length)(hl:∀ x∈L,x.length=(L.getD i []).length): Jc ds L (L.getD i [])=i:=by
 have u:=Qgm h hi (p:=L.getD i []) (List.take_length ..);have G:wiL (L.take i) (L.getD i [])=[]:=by
  unfold wiL;refine List.filter_eq_nil_iff.2 λx o=>?_;obtain ⟨j,C,rfl⟩:=List.getElem_of_mem o;rw [List.length_take]at C;rw [List.getElem_take];have o:=hl _ (List.getElem_mem (show j<L.length by omega));rw [<-o,List.take_length];have:=Jkw h (i:=j) (j:=i) om hi;rw [Jm [] _ (show j<L.length by omega)]at this;simp only [decide_eq_true_eq];intro e;rw [e,Ze]at this;omega
 rw [G]at u;simpa using u.symm
theorem Jcb(hl:∀ x∈L,x.length=f)(hp:p.length=f): Jc ds L p=(L.filter λx=>decide (Jk x p ds<0)).length:=by
 unfold Jc;congr 1
 refine List.filter_congr λx o=>?_;rw [hp,<-hl x o,List.take_length]
theorem Qwt(hab:Jk a b ds<0)(L:List Row): (L.filter λx=>decide (Jk x b ds<0)).length=(L.filter λx=>decide (Jk x a ds<0)).length+(L.filter λx=>decide (0<=Jk x a ds) && decide (Jk x b ds<0)).length:=by
 induction L with
 | nil=>rfl
 | cons x L ih=>
  simp only [List.filter_cons];by_cases h1:Jk x a ds<0
  .have o:Jk x b ds<0:=(Yo ds).lt_le h1 (Int.le_of_lt hab);simp only [h1,o,decide_true,if_true,List.length_cons,ih,show ¬ (0<=Jk x a ds) by omega,decide_false,Bool.false_and,Bool.false_eq_true,if_false];omega
  .by_cases o:Jk x b ds<0
   .simp only [h1,o,decide_true,if_true,List.length_cons,ih,show (0<=Jk x a ds) by omega,decide_false,Bool.true_and,Bool.false_eq_true,if_false];omega
   .simp only [h1,o,decide_false,ih,Bool.and_false,Bool.false_eq_true,if_false]
theorem Qws(hab:¬ Jk a b ds<0)(L:List Row): (L.filter λx=>decide (0<=Jk x a ds) && decide (Jk x b ds<0)).length=0:=by
 rw [List.filter_eq_nil_iff.2 λx _=>?_];rfl;simp only [Bool.and_eq_true,decide_eq_true_eq,not_and,Int.not_lt];intro G;have u:Jk a x ds<=0:=by have:=Ur a x ds;omega
 have o:Jk b a ds<=0:=by have:=Ur a b ds;omega
 have C:=Jwx b a x ds o u;have:=Ur b x ds;omega
theorem Jsn(h:Lt ds L)(hl:∀ x∈L,x.length=f)(hp:p∈L): ∃ i,i<L.length/\L.getD i []=p/\Jc ds L p=i:=by
 obtain ⟨i,hi,e⟩:=List.getElem_of_mem hp;have o:L.getD i []=p:=by rw [Jm [] _ hi];exact e
 exact ⟨i,hi,o,by rw [<-o];exact Jfs h hi λx u=>by rw [hl x u,o,hl p hp]⟩
end
open Go.RowKit Pl Go.Wk
attribute [local irreducible] WC WL QX WD WDB WP WN WG WH WM
variable {M' b b2 b3 b5 b6 k pc:Nat}{PA:Option Addr}{q:Row}
structure RkM(K:SeK)(w:World)(y:Row)(S:Nat->Bool)(M m:Nat)(fm:Lit->Option Value): Prop where
 gr:GrN (λk=>k=K.mb) K.w1 w
 map:MapS Tryz.prog 3 w K.mb m fm
 mle:m<=M
 pd:PdF K y S fm
def RkV(K:SeK)(w:World)(y:Row)(S:Nat->Bool)(M:Nat): Prop:=∃ m fm,RkM K w y S M m fm
structure RkB(K:SeK)(b2 b3 b5 b6:Nat)(PA:Option Addr)(pc:Nat)(q:Row): Prop where
 x:Blk K.w1 b2 31 [K.x0,K.x1,K.x2,K.x3,K.x4]
 p:Blk K.w1 b3 37 [.slice PA q.length pc]
 b:Blk K.w1 b5 25 [.slice K.BA K.f K.bc]
 m:Blk K.w1 b6 173 [.map (some K.mb)]
 n2:b2≠K.mb
 n3:b3≠K.mb
 n5:b5≠K.mb
 n6:b6≠K.mb
 row:RdR K.w0 PA q
 le:q.length<=pc
section
variable {K:SeK} {w w':World} {y:Row} {S:Nat->Bool} {M m:Nat} {fm:Lit->Option Value}
theorem RkM.ext(h:RkM K w y S M m fm)(hx:Ext w w'): RkM K w' y S M m fm:=⟨h.gr.trans (GrN.ext hx),h.map.ext hx,h.mle,h.pd⟩
theorem RkV.ext(h:RkV K w y S M)(hx:Ext w w'): RkV K w' y S M:=by obtain ⟨m,fm,h⟩:=h;exact ⟨m,fm,h.ext hx⟩
theorem RkV.same{S':Nat->Bool}(h:RkV K w y S M)(e:∀ c,c<K.f->S c=S' c): RkV K w y S' M:=by
 obtain ⟨m,fm,h⟩:=h;refine ⟨m,fm,⟨h.gr,h.map,h.mle,λc o G=>h.pd.1 c o ((e c o).trans G),λC J=>?_⟩⟩;obtain ⟨c,u,U,O⟩:=h.pd.2 C J;exact ⟨c,u,by rw [<-e c u];exact U,O⟩
theorem RkV.more(h:RkV K w y S M)(hM:M<=M'): RkV K w y S M':=by
 obtain ⟨m,fm,h⟩:=h;exact ⟨m,fm,h.gr,h.map,Nat.le_trans h.mle hM,h.pd⟩
theorem RkV.gr(h:RkV K w y S M): GrN (λk=>k=K.mb) K.w1 w:=by obtain ⟨m,fm,h⟩:=h;exact h.gr
theorem RkV.off(h:RkV K w y S M)(hg:GrN (λk=>k=b) w w')(hb:K.w1.heap.size<=b)(hF:SeF K): RkV K w' y S M:=by
 obtain ⟨m,fm,h⟩:=h;refine ⟨m,fm,?_,h.map.gr hg λe=>by have:=hF.m2;omega,h.mle,h.pd⟩;exact ((h.gr.mono λk _ h=>(.inl h:k=K.mb∨k=b)).trans (hg.mono λk _ h=>.inr h)).mono λk o h=>h.elim id λe=>by omega
theorem RkV.app(h:RkV K w y S M)(hF:SeF K)(hS:∀ c,c<K.f->S c=true->K.pf c<(y.length:Int))(z:Row): RkV K w (y++z) S M:=by
 obtain ⟨m,fm,h⟩:=h;exact ⟨m,fm,h.gr,h.map,h.mle,h.pd.app hF hS z⟩
theorem Qqr(hq:k<=q.length): (q.take k).length=k:=by rw [List.length_take];omega
def SF.key(K:SeK)(c:Nat)(y:Row): SF:=⟨λv w=>RowV w v (pmR (bk (K.kf c) 32) y),λh hx=>h.ext hx⟩
def SF.tr(K:SeK)(c:Nat)(y:Row): SF:=⟨λv _=>∃ d p,v=.tuple #[.agg #[.bool d,.pointer p],.bool (Zb (K.BB c) (pmR (bk (K.kf c) 32) y)).isSome]/\TrV (λ_=>False) K.w0 (K.t c y) (.pointer p)/\(K.t c y≠.nil->d=K.ds.getD c false),λh _=>h⟩
def SF.tr2(K:SeK)(c:Nat)(y:Row): SF:=⟨λv _=>∃ d p,v=.agg #[.bool d,.pointer p]/\TrV (λ_=>False) K.w0 (K.t c y) (.pointer p)/\(K.t c y≠.nil->d=K.ds.getD c false),λh _=>h⟩
def SF.tbox(s:Nat): SF:=⟨λv w=>∃ b,v=.pointer (some ⟨b,0,none⟩)/\s<=b/\Blk w b 138 [.bool false,.pointer none],λ⟨b,e,h1,h2⟩ hx=>⟨b,e,h1,h2.ext hx⟩⟩
theorem Jsv(hF:SeF K)(hb:RkB K b2 b3 b5 b6 PA pc q)(hV:RkV K w (q.take k) S M)(hM:M<=4096)(hg:K.X.Gp (q.take k))(hkq:k<=q.length)(hkf:k<=K.f){v:Int}(hv:v+1=(k:Int)):
  Ret Tryz.prog 110 [.int .i64 v,.pointer (some ⟨b5,0,none⟩),.pointer (some ⟨b2,0,none⟩),.pointer (some ⟨b3,0,none⟩),.pointer (some ⟨b6,0,none⟩)] w λu w'=>u=.tuple #[]/\GrN (λk=>k=K.mb) w w'/\RkV K w' (q.take k) (λc=>S c || decide (K.pf c=v)) (M+K.f):=by
 have bh:=hF.ip.f32;have a7:=Qqr hkq;refine Jz Tryz.func110 Tryz.ntmps110 rfl kr rfl ?_;refine ρ ?_;refine ld ((Jy hb.b hV.gr hb.n5).at (i:=0) rfl) ?_;refine ρ ?_;refine Qg (fun (c:Nat)=>[(0,.int .i64 v),(2,.pointer (some ⟨b2,0,none⟩)),(3,.pointer (some ⟨b3,0,none⟩)),(4,.pointer (some ⟨b6,0,none⟩)),(10,.slice K.BA K.f K.bc),(11,.int .i64 (K.f:Int)),(12,.int .i64 (c:Int))])
  (λc w'=>c<=K.f/\GrN (λk=>k=K.mb) w w'/\RkV K w' (q.take k) (λj=>S j || (decide (j<c) && decide (K.pf j=v))) (M+c)) (λc=>K.f-c) 0 sB
  ⟨Nat.zero_le _,GrN.refl _ _,hV.same λc _=>by simp⟩ ?_
 rintro c w1 ⟨hc,aa,a3⟩;refine ρ ?_;refine ci (λh=>?_) (λh=>?_)
 .have lc:c<K.f:=by have:=oT h;omega
  clear h;have an:=hF.bg w1 a3.gr;refine ρ ?_;refine ixq 3 c an lc ?_;refine ρ ?_;refine lds (cs:=Qf K.kf K.pf c) (Qvd an lc) ?_;refine ρ ?_;refine alc Jkc ?_;intro w2 bb ay b7 bf;refine ρ ?_;refine stb (cs':=Qf K.kf K.pf c) bf ?_ Jxm;intro w3 av aj ax;have J:Ext w1 w3:=ax w1 ay b7;refine ρ ?_;refine ld (av.at (i:=2) rfl) ?_;refine ρ ?_;refine ci (λh=>?_) (λh=>?_)
  .have hp:K.pf c=v:=Xy h;clear h;have a8:Ext w3 w3.drew:=(Ext.refl w3).drew;have aq:=a3.ext J;have ab:=aq.ext a8;have O:=hF.ext ab.gr;have a4:=Jy hb.x ab.gr hb.n2;have be:=Jy hb.p ab.gr hb.n3;have af:RdR w3.drew PA (q.take k):=by
    have:=(Rd.ext hb.row O).take (m:=k) hkq;rw [Jfn q hkq]at this;show Rd _ 3 PA (q.take k).length _;rw [a7];exact this
   have b1:=hF.ip.keyb hF.ne lc (m:=k) (by rw [hp];omega);have ak:=hF.ip.fitK hg c;have am:∀ {d:Bool},((Zb (K.BB c) (pmR (bk (K.kf c) 32) (q.take k))).isSome=true->d=K.ds.getD c false)->K.t c (q.take k)≠.nil->d=K.ds.getD c false:=fun {d} h hne=>h (by
    cases hi:Zb (K.BB c) (pmR (bk (K.kf c) 32) (q.take k)) with
    | none=>exact absurd (Jht hi) hne
    | some i=>rfl)
   refine ρ ?_;refine drH (λi=>Nat.ble 14 i) ?_;refine Jzg 2 (lst 16 14) (fun (y:Bool×Option Addr×Nat)=>[(32,.agg #[.bool y.1,.pointer y.2.1]),(33,.bool (Zb (K.BB c) (pmR (bk (K.kf c) 32) (q.take k))).isSome),(8,.pointer (some ⟨y.2.2,0,none⟩)),(0,.int .i64 v),(2,.pointer (some ⟨b2,0,none⟩)),(3,.pointer (some ⟨b3,0,none⟩)),(4,.pointer (some ⟨b6,0,none⟩)),(6,.int .i64 (c:Int)),(10,.slice K.BA K.f K.bc),(11,.int .i64 (K.f:Int)),(12,.int .i64 (c:Int))])
    (λy W=>Ext w3.drew W/\Blk W y.2.2 138 [.bool false,.pointer none]/\w3.drew.heap.size<=y.2.2/\TrV (λ_=>False) K.w0 (K.t c (q.take k)) (.pointer y.2.1)/\(K.t c (q.take k)≠.nil->y.1=K.ds.getD c false)) ?_ ?_
   rotate_left
   .intro rest;refine Qxq 17 12 2 _ (lst 16 14) [0,1,2,3,4,5,6,7,8,9,10,11,12,13] [22,23,24,25,26,27,28,29,30,31,21,32,33,8] [SF.bk a4,SF.eq (.int .i64 (c:Int)),SF.bk a4,SF.eq (.int .i64 (c:Int)),SF.eq (.slice PA q.length pc),SF.eq (.int .i64 v),SF.eq (.int .i64 (k:Int)),SF.eq (.slice PA k pc),SF.key K c (q.take k),SF.tr K c (q.take k),SF.tr K c (q.take k),SF.tr2 K c (q.take k),SF.eq (.bool (Zb (K.BB c) (pmR (bk (K.kf c) 32) (q.take k))).isSome),SF.tbox w3.drew.heap.size] kr (by rfl) ?_ ?_ ?_
    .refine gsc (λvs U o C=>?_) ?_
     .simp only [slM];refine ldW (a4.ext o) ?_;refine ρ ?_;exact Zv (Ext.refl _) rfl
     refine gsc (λvs U o C=>?_) ?_
     .simp only [slM];refine ρ ?_;exact Zv (Ext.refl _) rfl
     refine gsc (λvs U o C=>?_) ?_
     .simp only [slM];refine ldW (a4.ext o) ?_;refine ρ ?_;exact Zv (Ext.refl _) rfl
     refine gsc (λvs U o C=>?_) ?_
     .simp only [slM];refine ρ ?_;exact Zv (Ext.refl _) rfl
     refine gsc (λvs U o C=>?_) ?_
     .simp only [slM];refine ld ((be.ext o).at (i:=0) rfl) ?_;refine ρ ?_;exact Zv (Ext.refl _) rfl
     refine gsc (λvs U o C=>?_) ?_
     .simp only [slM];refine ρ ?_;exact Zv (Ext.refl _) rfl
     refine gsc (λvs U o C=>?_) ?_
     .have e5:vs 5=_:=C 5;simp only [slM,e5];refine ρ ?_;exact Zv (Ext.refl _) (congrArg (Value.int .i64) hv)
     refine gsc (λvs U o C=>?_) ?_
     .have e4:vs 4=_:=C 4;have e6:vs 6=_:=C 6;have:=hb.le;simp only [slM,e4,e6];refine slh k ?_;refine ρ ?_;exact Zv (Ext.refl _) rfl
     refine gsc (λvs U o C=>?_) ?_
     .have e2:vs 2=_:=C 2;have e3:vs 3=_:=C 3;have e7:vs 7=_:=C 7;simp only [slM,e2,e3,e7];have ai:=Jhl (hF.ix.ext (O.trans o)) lc (c:=pc) (Rd.ext af o) (by have:=hb.le;omega) om (by rw [a7];exact b1);rw [a7]at ai;refine cl ai ?_;rintro uk W ⟨⟨KA,kc,rfl,ah,ag,a9,_⟩,hy⟩;exact Jl (Zv hy ⟨KA,kc,rfl,ah,ag,a9⟩)
     refine gsc (λvs U o C=>?_) ?_
     .have e0:vs 0=_:=C 0;have e1:vs 1=_:=C 1;obtain ⟨KA,kc,e8,ah,ag,a9⟩:=C 8;simp only [slM,e0,e1,e8];refine cl (Jbh (hF.tb.ext (O.trans o)) (O.trans o) hF.ix lc a9 ak) ?_;rintro u W ⟨d,p,rfl,Z,G,hy⟩;exact Jl (Zv hy ⟨d,p,rfl,Z,am G⟩)
     refine gsc (λvs U o C=>?_) ?_
     .obtain ⟨d,p,e9,Z,G⟩:=C 9;simp only [slM,e9];refine ρ ?_;exact Zv (Ext.refl _) ⟨d,p,rfl,Z,G⟩
     refine gsc (λvs U o C=>?_) ?_
     .obtain ⟨d,p,a2,Z,G⟩:=C 10;simp only [slM,a2];refine ρ ?_;exact Zv (Ext.refl _) ⟨d,p,rfl,Z,G⟩
     refine gsc (λvs U o C=>?_) ?_
     .obtain ⟨d,p,a2,Z,G⟩:=C 10;simp only [slM,a2];refine ρ ?_;exact Zv (Ext.refl _) rfl
     refine gsc (λvs U o C=>?_) gse
     .simp only [slM];refine alc Vk ?_;intro W b9 hy b8 a1;exact Jl (Zv hy ⟨b9,rfl,Nat.le_trans o.size b8,a1⟩)
    .intro vs W hy hf;obtain ⟨b9,ac,h9,a1⟩:=hf 13;obtain ⟨d,p,ad,Z,G⟩:=hf 11;have bi:vs 12=_:=hf 12;simp only [slM,ac,bi,ad];exact rest (d,p,b9) _ _ ⟨hy,a1,h9,Z,G⟩ sB
    .intro _ vs W hy hf;obtain ⟨b9,ac,h9,a1⟩:=hf 13;obtain ⟨d,p,ad,Z,G⟩:=hf 11;obtain ⟨d2,p2,a2,_,_⟩:=hf 10;simp only [slM,ac,ad,a2];refine Zr (fuel':=2) 12 kr kr rfl rfl ?_;refine ρp ?_;refine ρd ?_;refine Qk ?_;refine hlist (listed':=lst 16 14) kr ?_;exact rest (d,p,b9) _ _ ⟨hy,a1,h9,Z,G⟩ sB
   rintro ⟨d,p,b9⟩ W ⟨aw,au,ao,Z,C⟩;simp only at au ao Z C;refine Xc (fuel':=0) 17 [(2,14),(2,15)] (lst 16 16) kr kr rfl ?_;refine Je ?_;refine stW au ?_;intro W2 ar bj ae;refine Jl (Qh ?_);refine Je ?_;refine ρ ?_;refine Qh ?_;refine Vl (Qk ?_);refine Um kr ?_;have a5:Ext w3 W2:=ae w3 (a8.trans aw) (nL a8.size ao);have ba:=aq.ext a5;obtain ⟨m,fm,HW⟩:=id ba;refine ρ ?_;refine ld ((Jy hb.m HW.gr hb.n6).at (i:=0) rfl) ?_;refine ρ ?_;refine ldW ar ?_;refine ρ ?_;refine mup KI HW.map (by have:=HW.mle;unfold maxLen;omega) (Jjv (c:=c) om) ?_;intro W3 bd aj;have a6:GrN (λk=>k=K.mb) W2 W3:=GrN.by aj λk hk=>by injection hk with hk;exact hk.symm
   have ap:RkV K W3 (q.take k) (λj=>(S j || (decide (j<c) && decide (K.pf j=v))) || decide (j=c)) (M+(c+1)):=⟨_,_,HW.gr.trans a6,bd,by have:=HW.mle;omega,HW.pd.put bh lc Z C⟩;refine ρ ?_;refine Qy (c+1) sO ⟨lc,(aa.trans (GrN.ext (J.trans a5))).trans a6,ap.same λj _=>?_⟩ om;by_cases e:j=c
   .subst e;simp [hp]
   .have:(decide (j<c+1))=decide (j<c):=by by_cases h1:j<c<;>simp [h1]<;>omega
    rw [this];simp [e]
  .have hp:¬ K.pf c=v:=Xg h;clear h;refine ρ ?_;refine Qy (c+1) sO ⟨lc,aa.trans (GrN.ext J),((a3.ext J).same λj _=>?_).more om⟩ om;by_cases e:j=c
   .subst e;simp [hp]
   .have:(decide (j<c+1))=decide (j<c):=by by_cases h1:j<c<;>simp [h1]<;>omega
    rw [this]
 .have b4:c=K.f:=by have:=oF h;omega
  subst b4;clear h;refine ρ ?_;refine Yg ⟨rfl,aa,a3.same λj hj=>?_⟩;simp [hj]
theorem Jsp(hF:SeF K)(hb:RkB K b2 b3 b5 b6 PA pc q)(hV:RkV K w y S M):
  Ret Tryz.prog 113 [.pointer (some ⟨b6,0,none⟩)] w λu w'=>NatV w' u (K.X.prodS S y)/\Fresh w u/\Ext w w':=by
 have b8:=hF.ip.f32;obtain ⟨m,fm,H⟩:=id hV;have a2:=Jy hb.m H.gr hb.n6;obtain ⟨g,hg⟩:∃ g:(Lit->Bool)->Nat->Nat,g=λleft c=>if S c=true/\left (.int .i64 (c:Int))=false then K.X.T c y else 1:=⟨_,rfl⟩
 have ar:∀ left c,g left c<=4294967296^20:=λleft c=>by
  rw [hg];simp only;split
  .rw [K.T];exact hF.ip.big _ _
  .exact Nat.pow_pos (by decide)
 have ao:∀ left,Nb (Jf K.f (g left)):=λleft=>Nb.pow (k:=K.f) (Jjk (Nat.pow_pos (by decide)) λc _=>ar left c) om;refine Jz Tryz.func113 Tryz.ntmps113 rfl kr rfl ?_;refine ρ ?_;refine cl (Kz 1 (by decide) _) ?_;rintro J w1 ⟨a8,ac,G⟩;refine ρ ?_;refine ld ((a2.ext G).at (i:=0) rfl) ?_;refine ρ ?_;refine rngm KI (H.map.ext G) ?_;intro w2 r cnt Z a7 af;have lr:w.heap.size<=r:=nL G.size a7;refine ρ ?_;refine Xn (fun (left:Lit->Bool) (cnt:Nat) (J:Value)=>[(2,J),(7,.pointer (some ⟨r,0,none⟩))])
  (λleft cnt J w'=>Ext w w'/\RgS Tryz.prog 3 w' K.mb r m fm left cnt/\NatX (λk=>k=r) w' J (Jf K.f (g left))/\Fresh w J) (λ_ cnt _=>cnt) _ cnt J sB ⟨G.trans Z,af,?_,ac⟩ ?_
 .have e:Jf K.f (g λkl=>(fm kl).isSome)=1:=Jfw λc hc=>by
   rw [hg];simp only;rw [if_neg];rintro ⟨h1,h2⟩;obtain ⟨d,p,h3,_⟩:=H.pd.1 c hc h1;rw [h3]at h2;cases h2
  rw [e];exact (NatX.old (N:=λ_=>False) ⟨a8,λ_ _ _ _ _ h=>h⟩ λk hk=>.inr (by rw [hk];exact a7)).ext Z
 clear a8 ac af Z G J cnt;rintro left cnt J w3 ⟨a4,ax,a1,au⟩;refine ρ ?_;refine nxtm KI ax (λhl=>?_) (λkey v kl w4 ag b1 aq ab ae ap a9 av=>?_)
 .refine ρ ?_;have e:Jf K.f (g left)=K.X.prodS S y:=Ys λc hc=>by
   rw [hg];simp only;rw [hl];simp
  rw [e]at a1;exact Jq ⟨a1.1,au,a4⟩
 .obtain ⟨c,hc,a6,rfl⟩:=H.pd.2 kl (by rw [ab];simp);obtain ⟨d,p,O,ht,_⟩:=H.pd.1 c hc a6;rw [ab]at O;injection O with O
  subst O;have U:Ext w w4:=a9.old a4 λk hk=>by rw [hk];exact lr
  refine ρ ?_;refine entm av ?_;refine ρ ?_;refine alc Vk ?_;intro w5 b5 aj aw ay;refine ρ ?_;refine stW ay ?_;intro w6 a2 b4 ai;have o:Ext w4 w6:=ai w4 aj aw;refine ρ ?_;refine ldW a2 ?_;refine ρ ?_;have a5:Ext K.w0 w6:=(hF.ext H.gr).trans (U.trans o);refine cl (Jdm (ht.ext a5) (by rw [<-K.T];exact Nb.pow (k:=1) (by rw [Nat.pow_one,K.T];exact hF.ip.big _ _) om)) ?_;rintro ut w7 ⟨ak,b7,C⟩;have an:NatV w7 J (Jf K.f (g left)):=(((a1.gr a9).ext o).ext C).1;refine ρ ?_;refine cl (Jxs an ak (ao left).len (Nb.len (Nb.pow (k:=1) (by rw [Nat.pow_one];exact hF.ip.big _ _) om))) ?_;rintro ur w8 ⟨am,aa,a3⟩;refine ρ ?_;refine Qa _ ag ur sO ⟨((U.trans o).trans C).trans a3,((ae.ext o).ext C).ext a3,?_,λad m c e=>?_⟩ ap
  .have ah:r<w7.heap.size:=nM (ae.lt) (o.trans C).size;have e:Jf K.f (g λz=>left z && !z.sameKey (.int .i64 (c:Int)))=Jf K.f (g left)*(K.t c y).sum:=by
    rw [Jkq hc,Jkq (g:=g left) hc];have h1:g left c=1:=by rw [hg];simp only;rw [if_neg];rintro ⟨_,h2⟩;rw [aq]at h2;cases h2
    have h2:g (λz=>left z && !z.sameKey (.int .i64 (c:Int))) c=(K.t c y).sum:=by
     rw [hg];simp only;rw [if_pos ⟨a6,by rw [WideAt.sameKey_self (Jbf om)];simp⟩,K.T]
    rw [h1,h2,Nat.one_mul,Nat.mul_comm];congr 1
    refine Ys λj hj=>?_;by_cases ej:j=c
    .rw [if_pos ej,if_pos ej]
    .rw [if_neg ej,if_neg ej,hg];simp only;have:(Lit.int .i64 (j:Int)).sameKey (.int .i64 (c:Int))=false:=Maps.sameKey_ne λe'=>ej (Jbb e');simp only [this,Bool.not_false,Bool.and_true]
   rw [e];exact aa.x am λk hk=>by rw [hk];exact ah
  .exact nL (((U.trans o).trans C).size) (aa ad m c e)
end
open Go.RowKit Pl Go.Wk
variable {B0 c m n pc:Nat}{q z:Row}{K:SeK}
def tt2: TT:=(131,{ desc:=.invalid,size:=4,offs:=[0,1,2,3] })::tt
theorem Jpk: TOk Tryz.prog tt2:=⟨⟨_,Tryz.underlying131,kr,kr⟩,Ie⟩
instance:Tab Tryz.prog tt2:=⟨Jpk,mixed⟩
theorem Jvk: Qr Tryz.prog 131=some (.agg #[.slice none 0 0,.slice none 0 0,.bool false,.int .i64 0]):=kr
theorem zBags: Qr Tryz.prog 25=some (.slice none 0 0):=kr
theorem zMapT: Qr Tryz.prog 173=some (.map none):=kr
theorem Jpx{g:Nat->Nat}(h:n<=m): Qd n g<=Qd m g:=by
 induction h with
 | refl=>exact Nat.le_refl _
 | step h ih=>rw [Qd];omega
theorem Jcm(d:Bool)(v:V): ∀ t:Tr,Tr.befT d v t<=t.sum
 | .nil=>Nat.le_refl _
 | .node l a y r=>by
  have h1:=Jcm d v l;have h2:=Jcm d v r;rw [Tr.befT,Tr.sum];split
  .omega
  .split<;>omega
theorem SeF.bef(hF:SeF K)(hc:c<K.f){d:Bool}(hd:K.t c z≠.nil->d=K.ds.getD c false)(v:V):
  Tr.befT d v (K.t c z)=bef (K.ds.getD c false) v (K.X.E c (K.X.key c z)):=by
 rw [K.E];by_cases h:K.t c z=.nil
 .rw [h];rfl
 .have o:Im d (K.t c z).toL:=by
   rw [hd h,<-K.E];exact (hF.ip.srt hF.ne).srt c hc _
  rw [(Tr.befT_eq o).1,hd h]
theorem SeF.onb(hF:SeF K)(m:Nat)(z:Row): Nb (K.X.others m z):=by
 refine Nb.pow (k:=K.f) (Jjk (Nat.pow_pos (by decide)) λc _=>?_) hF.ip.f32;split
 .rw [K.T];exact hF.ip.big _ _
 .exact Nat.pow_pos (by decide)
theorem SeF.rk_le(hF:SeF K)(hq:q.length<=K.f)(hm:m<=q.length)(hg:K.X.Gp (q.take m)): Nb (rkS K.X K.ds q m) :=
 hF.ip.nbT.le (by have:=hF.ip.rk_inv hF.ne hq hm hg;rw [hF.ip.len];exact this)
section
variable {f:Nat} {ds:List Bool} {kf:Nat->Nat} {pf:Nat->Int} {BB:Nat->List BkT} {tot:Nat} {L:List Row}
theorem Qzn{w:World}{x:Value}{PA:Option Addr}(tb:TB B0 w)(ix:IxV w x f ds kf pf BB tot)(ip:IxP f ds kf pf BB tot L)(ne:tot≠0)(hq:RdR w PA q)(hqc:q.length<=pc)(hqf:q.length<=f):
  Ret Tryz.prog 70 [x,.slice PA q.length pc] w λu w'=>∃ (bv cv:Value) (st:Nat),u=.agg #[bv,cv,.bool (decide (0<(wiL L q).length)),.int .i64 (st:Int)]/\NatV w' bv (Jc ds L q)/\NatV w' cv (wiL L q).length/\(st<=Qd f λv=>hmB (BB v))/\Ext w w':=by
 obtain ⟨DA,dc,BA,cb,KA,ck,g4,cp,tv,gk,gf,rfl,gu,gw,hD,hB,hK,hP,f3,gl⟩:=id ix.ex;obtain ⟨TA,tc,rfl,_⟩:=id f3;have h4:=ip.f32;refine Jz Tryz.func70 Tryz.ntmps70 rfl kr rfl ?_;refine ρ ?_;refine bx ?_;intro w1 b2 f0 gz cw;refine ρ ?_;refine bx ?_;intro w2 b3 ba gy eh;refine ρ ?_;refine alc Jvk ?_;intro w3 b4 af gx ef;have d7:=f0.trans ba;have ak:=d7.trans af;refine ρ ?_;refine ldW ((cw.ext ba).ext af) ?_;refine ρ ?_;refine cl (Jhm (ix.ext ak)) ?_;rintro u w4 ⟨⟨A,c,rfl,hc,hR,hf⟩,a5⟩;refine ρ ?_;refine alc zBags ?_;intro w5 b5 ez fk g0;refine ρ ?_;refine Gr g0 ?_ rfl;intro w6 bu gq ey;have U:Ext w4 w6:=ey w4 ez fk;refine ρ ?_;refine mkm 3 ?_;intro w7 mb d5 gn hM;refine ρ ?_;refine alc zMapT ?_;intro w8 b6 ew fj fz;refine ρ ?_;refine Gr fz ?_ rfl;intro w9 ec dm eu;have ai:Ext w7 w9:=eu w7 ew fj;have bf:=d5.trans ai;have a4:=U.trans bf;have bg:=ak.trans (a5.trans a4)
 have e8:=hM.ext ai;have ei:=((cw.ext ba).ext af).ext (a5.trans a4);have eg:=(eh.ext af).ext (a5.trans a4);have ee:=ef.ext (a5.trans a4);have ed:=bu.ext bf;have gg:=hM.lt;have l1:=cw.lt;have l2:=eh.lt;have l3:=ef.lt;have l5:=bu.lt;have z1:=(ba.trans (af.trans (a5.trans U))).size;have z2:=(af.trans (a5.trans U)).size;have z3:=(a5.trans U).size;have z4:=U.size;have z7:=d5.size;have g6:=ai.size;have z0:=(ak.trans (a5.trans U)).size;have g8:=bg.size;obtain ⟨K,ay⟩:∃ K:SeK,K=⟨B0,w,w9,mb,w9.heap.size,.slice DA f dc,.slice BA f cb,.slice KA f ck,.slice g4 f cp,.slice TA (Jj tot).length tc,A,c,f,ds,kf,pf,BB,tot,L⟩:=⟨_,rfl⟩;have dz:Off (λk=>k=mb) w9 (λu=>Rd u 3 A f (Qm f (Qf kf pf))):=Jyk (hR.ext a4) λh0 ad e (e2:ad.block=mb)=>by
  obtain ⟨h5,e',f9⟩:=hR.2 h0;rw [e]at e';injection e' with e'
  have:=f9.1;rw [<-e']at this;omega
 have o:SeF K:=by
  subst ay;exact ⟨tb,ix,ip,ne,bg,by show w.heap.size<=mb;omega,e8.lt,Nat.le_refl _,hc,dz,Qjf⟩
 have J:RkB K b2 b3 b5 b6 PA pc q:=by
  subst ay;exact ⟨ei,eg,ed,ec,by show b2≠mb;omega,by show b3≠mb;omega,by show b5≠mb;omega,by show b6≠mb;omega,hq,hqc⟩
 have fq:RkV K w9 (q.take 0) (λ_=>false) 0:=by
  subst ay;exact ⟨0,λ_=>none,GrN.refl _ _,e8,Nat.le_refl _,λc _ h=>(by cases h),λkl h=>absurd rfl h⟩
 have g1:K.f=f/\K.ds=ds/\K.kf=kf/\K.pf=pf/\K.BB=BB/\K.tot=tot/\K.L=L/\K.w1=w9/\K.w0=w/\K.mb=mb:=by subst ay;exact ⟨rfl,rfl,rfl,rfl,rfl,rfl,rfl,rfl,rfl,rfl⟩
 obtain ⟨rfl,rfl,rfl,rfl,rfl,rfl,rfl,f2,c6,bm⟩:=g1;clear ay;have df:∀ c,c<K.f->K.pf c<(c:Int):=λc hc=>(o.ip.par ne hc).2;have fc:K.X.Ok:=o.ip.ok ne;have fb:∀ v z,(K.t v z).ht<=hmB (K.BB v):=λv z=>Jpq _ _;have dj:∀ v z,(K.t v z).ht<=65536:=λv z=>nL (Tr.ht_le _) (o.ip.siz _ _);have bi:∀ v z,Nb (K.t v z).sum:=λv z=>Nb.pow (k:=1) (by rw [Nat.pow_one];exact o.ip.big _ _) om;have da:∀ v z,(K.t v z).sz<=1000000:=λv z=>nL (o.ip.siz _ _) (by decide);refine ρ ?_;refine alc Jvk ?_;intro gc C aj fi eb;refine ρ ?_;refine clv (Jsv (k:=0) o J (fq.ext aj) om (AX.Gp.nil) (Nat.zero_le _) (Nat.zero_le _) (v:=-1) rfl) ?_;rintro u gb ⟨rfl,av,ax⟩;have l9:=eb.lt;have g7:=aj.size;have n9:¬ C=K.mb:=by rw [bm];omega
 have n4:¬ b4=K.mb:=by rw [bm];omega
 have b7:=Jy eb av n9;have b8:=Jy (ee.ext aj) av n4;have cz:b4≠C:=om
 have cy:K.w1.heap.size<=C:=by rw [f2];exact fi
 refine ρ ?_;refine ld ((Jy J.p ax.gr J.n3).at (i:=0) rfl) ?_;refine ρ ?_;refine Xn (fun (i:Nat) (bv:Value) (st:Nat)=>[(4,.pointer (some ⟨b4,0,none⟩)),(6,.pointer (some ⟨b6,0,none⟩)),(7,.func (.func 110) #[] #[.pointer (some ⟨b5,0,none⟩),.pointer (some ⟨b2,0,none⟩),.pointer (some ⟨b3,0,none⟩),.pointer (some ⟨b6,0,none⟩)]),(8,.func (.func 113) #[] #[.pointer (some ⟨b6,0,none⟩)]),(9,.pointer (some ⟨C,0,none⟩)),(23,.slice PA q.length pc),(24,.int .i64 (q.length:Int)),(25,.int .i64 (i:Int))])
  (λi bv st w'=>i<=q.length/\K.X.Gp (q.take i)/\RkV K w' (q.take i) (pS K.pf i i) (32*(i+1))/\Blk w' C 131 [bv,.slice none 0 0,.bool false,.int .i64 (st:Int)]/\Blk w' b4 131 [.slice none 0 0,.slice none 0 0,.bool false,.int .i64 0]/\NatX (λk=>k=K.mb∨k=C∨k=b4) w' bv (rkS K.X K.ds q i)/\(st<=Qd i λv=>hmB (K.BB v))/\st<=65536*i) (λi _ _=>q.length-i) 0 (.slice none 0 0) 0 sB
  ⟨Nat.zero_le _,AX.Gp.nil,?_,b7,b8,NatX.nil _,Nat.le_refl _,Nat.le_refl _⟩ ?_
 .refine (ax.same λc hc=>?_).more om;have:=o.ip.par ne hc;unfold pS;rw [Bool.eq_iff_iff];simp only [Bool.or_eq_true,Bool.and_eq_true,decide_eq_true_eq];constructor
  .rintro (h|h)
   .cases h
   .exact ⟨Nat.zero_le _,om⟩
  .rintro ⟨_,h⟩;right;omega
 clear b7 b8 ax av;rintro i bv st v5 ⟨hi,ag,a9,cr,cn,aw,f6,gm⟩;have ce:(q.take i).length=i:=Qqr hi;have d6:=o.ext a9.gr;refine ρ ?_;refine ci (λh=>?_) (λh=>?_)
 .have li:i<q.length:=by have:=oT h;omega
  have a8:i<K.f:=om
  clear h;have de:=Rd.ext hq (c6 ▸ d6);refine ρ ?_;refine ixq 3 i de li ?_;refine ρ ?_;refine lds (cs:=(q.getD i V0).cells) (λj u' ca=>RdR.cell de li ca) ?_;refine ρ ?_;refine alc (cs:=V0.cells) Uo ?_;intro v6 g3 ae e1 bz;refine ρ ?_;refine stb (cs':=(q.getD i V0).cells) bz ?_ (V.one _);intro v7 fy dn et;have ah:Ext v5 v7:=et v5 ae e1;have fo:=a9.ext ah;obtain ⟨m0,fm,H⟩:=id fo;obtain ⟨d,p,ff,hT,hd⟩:=H.pd.1 i a8 (by unfold pS;simp [df i a8]);refine ρ ?_;refine ld ((Jy J.m H.gr J.n6).at (i:=0) rfl) ?_;refine ρ ?_;refine mlk KI H.map Qyq (Jjv (c:=i) om) ?_;rw [ff];refine ρ ?_;refine alc Vk ?_;intro v8 g2 er e0 bw;refine ρ ?_;refine stW bw ?_;intro v9 cx bo c3;have aa:Ext v7 v9:=c3 v7 er e0;have H9:=H.ext aa;refine ρ ?_;refine ld ((Jy J.m H9.gr J.n6).at (i:=0) rfl) ?_;refine ρ ?_;refine mdn KI H9.map (Jjv (c:=i) om) ?_;intro c1 e9 dq;have a1:GrN (λk=>k=K.mb) v9 c1:=GrN.by dq λk hk=>by injection hk with hk;exact hk.symm
  have g5:K.mb<v7.heap.size:=H.map.lt;have bn:K.mb<v5.heap.size:=nM o.m2 a9.gr.size;have gj:=bz.lt;have ga:=ah.size;have g9:=aa.size;have gi:=bw.lt;have eo:¬ g3=K.mb:=om
  have en:¬ g2=K.mb:=om
  have bq:RkV K c1 (q.take i) (pS K.pf (i+1) i) (32*(i+1)):=RkV.same ⟨_,_,H9.gr.trans a1,e9,H9.mle,H9.pd.drop o.ip.f32 a8⟩ λc _=>Jgd;have bd:=Jy (fy.ext aa) a1 eo;have bc:=Jy cx a1 en;have a2:GrN (λk=>k=K.mb) v5 c1:=((GrN.ext ah).trans (GrN.ext aa)).trans a1;have ea:=Jy cr a2 n9;have bs:=Jy cn a2 n4;have cj:=aw.gr (a2.mono λk _ h=>.inl h);refine ρ ?_;refine ldW bc ?_;refine ρ ?_;refine lds (cs:=(q.getD i V0).cells) (λj u' ca=>bd.at ca) ?_;refine ρ ?_;have c5:=o.ext bq.gr;refine cl (Qww (hT.ext c5) (bi _ _) (da _ _)) ?_;rintro u c0 ⟨sv,e,rfl,he,f5,d4⟩;have c2:Ext c0 c0.drew:=(Ext.refl c0).drew;have O:=d4.trans c2;have e3:=bq.ext O;have co:=ea.ext O;have dv:=cj.ext O;have gt:=fb i (q.take i);have gs:=dj i (q.take i);refine ρ ?_;refine drN (λ_=>False) 10 [(0,0),(0,1),(0,2),(0,3),(1,4),(1,5),(1,6),(0,7),(2,8)] kr ?_;refine ρn ?_;refine nld (λw' hg=>(co.ext hg.toExt).at (i:=0) rfl) ?_
  refine ρn ?_;refine nop ?_;refine clv (Jsp o J e3) ?_;rw [Jtm];rintro pv em ⟨f8,_,G⟩;refine ρ ?_;refine Jv (GrN.ext G) ?_;refine ρn ?_;refine nop ?_;have db:=(f5.ext c2).ext G;refine cl (Jxs db f8 ((bi i (q.take i)).le (Jcm _ _ _)).len (o.onb _ _).len) ?_;rintro mv gd ⟨di,_,ab⟩;rw [o.bef a8 hd]at di;refine ρ ?_;refine Jv (GrN.ext ab) ?_;refine ρn ?_;refine nop ?_;have ch:=((dv.ext G).ext ab).1;have cd:Nb (bef (K.ds.getD i false) (q.getD i V0) (K.X.E i (K.X.key i (q.take i)))*K.X.others i (q.take i)):=by
   refine (o.pnb i (q.take i)).le ?_;have h1:=fc.pend_split (y:=q.take i) (by rw [ce];exact a8);rw [ce]at h1;rw [h1,<-o.bef a8 hd,K.T];exact nO _ (Jcm _ _ _)
  refine cl (Ij ch di (o.rk_le hqf hi ag).len cd.len) ?_;rintro ge d1 ⟨ao,dt,be⟩;have f7:rkS K.X K.ds q i+bef (K.ds.getD i false) (q.getD i V0) (K.X.E i (K.X.key i (q.take i)))*K.X.others i (q.take i)=rkS K.X K.ds q (i+1):=rfl;rw [f7]at ao;obtain ⟨ZA,zc,rfl,_⟩:=id ao;refine ρ ?_;refine Jv (GrN.ext be) ?_;refine ρn ?_;have Z:=(G.trans ab).trans be;have el:=c2.trans Z;have b1:=co.ext Z;refine Xb ?_;refine sto (b1.at (i:=0) rfl) (b1.frozen 0) ?_;obtain ⟨a3,an⟩:∃ a3,a3=d1.setCell ((⟨C,0,none⟩:Addr).add 0) (.slice ZA (Jj (rkS K.X K.ds q (i+1))).length zc):=⟨_,rfl⟩;rw [<-an];have au:GrN (λk=>k=C) d1 a3:=by rw [an];exact GrN.set _ rfl
  have ac:Blk a3 C 131 [.slice ZA (Jj (rkS K.X K.ds q (i+1))).length zc,.slice none 0 0,.bool false,.int .i64 (st:Int)]:=by rw [an];exact b1.set 0 _
  have e5:=(e3.ext Z).off au cy o;have e7:=Jy ((bs.ext O).ext Z) au cz;have ep:C<em.heap.size:=(co.ext G).lt;have dh:NatX (λk=>k=K.mb∨k=C∨k=b4) a3 (.slice ZA (Jj (rkS K.X K.ds q (i+1))).length zc) (rkS K.X K.ds q (i+1)):=by
   refine NatX.gr (N:=λk=>k=K.mb∨k=C∨k=b4) ⟨ao,λh0 ad m c e=>?_⟩ (au.mono λk _ h=>.inr (.inl h));have h1:=dt ad m c e;have h2:=ab.size;have h3:=(bs.ext (O.trans G)).lt;rintro (h|h|h)
   .have:=nM bn (a2.size);have:=(O.trans G).size;omega
   .omega
   .omega
  refine ω5 ?_;refine Uf ?_;refine ρn ?_;refine ρ ?_;refine ld (ac.at (i:=3) rfl) ?_;refine ρ ?_;refine sto (ac.at (i:=3) rfl) (ac.frozen 3) ?_;obtain ⟨a7,am⟩:∃ a7,a7=a3.setCell ((⟨C,0,none⟩:Addr).add 3) (.int .i64 ((st+e:Nat):Int)):=⟨_,rfl⟩;have c9:a3.setCell ((⟨C,0,none⟩:Addr).add 3) (.int .i64 ((st:Int)+(e:Int)))=a7:=am.symm;refine Eq.mpr (congrArg _ c9) ?_;have ar:GrN (λk=>k=C) a3 a7:=by rw [am];exact GrN.set _ rfl
  have bt:Blk a7 C 131 [.slice ZA (Jj (rkS K.X K.ds q (i+1))).length zc,.slice none 0 0,.bool false,.int .i64 ((st+e:Nat):Int)]:=by rw [am];exact ac.set 3 _
  have bp:=e5.off ar cy o;have br:=Jy e7 ar cz;have bj:=dh.gr (ar.mono λk _ h=>.inr (.inl h));have dx:=o.has a8 (z:=q.take i) hd (q.getD i V0);have dd:(st+e<=Qd (i+1) λv=>hmB (K.BB v)):=by rw [Qd];omega
  have dl:K.X.Gp (q.take (i+1))↔Tr.hasT d (q.getD i V0) (K.t i (q.take i))=true:=(Jfr (o.ip.srt ne) li ag).trans dx.symm;refine ρ ?_;refine ci (λh=>?_) (λh=>?_)
  .have dg:¬ K.X.Gp (q.take (i+1)):=λhg=>by
    rw [dl.1 hg]at h;cases h
   clear h;have bh:wiL K.L q=[]:=o.ip.wi_none ne λhg=>dg (hg.pre (i+1));refine ρ ?_;refine ldW bt ?_;refine ρ ?_;refine stW br ?_;intro d0 e6 a6 d3;refine ρ ?_;have c4:=d3 w (c6 ▸ o.ext bp.gr) om;have cg:GrN (λk=>k=b4) a7 d0:=GrN.by a6 λk hk=>by injection hk with hk;exact hk.symm
   refine Ic e6 ⟨_,_,st+e,by rw [bh];rfl,?_,?_,Nat.le_trans dd (Jpx om),c4⟩
   .rw [o.ip.rk_stop ne hqf li ag dg];exact (bj.gr (cg.mono λk _ h=>.inr (.inr h))).1
   .rw [bh];exact NatV.nil _
  .have d2:Tr.hasT d (q.getD i V0) (K.t i (q.take i))=true:=by
    cases hh:Tr.hasT d (q.getD i V0) (K.t i (q.take i)) with
    | true=>rfl
    | false=>rw [hh]at h;cases h
   clear h;have dk:=dl.2 d2;have f4:q.take (i+1)=q.take i++[q.getD i V0]:=Qc V0 li;have cm:RkV K a7 (q.take (i+1)) (pS K.pf (i+1) i) (32*(i+1)):=by
    rw [f4];exact bp.app o (λc _ hs=>by
     rw [ce];unfold pS at hs;simp only [Bool.and_eq_true,decide_eq_true_eq]at hs;exact hs.2) _
   refine ρ ?_;refine clv (Jsv (k:=i+1) o J cm om dk om om (v:=(i:Int)) om) ?_;rintro u d0 ⟨rfl,a6,e4⟩;refine ρ ?_;exact Qa (i+1) _ (st+e) sO ⟨li,dk,(e4.same λc hc=>Jgf (df c hc)).more om,Jy bt a6 n9,Jy br a6 n4,bj.gr (a6.mono λk _ h=>.inl h),dd,om⟩ om
 .have fa:i=q.length:=by have:=oF h;omega
  clear h;subst fa;rw [List.take_length]at ag a9;refine ρ ?_;refine clv (Jsp o J a9) ?_;rw [Jtl];rintro cv v6 ⟨du,fg,ae⟩;obtain ⟨ek,ej,rfl,_⟩:=id aw.1;obtain ⟨CA,cc,rfl,_⟩:=id du;have cq:=cr.ext ae;have fw:=cn.ext ae;have fp:=a9.ext ae;have dw:=aw.ext ae;have ep:=cr.lt;have gh:=cn.lt;have bn:K.mb<v5.heap.size:=nM o.m2 a9.gr.size;have fh:NatX (λk=>k=K.mb∨k=C∨k=b4) v6 (.slice CA (Jj (K.X.pend q.length q)).length cc) (K.X.pend q.length q):=⟨du,λ_ ad m c e=>by
   have:=fg ad m c e;rintro (h|h|h)<;>omega⟩
  refine ρ ?_;refine sto (cq.at (i:=1) rfl) (cq.frozen 1) ?_;obtain ⟨v7,c8⟩:∃ v7,v7=v6.setCell ((⟨C,0,none⟩:Addr).add 1) (.slice CA (Jj (K.X.pend q.length q)).length cc):=⟨_,rfl⟩;rw [<-c8];have dn:GrN (λk=>k=C) v6 v7:=by rw [c8];exact GrN.set _ rfl
  have bb:Blk v7 C 131 [.slice ek (Jj (rkS K.X K.ds q q.length)).length ej,.slice CA (Jj (K.X.pend q.length q)).length cc,.bool false,.int .i64 (st:Int)]:=by rw [c8];exact cq.set 1 _
  refine ρ ?_;refine ld (bb.at (i:=1) rfl) ?_;refine ρ ?_;refine sto (bb.at (i:=2) rfl) (bb.frozen 2) ?_;have d8:=o.ip.wi_len ne hqf ag;have fe:decide (0<((Jj (K.X.pend q.length q)).length:Int))=decide (0<(wiL K.L q).length):=by
   rw [d8];show decide _=decide (0<K.X.pend q.length q);rcases Nat.eq_zero_or_pos (K.X.pend q.length q) with h0|h0
   .rw [h0,limbs_0];rfl
   .rw [decide_eq_true h0,decide_eq_true (by have:=limbs_pos' (show K.X.pend q.length q≠0 by omega);omega)]
  obtain ⟨v8,c7⟩:∃ v8,v8=v7.setCell ((⟨C,0,none⟩:Addr).add 2) (.bool (decide (0<(wiL K.L q).length))):=⟨_,rfl⟩;have d9:v7.setCell ((⟨C,0,none⟩:Addr).add 2) (.bool (decide (0<((Jj (K.X.pend q.length q)).length:Int))))=v8:=by rw [fe];exact c7.symm
  refine Eq.mpr (congrArg _ d9) ?_;have fd:GrN (λk=>k=C) v7 v8:=by rw [c7];exact GrN.set _ rfl
  have fx:Blk v8 C 131 [.slice ek (Jj (rkS K.X K.ds q q.length)).length ej,.slice CA (Jj (K.X.pend q.length q)).length cc,.bool (decide (0<(wiL K.L q).length)),.int .i64 (st:Int)]:=by rw [c7];exact bb.set 2 _
  have aq:=dn.trans fd;have fl:=fp.off aq cy o;have fu:=Jy fw aq cz;refine ρ ?_;refine ldW fx ?_;refine ρ ?_;refine stW fu ?_;intro v9 ft bo c3;have c4:=c3 w (c6 ▸ o.ext fl.gr) om;have dm:GrN (λk=>k=b4) v8 v9:=GrN.by bo λk hk=>by injection hk with hk;exact hk.symm
  have ap:GrN (λk=>k=K.mb∨k=C∨k=b4) v6 v9:=(aq.mono λk _ h=>.inr (.inl h)).trans (dm.mono λk _ h=>.inr (.inr h));refine ρ ?_;refine Ic ft ⟨_,_,st,rfl,?_,?_,Nat.le_trans f6 (Jpx hqf),c4⟩
  .rw [o.ip.rk_end ne hqf ag];exact (dw.gr ap).1
  .rw [d8];exact (fh.gr ap).1
end
open Go.RowKit Pl Go.Wk
variable {B0 pc:Nat}
section
variable {w:World} {x:Value} {f:Nat} {ds:List Bool} {kf:Nat->Nat} {pf:Nat->Int} {BB:Nat->List BkT} {tot:Nat} {L:List Row}
theorem Jsr(tb:TB B0 w)(h:IxA w x f ds kf pf BB tot L){PA:Option Addr}{q:Row}(hq:RdR w PA q)(hqc:q.length<=pc):
  Ret Tryz.prog 31 [x,.slice PA q.length pc] w λu w'=>Ext w w'/\(f<q.length->u=.tuple #[.slice none 0 0,.slice none 0 0,.int .i64 0,.int .i64 6]) /\
   (q.length<=f->∃ (lv hv:Value) (st:Nat),u=.tuple #[lv,hv,.int .i64 (st:Int),.int .i64 0]/\NatV w' lv (Jc ds L q)/\NatV w' hv (Jc ds L q+(wiL L q).length)/\st<=Qd f λv=>hmB (BB v)):=by
 have ix:=h.ix;have Z:=h.ip;obtain ⟨DA,dc,BA,cb,KA,ck,au,cp,tv,am,ak,rfl,aq,ar,hD,hB,hK,hP,ac,an⟩:=id ix.ex;obtain ⟨TA,tc,rfl,_⟩:=id ac;refine Jz Tryz.func31 Tryz.ntmps31 rfl kr rfl ?_;refine ρ ?_;refine bx ?_;intro w1 b U hb a3;refine ρ ?_;refine ldW a3 ?_;refine ρ ?_;refine cl (Jzc (ix.ext U)) ?_;rintro u w2 ⟨rfl,J⟩;refine ρ ?_;refine ci (λh=>?_) (λh=>?_)
 .have ao:f<q.length:=by have:=oT h;omega
  refine ρ ?_;exact Jzj ⟨U.trans J,λ_=>rfl,λh=>om⟩
 have ae:q.length<=f:=by have:=oF h;omega
 clear h;refine ρ ?_;refine ldW (a3.ext J) ?_;refine ρ ?_;refine cl (Jhk (ix.ext (U.trans J)) Z.nbT) ?_;rintro u w3 ⟨ab,_,a6⟩;have o:=(U.trans J).trans a6;obtain ⟨UA,uc,rfl,_⟩:=id ab;refine ρ ?_;refine ci (λh=>?_) (λh=>?_)
 .have h0:tot=0:=by
   have:=Xy h;rcases Nat.eq_zero_or_pos tot with h'|h'
   .exact h'
   .have:=limbs_pos' (show tot≠0 by omega);omega
  have hL:L=[]:=List.eq_nil_of_length_eq_zero (by rw [<-Z.len];exact h0);refine ρ ?_;refine Jzj ⟨o,λh=>om,λ_=>⟨_,_,0,rfl,?_,?_,Nat.zero_le _⟩⟩
  .rw [hL];exact NatV.nil _
  .rw [hL];exact NatV.nil _
 have ne:tot≠0:=λe=>by
  have:=Xg h;rw [e,limbs_0]at this;exact this rfl
 clear h;refine ρ ?_;refine ldW ((a3.ext J).ext a6) ?_;refine ρ ?_;refine cl (Qzn (tb.ext o) (ix.ext o) Z ne (Rd.ext hq o) hqc ae) ?_;rintro u w4 ⟨bv,cv,st,rfl,a2,a7,ad,aa⟩;obtain ⟨XA,xc,rfl,_⟩:=id a2;obtain ⟨YA,yc,rfl,_⟩:=id a7;refine ρ ?_;refine alc Jvk ?_;intro w5 b8 a9 ah ai;refine ρ ?_;refine stW ai ?_;intro w6 aj ap a8;have a5:Ext w4 w6:=a8 w4 a9 ah;have a4:Ext w6 w6.drew:=(Ext.refl w6).drew;have C:=a5.trans a4;have G:=aj.ext a4;have n1:(Jj (Jc ds L q)).length<=1000:=(Z.nbT.le (by rw [Z.len];exact Jwv ds L q)).len;have n2:(Jj (wiL L q).length).length<=1000:=(Z.nbT.le (by rw [Z.len];exact List.length_filter_le _ _)).len;refine ρ ?_;refine drN (λ_=>False) 15 [(0,0),(0,1),(0,3),(0,4),(0,5),(0,6),(0,8),(0,9),(1,2),(1,7),(0,10),(0,11),(0,12),(0,13)] kr ?_;refine ρn ?_;refine nld (λw' hg=>(G.ext hg.toExt).at (i:=0) rfl) ?_;refine ρn ?_;refine nld (λw' hg=>(G.ext hg.toExt).at (i:=0) rfl) ?_
 refine ρn ?_;refine nld (λw' hg=>(G.ext hg.toExt).at (i:=1) rfl) ?_;refine ρn ?_;refine nld (λw' hg=>(G.ext hg.toExt).at (i:=3) rfl) ?_;refine ρn ?_;refine nop ?_;refine cl (Jyx (a2.ext C) n1) ?_;rintro lv w7 ⟨af,_,O⟩;refine ρ ?_;refine Jv (GrN.ext O) ?_;refine ρn ?_;refine nop ?_;refine cl (Jgn ((a2.ext C).ext O) ((a7.ext C).ext O) n1 n2) ?_;rintro hv w8 ⟨ag,a1⟩;refine ρ ?_;refine Jv (GrN.ext a1) ?_;refine ρn ?_;refine ρ ?_;exact Jzj ⟨((o.trans aa).trans C).trans (O.trans a1),λh=>om,λ_=>⟨lv,hv,st,rfl,af.ext a1,ag,ad⟩⟩
end
open Go.RowKit Pl Go.Wk
variable {B0 f pc:Nat}{w:World}
theorem Jjh{x:Value}{ds:List Bool}{kf:Nat->Nat}{pf:Nat->Int}{BB:Nat->List BkT}{tot:Nat}{L:List Row}(tb:TB B0 w)(h:IxA w x f ds kf pf BB tot L){PA:Option Addr}{q:Row}(hq:RdR w PA q)(hqc:q.length<=pc):
  Ret Tryz.prog 39 [x,.slice PA q.length pc] w λu w'=>Ext w w'/\(q.length≠f->u=.tuple #[.slice none 0 0,.bool false,.int .i64 0,.int .i64 6]) /\
   (q.length=f->∃ (kv:Value) (st:Nat),u=.tuple #[kv,.bool (decide (0<(wiL L q).length)),.int .i64 (st:Int),.int .i64 0]/\NatV w' kv (Jc ds L q)/\st<=Qd f λv=>hmB (BB v)):=by
 have ix:=h.ix;have ip:=h.ip;obtain ⟨DA,dc,BA,cb,KA,ck,am,cp,tv,ag,af,rfl,aj,ak,hD,hB,hK,hP,a8,ah⟩:=id ix.ex;obtain ⟨TA,tc,rfl,_⟩:=id a8;refine Jz Tryz.func39 Tryz.ntmps39 rfl kr rfl ?_;refine ρ ?_;refine bx ?_;intro w1 b J hb Z;refine ρ ?_;refine ldW Z ?_;refine ρ ?_;refine cl (Jzc (ix.ext J)) ?_;rintro u w2 ⟨rfl,C⟩;refine ρ ?_;refine ci (λh=>?_) (λh=>?_)
 .have aa:q.length≠f:=λe=>by rw [e]at h;simp at h
  refine ρ ?_;exact Jzj ⟨J.trans C,λ_=>rfl,λh=>absurd h aa⟩
 have a2:q.length=f:=by
  have:¬ ((q.length:Int) != (f:Int))=true:=by rw [h];decide
  simp at this;omega
 clear h;refine ρ ?_;refine ldW (Z.ext C) ?_;refine ρ ?_;refine cl (Jhk (ix.ext (J.trans C)) ip.nbT) ?_;rintro u w3 ⟨a7,_,a1⟩;have o:=(J.trans C).trans a1;obtain ⟨UA,uc,rfl,_⟩:=id a7;refine ρ ?_;refine ci (λh=>?_) (λh=>?_)
 .have h0:tot=0:=by
   have:=Xy h;rcases Nat.eq_zero_or_pos tot with h'|h'
   .exact h'
   .have:=limbs_pos' (show tot≠0 by omega);omega
  have hL:L=[]:=List.eq_nil_of_length_eq_zero (by rw [<-ip.len];exact h0);refine ρ ?_;refine Jzj ⟨o,λh=>absurd a2 h,λ_=>⟨.slice none 0 0,0,by subst hL;rfl,?_,Nat.zero_le _⟩⟩;rw [hL];exact NatV.nil _
 have ne:tot≠0:=λe=>by
  have:=Xg h;rw [e,limbs_0]at this;exact this rfl
 clear h;refine ρ ?_;refine ldW ((Z.ext C).ext a1) ?_;refine ρ ?_;refine cl (Qzn (tb.ext o) (ix.ext o) ip ne (Rd.ext hq o) hqc om) ?_;rintro u w4 ⟨bv,cv,st,rfl,a3,ab,a9,a6⟩;obtain ⟨XA,xc,rfl,_⟩:=id a3;obtain ⟨YA,yc,rfl,_⟩:=id ab;refine ρ ?_;refine alc Jvk ?_;intro w5 b8 a5 ac ad;refine ρ ?_;refine stW ad ?_;intro w6 ae ai a4;have O:Ext w4 w6:=a4 w4 a5 ac;have U:Ext w6 w6.drew:=(Ext.refl w6).drew;have G:=ae.ext U;refine ρ ?_;refine drN (λ_=>False) 11 [(0,0),(0,1),(0,2),(0,3),(0,4),(0,5),(0,6),(0,7),(0,8),(0,9)] kr ?_;refine ρn ?_;refine nld (λw' hg=>(G.ext hg.toExt).at (i:=0) rfl) ?_;refine ρn ?_;refine nld (λw' hg=>(G.ext hg.toExt).at (i:=2) rfl) ?_;refine ρn ?_;refine nld (λw' hg=>(G.ext hg.toExt).at (i:=3) rfl) ?_;refine ρn ?_;refine ρ ?_;exact Jzj ⟨((o.trans a6).trans O).trans U,λh=>absurd a2 h,λ_=>⟨_,st,rfl,(a3.ext O).ext U,a9⟩⟩
theorem Xjv{cs:List Value}{c:Cse}(hTB:TB B0 w)(h:CseV w cs c)(hfit:∀ i,i<c.rss.length->∀ r∈c.rss.getD i [],∀ u∈r,Xo u):
  Ret Tryz.prog 34 [.agg cs.toArray] w λu w'=>Ext w w'/\((u=.tuple #[.agg #[.slice none 0 0,.slice none 0 0,.slice none 0 0,.slice none 0 0,.slice none 0 0],.slice none 0 0,.bool false]/\¬ Jcr c) ∨
   ∃ (ats:List Atm) (x av:Value) (kf:Nat->Nat) (pf:Nat->Int) (BB:Nat->List BkT) (tot:Nat),CseOk c ats/\u=.tuple #[x,av,.bool true]/\IxA w' x c.F c.ds kf pf BB tot c.ans/\RowsV w' av c.ans):=by
 obtain ⟨dA,dc,pA,pc,vA,vc,rA,rc,rfl,hD,hP,hV,hR,hn,hf⟩:=id h;refine Jz Tryz.func34 Tryz.ntmps34 rfl kr rfl ?_;refine ρ ?_;refine bx ?_;intro w1 b a8 hb hB;refine ρ ?_;refine alc Uu ?_;intro w2 b2 aq bc cd;have bi:=hB.ext aq;refine ρ ?_;refine ldW bi ?_;refine ρ ?_;refine cl (Qcc (h.ext (a8.trans aq))) ?_;rintro u w3 ⟨ap,cr,cj,aA,cq,ch,ac,an,ok,rfl,c5,c4,bu,b6⟩;refine ρ ?_;refine alc Jkb ?_;intro w4 b4 bq c0 cc;refine ρ ?_;refine stW cc ?_;intro w5 cb co bp;have Z:Ext w3 w5:=bp w3 bq c0;have bf:=(cd.ext ap).ext Z;have aj:=(bi.ext ap).ext Z;have ae:=((a8.trans aq).trans ap).trans Z;refine ρ ?_;refine Vr (fun (t:Bool)=>[(21,.bool t),(1,.pointer (some ⟨b,0,none⟩)),(2,.pointer (some ⟨b2,0,none⟩)),(3,.slice none 0 0),(4,.bool false),(5,.pointer (some ⟨b4,0,none⟩)),(6,.bool ok)]) (λt w7=>Ext w5 w7/\(t=true->¬ Jcr c)/\(t=false->ok=true/\FewP c)) ?_ ?_
 .cases ok with
  | false=>
   refine ρ ?_;exact Jg true sB ⟨Ext.refl _,(λ_ hG=>by cases b6 hG.2.1 hG.2.2),λh=>by cases h⟩
  | true=>
   refine ρ ?_;refine ldW aj ?_;refine ρ ?_;refine cl (Qsj (h.ext ae)) ?_;rintro u w6 ⟨G,fw,rfl,ba,bv⟩;refine ρ ?_;refine Jg (!fw) sB ⟨G,λe hG=>?_,λe=>?_⟩
   .rw [bv hG.1]at e;cases e
   .cases fw with
    | true=>exact ⟨rfl,ba rfl⟩
    | false=>cases e
 rintro t w6 ⟨G,b3,b5⟩;have U:=Z.trans G;have a1:=ae.trans G;have a6:=bf.ext G;refine ρ ?_;refine ci (λh=>?_) (λh=>?_)
 .refine ρ ?_;refine bld (Xqz _) ?_;refine ρ ?_;refine stW a6 ?_;intro w8 ca cn a4;have bn:Ext w w8:=a4 w a1 (nL a8.size bc);refine ρ ?_;exact Jbr ca ⟨bn,.inl ⟨rfl,b3 h⟩⟩
 .obtain ⟨ce,au⟩:=b5 h;clear h b3 b5;subst ce;obtain ⟨b7,ats,c2,hG,hmk,bb⟩:=bu rfl;have O:CseOk c ats:=⟨au,b7,c2,hmk,bb trivial,hfit⟩;have be:=cb.ext G;refine ρ ?_;refine ldW be ?_;obtain ⟨ts,a9,c8⟩:=Qwk O (c5.ext U) (c4.ext U) (hG.ext U λcs a ⟨t,e,h⟩=>⟨t,e,h.ext U⟩);have bs:ts.length=c.m:=by have:=O.al;rw [a9,List.length_map]at this;exact this
  refine ρ ?_;refine cl (Qqv (hTB.ext a1) (O.bldI a9) c8) ?_;rintro u w8 ⟨a4,x,st,kf,pf,R,rfl,hE,ag⟩;obtain ⟨XA,xd,YA,yd,ZA,zd,UA,ud,tv,ck,cg,rfl,_,_,_,_,_,_,br,_⟩:=id ag.here.ex;obtain ⟨TA,tc,rfl,_⟩:=id br;have ah:=a6.ext a4;refine ρ ?_;refine alc Uu ?_;intro wa b9 bo bz c7;refine ρ ?_;refine stW c7 ?_;intro w9 c9 cm ay;have a7:Ext w8 w9:=ay w8 bo bz;have ab:Ext w w9:=(a1.trans a4).trans a7;have bw:=a6.lt;have ax:¬ b=b2:=λe=>by have:=hB.lt;omega
  have bm:¬ b9=b2:=λe=>by have:=ah.lt;omega
  have bg:=((aj.ext G).ext a4).ext a7;have a5:=ah.ext a7;have ar:=ag.ext a7;have a3:Ext w9 w9.drew:=(Ext.refl w9).drew;have ao:=ab.trans a3;have c6:=c9.ext a3;have ai:=bg.ext a3;have c3:=CseV.rin (hV.ext ao) (hR.ext ao) O;have bt:c.rss.length=c.m:=by rw [<-O.len];rfl
  refine ρ ?_;refine drN (λk=>k=b2) 12 [(0,0),(0,1),(0,3),(0,4),(0,6),(0,7),(1,2),(1,5),(1,8),(0,9),(0,10)] kr ?_;refine ρn ?_;refine Ql (cs:=[.slice XA c.F xd,.slice YA c.F yd,.slice ZA c.F zd,.slice UA c.F ud,.slice TA _ tc]) (λw' hg j u hu=>(Jy c6 hg bm).at hu) ?_;refine ρn ?_;refine Ql (cs:=[.int .i64 c.n,.int .i64 c.f,.slice dA c.ds.length dc,.slice pA c.pm.length pc,.slice vA c.vs.length vc,.slice rA c.rss.length rc]) (λw' hg j u hu=>(Jy ai hg ax).at hu) ?_;refine ρn ?_;refine nld (Jh (ai.at (i:=2) rfl) ax) ?_;refine ρn ?_;refine nop ?_;refine cl Qgr ?_;rintro u am ⟨rfl,C⟩;refine ρ ?_;refine Jv (GrN.ext C) ?_;refine ρn ?_;refine nop ?_;have hA:Ret Tryz.prog 60 [.agg #[.int .i64 c.n,.int .i64 c.f,.slice pA c.pm.length pc,.slice vA c.vs.length vc,.slice rA c.rss.length rc],.slice dA c.ds.length dc] am λu w'=>RowsV w' u c.ans/\Ext am w'/\Fresh am u:=by
   rw [O.nN.1,O.fF.1,bt];exact Qhg (pA:=pA) (pn:=c.pm.length) (pc:=pc) (vc:=vc) (rc:=rc) O.refP (c3.ext C) (by have:=O.nN.2;omega) O.fF.2 (hD.ext (ao.trans C))
  refine cl hA ?_;rintro av bj ⟨c1,af,bd⟩;refine ρ ?_;refine Jv (GrN.ext af) ?_;refine ρn ?_;refine nop ?_;have o:=(a3.trans C).trans af;refine stW (a5.ext o) ?_;intro ak bh b8 b1;have J:GrN (λk=>k=b2) bj ak:=GrN.by b8 λk hk=>by injection hk with hk;exact hk.symm
  have a2:Ext w ak:=b1 w (ab.trans o) (nL a8.size bc);have aw:=(RowsV.off c1 (λad m c e e2=>by have h1:=bd ad m c e;have h2:=(a3.trans C).size;have h3:=a5.lt;omega) (a5.ext o) Qmr) ak J;refine Jl (Jv J ?_);refine ρn ?_;refine ρ ?_;have aa:=(ar.ext o).gr (J.mono λk _ hk=>by rw [hk];exact bw);exact Jbr bh ⟨a2,.inr ⟨ats,_,av,kf,pf,_,_,O,rfl,Qqw ⟨B0,hTB.ext a2⟩ (O.bldI a9) (Jsg a9) hE aa.here O.ans.1 (λy=>by rw [bs];exact O.ans.2 y) (by have:=O.anl;omega),aw⟩⟩
open Go.RowKit Pl Go.Wk
variable {B0 k n pc:Nat}{PA:Option Addr}{q:Row}
def RkA(f:Nat)(L:List Row)(k:Nat)(u:Value)(w:World): Prop:=match L[k]? with
 | some r=>∃ A c,u=.tuple #[.slice A r.length c,.bool true,.int .i64 0]/\RdR w A r/\r.length<=c/\r.length=f
 | none=>u=.tuple #[.slice none 0 0,.bool false,.int .i64 0]
section
variable {w:World} {x:Value} {f:Nat} {ds:List Bool} {kf:Nat->Nat} {pf:Nat->Int} {BB:Nat->List BkT} {tot:Nat} {L:List Row}
theorem Jst(h:IxA w x f ds kf pf BB tot L){kv:Value}(hk:NatV w kv k):
  Ret Tryz.prog 71 [x,kv] w λu w'=>Ext w w'/\RkA f L k u w':=by
 obtain ⟨DA,dc,BA,cb,KA,ck,a4,cp,tv,Z,U,rfl,a2,a3,hD,hB,hK,hP,J,a1⟩:=id h.ix.ex;obtain ⟨TA,tc,rfl,_⟩:=id J;obtain ⟨UA,uc,rfl,_⟩:=id hk;refine Jz Tryz.func71 Tryz.ntmps71 rfl kr rfl ?_;refine ρ ?_;refine bx ?_;intro w1 b o hb O;refine ρ ?_;refine ldW O ?_;refine ρ ?_;refine cl (Xxz (h.ext o) (hk.ext o)) ?_;rintro u w2 ⟨C,G⟩;unfold AtR at G;unfold RkA;cases hr:L[k]? with
 | none=>
  rw [hr]at G;subst G;refine ρ ?_;exact Zf ⟨o.trans C,rfl⟩
 | some r=>
  rw [hr]at G;obtain ⟨A,c,st,rfl,h3,h4,h5,_⟩:=G;refine ρ ?_;exact Zf ⟨o.trans C,A,c,rfl,h3,h4,h5⟩
theorem lim1(h:IxP f ds kf pf BB tot L)(q:Row): (Jj (Jc ds L q)).length<=1000:=(h.nbT.le (by rw [h.len];exact Jwv ds L q)).len
theorem limbs_1l': (Jj 1).length<=1000:=by rw [Jgx (by decide) (by decide)];decide
theorem Jss(tb:TB B0 w)(h:IxA w x f ds kf pf BB tot L)(hq:RdR w PA q)(hqc:q.length<=pc):
  Ret Tryz.prog 36 [x,.slice PA q.length pc] w λu w'=>Ext w w'/\(q.length≠f->u=.tuple #[.slice none 0 0,.bool false,.int .i64 6])/\(q.length=f->RkA f L (Jc ds L q+if 0<(wiL L q).length then 1 else 0) u w'):=by
 obtain ⟨DA,dc,BA,cb,KA,ck,ac,cp,tv,a8,a7,rfl,aa,ab,hD,hB,hK,hP,a4,a9⟩:=id h.ix.ex;obtain ⟨TA,tc,rfl,_⟩:=id a4;refine Jz Tryz.func36 Tryz.ntmps36 rfl kr rfl ?_;refine ρ ?_;refine bx ?_;intro w1 b C hb a2;refine ρ ?_;refine ldW a2 ?_;refine ρ ?_;refine cl (Jjh (tb.ext C) (h.ext C) (Rd.ext hq C) hqc) ?_;rintro u w2 ⟨a1,a5,a6⟩;by_cases hqf:q.length=f
 .obtain ⟨kv,st,rfl,hk,_⟩:=a6 hqf;obtain ⟨UA,uc,rfl,_⟩:=id hk;refine ρ ?_;refine Xa (fun (y:Value)=>[(2,.pointer (some ⟨b,0,none⟩)),(7,y)]) (λy w'=>Ext w2 w'/\NatV w' y (Jc ds L q+if 0<(wiL L q).length then 1 else 0)) ?_ ?_
  .refine ci (λhc=>?_) (λhc=>?_)
   .rw [if_pos (oT hc)];refine ρ ?_;refine cl (Kz 1 (by decide) _) ?_;rintro o w3 ⟨ho,_,J⟩;refine ρ ?_;refine cl (Jgn (hk.ext J) ho (lim1 h.ip q) limbs_1l') ?_;rintro y w4 ⟨hy,O⟩;refine ρ ?_;exact Jg y sB ⟨J.trans O,hy⟩
   .rw [if_neg (oF hc)];refine ρ ?_;exact Jg _ sB ⟨Ext.refl _,hk⟩
  rintro y w3 ⟨J,hy⟩;have G:=a1.trans J;refine ρ ?_;refine ldW (a2.ext G) ?_;refine ρ ?_;refine cl (Jst (h.ext (C.trans G)) hy) ?_;rintro u w4 ⟨O,U⟩;have a3:=U;unfold RkA at U;have Z:=(C.trans G).trans O;cases hr:L[Jc ds L q+if 0<(wiL L q).length then 1 else 0]? with
  | none=>
   rw [hr]at U;subst U;refine ρ ?_;exact Zf ⟨Z,λe=>absurd hqf e,λ_=>a3⟩
  | some r=>
   rw [hr]at U;obtain ⟨A,c,rfl,_⟩:=U;refine ρ ?_;exact Zf ⟨Z,λe=>absurd hqf e,λ_=>a3⟩
 .have e:=a5 hqf;subst e;refine ρ ?_;exact Zf ⟨C.trans a1,λ_=>rfl,λe=>absurd e hqf⟩
theorem Jsq(tb:TB B0 w)(h:IxA w x f ds kf pf BB tot L)(hq:RdR w PA q)(hqc:q.length<=pc):
  Ret Tryz.prog 37 [x,.slice PA q.length pc] w λu w'=>Ext w w'/\(q.length≠f->u=.tuple #[.slice none 0 0,.bool false,.int .i64 6])/\(q.length=f->if Jc ds L q=0 then u=.tuple #[.slice none 0 0,.bool false,.int .i64 0] else RkA f L (Jc ds L q-1) u w'):=by
 obtain ⟨DA,dc,BA,cb,KA,ck,ad,cp,tv,a9,a8,rfl,ab,ac,hD,hB,hK,hP,a5,aa⟩:=id h.ix.ex;obtain ⟨TA,tc,rfl,_⟩:=id a5;refine Jz Tryz.func37 Tryz.ntmps37 rfl kr rfl ?_;refine ρ ?_;refine bx ?_;intro w1 b C hb a1;refine ρ ?_;refine ldW a1 ?_;refine ρ ?_;refine cl (Jjh (tb.ext C) (h.ext C) (Rd.ext hq C) hqc) ?_;rintro u w2 ⟨Z,a6,a7⟩;by_cases hqf:q.length=f
 .obtain ⟨kv,st,rfl,hk,_⟩:=a7 hqf;obtain ⟨UA,uc,rfl,_⟩:=id hk;refine ρ ?_;refine cl (Kz 1 (by decide) _) ?_;rintro o w3 ⟨ho,_,U⟩;refine ρ ?_;refine cl (Qjp (hk.ext U) ho (lim1 h.ip q)) ?_;rintro u w4 ⟨⟨y,rfl,hy⟩,a4⟩;obtain ⟨YA,yc,rfl,_⟩:=id hy;have G:=(Z.trans U).trans a4;by_cases h0:Jc ds L q=0
  .rw [if_pos (show Jc ds L q<1 by omega)];refine ρ ?_;exact Zf ⟨C.trans G,λe=>absurd hqf e,λ_=>by rw [if_pos h0]⟩
  .rw [if_neg (show ¬ Jc ds L q<1 by omega)];refine ρ ?_;refine ldW (a1.ext G) ?_;refine ρ ?_;refine cl (Jst (h.ext (C.trans G)) hy) ?_;rintro u w5 ⟨a3,J⟩;have a2:=J;unfold RkA at J;have O:=(C.trans G).trans a3;cases hr:L[Jc ds L q-1]? with
   | none=>
    rw [hr]at J;subst J;refine ρ ?_;exact Zf ⟨O,λe=>absurd hqf e,λ_=>by rw [if_neg h0];exact a2⟩
   | some r=>
    rw [hr]at J;obtain ⟨A,c,rfl,_⟩:=J;refine ρ ?_;exact Zf ⟨O,λe=>absurd hqf e,λ_=>by rw [if_neg h0];exact a2⟩
 .have e:=a6 hqf;subst e;refine ρ ?_;exact Zf ⟨C.trans Z,λ_=>rfl,λe=>absurd e hqf⟩
end
theorem Jqg{w:World}{v:Value}(hv:NatV w v n)(hk:k<9223372036854775808):
  Ret Tryz.prog 40 [v,.int .i64 (k:Int)] w λu w'=>u=.bool (decide (n=k))/\Ext w w':=by
 obtain ⟨UA,Z,rfl,_⟩:=id hv;refine Jz Tryz.func40 Tryz.ntmps40 rfl kr rfl ?_;refine ρ ?_;rw [Gq (z:=(k:Int)) om];refine cl (Kz k om w) ?_;rintro o U ⟨J,_,C⟩;refine ρ ?_;refine cl (Gw (hv.ext C) J) ?_;rintro _ O ⟨rfl,G⟩;refine ρ ?_;refine Jq ⟨?_,C.trans G⟩;congr 1
 rcases Nat.lt_trichotomy n k with h|h|h
 .rw [decide_eq_false om];unfold Zo;rw [if_pos h];rfl
 .rw [decide_eq_true h,h];unfold Zo;rw [if_neg om,if_neg om];rfl
 .rw [decide_eq_false om];unfold Zo;rw [if_neg om,if_pos h];rfl
open Go.RowKit Pl Go.Wk
variable {B0 c1 c2:Nat}
section
variable {w:World} {x:Value} {f:Nat} {ds:List Bool} {kf:Nat->Nat} {pf:Nat->Int} {BB:Nat->List BkT} {tot:Nat} {L:List Row}
theorem Qpq(h:IxV w x f ds kf pf BB tot): Ret Tryz.prog 74 [x] w λu w'=>BoolsV w' u ds/\Ext w w':=by
 obtain ⟨DA,dc,BA,cb,KA,ck,PA,cp,tv,a2,a1,rfl,a3,a4,hD,hB,hK,hP,O,hv⟩:=h.ex;obtain ⟨TA,tc,rfl,_⟩:=id O;have o:=h.dl;have Z:=h.f32;refine Jz Tryz.func74 Tryz.ntmps74 rfl kr rfl ?_;refine ρ ?_;refine bx ?_;intro w1 b C hb U;refine ρ ?_;refine ld (U.at (i:=0) rfl) ?_;refine ρ ?_;have G:=Rd.ext hD C;rw [o]at G;refine cl (Xjq G (λu hu=>?_) om) ?_
 .obtain ⟨b,_,rfl⟩:=List.mem_map.1 hu;rfl
 rintro u w2 ⟨⟨A',c',rfl,a5,hR⟩,J⟩;refine ρ ?_;refine Jq ⟨⟨A',c',by rw [o],om,om,?_⟩,C.trans J⟩;show Rd _ 1 A' ds.length _;rw [o];exact hR
theorem Jyg(tb:TB B0 w)(h:IxA w x f ds kf pf BB tot L)(hl:∀ y∈L,y.length=f){A1 A2:Option Addr}{a b:Row}(ha:RowV w (.slice A1 a.length c1) a)(hb:RowV w (.slice A2 b.length c2) b):
  Ret Tryz.prog 44 [x,.slice A1 a.length c1,.slice A2 b.length c2] w λu w'=>Ext w w'/\(¬ (a.length=f/\b.length=f)->u=.tuple #[.slice none 0 0,.int .i64 6]) /\
   (a.length=f->b.length=f->∃ nv,u=.tuple #[nv,.int .i64 0]/\NatV w' nv (L.filter λy=>decide (0<=Jk y a ds) && decide (Jk y b ds<0)).length):=by
 obtain ⟨DA,dc,BA,cb,KA,ck,ax,cp,tv,ak,aj,rfl,ao,ap,hD,hB,hK,hP,ac,an⟩:=id h.ix.ex;obtain ⟨TA,tc,rfl,_⟩:=id ac;obtain ⟨_,_,ea,af,av,ag⟩:=id ha;injection ea with e1 _ e2
 subst e1;subst e2;obtain ⟨_,_,eb,ad,ar,ae⟩:=id hb;injection eb with e1 _ e2
 subst e1;subst e2;refine Jz Tryz.func44 Tryz.ntmps44 rfl kr rfl ?_;refine ρ ?_;refine bx ?_;intro w1 b3 a8 au a1;refine ρ ?_;refine ldW a1 ?_;refine ρ ?_;refine cl (Jzc (h.ix.ext a8)) ?_;rintro u w2 ⟨rfl,J⟩;have Z:=a8.trans J;refine ρ ?_;by_cases haf:a.length=f
 rotate_left
 .refine Go.Wk.kt 21 ?_ ?_
  .simp;omega
  refine ρ ?_;exact Vx ⟨Z,λ_=>rfl,λe=>absurd e haf⟩
 refine Go.Wk.kf 21 ?_ ?_
 .simp;omega
 refine ρ ?_;refine ldW (a1.ext J) ?_;refine ρ ?_;refine cl (Jzc (h.ix.ext Z)) ?_;rintro u w3 ⟨rfl,a2⟩;have U:=Z.trans a2;refine ρ ?_;refine ci (λhc=>?_) (λhc=>?_)
 .have G:¬ b.length=f:=λe=>by rw [e]at hc;simp at hc
  refine ρ ?_;exact Vx ⟨U,λ_=>rfl,λ_ e=>absurd e G⟩
 have G:b.length=f:=by simp at hc;omega
 clear hc;refine ρ ?_;refine ldW ((a1.ext J).ext a2) ?_;refine ρ ?_;refine cl (Qpq (h.ix.ext U)) ?_;rintro dv w4 ⟨aa,a4⟩;have O:=U.trans a4;obtain ⟨EA,ec,rfl,_⟩:=id aa;refine ρ ?_;refine cl (Jbz (ha.ext O) (hb.ext O) aa) ?_;rintro _ w5 ⟨rfl,a3⟩;have o:=O.trans a3;have ea:=Jcb (ds:=ds) hl haf;have eb:=Jcb (ds:=ds) hl G;refine ρ ?_;refine ci (λhc=>?_) (λhc=>?_)
 .have a5:¬ Jk a b ds<0:=by have:=oT hc;omega
  refine ρ ?_;exact Vx ⟨o,λe=>absurd ⟨haf,G⟩ e,λ_ _=>⟨_,rfl,by rw [Qws a5];exact NatV.nil _⟩⟩
 have a5:Jk a b ds<0:=by have:=oF hc;omega
 clear hc;have aq:=Qwt a5 L;refine ρ ?_;refine ldW (((((a1.ext J).ext a2).ext a4).ext a3)) ?_;refine ρ ?_;refine cl (Jjh (tb.ext o) (h.ext o) (Rd.ext ag o) af) ?_;rintro u w6 ⟨a7,_,hu⟩;obtain ⟨kv,st,rfl,hk,_⟩:=hu haf;obtain ⟨UA,uc,rfl,_⟩:=id hk;have C:=o.trans a7;refine ρ ?_;refine ldW ((((((a1.ext J).ext a2).ext a4).ext a3).ext a7)) ?_;refine ρ ?_;refine cl (Jjh (tb.ext C) (h.ext C) (Rd.ext ae C) ad) ?_;rintro u w7 ⟨a6,_,hu⟩;obtain ⟨am,ai,rfl,a9,_⟩:=hu G;obtain ⟨aw,ah,rfl,_⟩:=id a9;refine ρ ?_;refine cl (Qjp a9 (hk.ext a6) (lim1 h.ip b)) ?_;rintro u w8 ⟨⟨y,rfl,hy⟩,ab⟩;obtain ⟨YA,yc,rfl,_⟩:=id hy;rw [ea,eb]at hy ⊢;rw [if_neg (show ¬ (L.filter λx=>decide (Jk x b ds<0)).length<(L.filter λx=>decide (Jk x a ds<0)).length by omega)];rw [show (L.filter λx=>decide (Jk x b ds<0)).length-(L.filter λx=>decide (Jk x a ds<0)).length=(L.filter λy=>decide (0<=Jk y a ds) && decide (Jk y b ds<0)).length by omega]at hy ⊢
 refine ρ ?_;exact Vx ⟨(C.trans a6).trans ab,λe=>absurd ⟨haf,G⟩ e,λ_ _=>⟨_,rfl,hy⟩⟩
end
open Go.RowKit Pl Go.Wk
def tt3: TT:=(142,{ desc:=.slice 2,esz:=1 })::tt2
theorem Qcl: TOk Tryz.prog tt3:=⟨⟨kr,kr,kr⟩,Jpk⟩
instance (priority:=10000):Tab Tryz.prog tt3:=⟨Qcl,mixed⟩
theorem bs0V(w:World): (Instr.buildSlice 37 0 #[]).run Tryz.prog w=.ok (.slice (some ⟨w.heap.size,0,none⟩) 0 0) (w.alloc (.cells [].toArray 47)):=kr
theorem Qxd{w:World}{A:Option Addr}{c:Nat}{zs:List Int}(hR:Rd w 1 A zs.length (zs.map λz=>Value.int .i64 z))(hl:zs.length<=1000):
  Ret Tryz.prog 45 [.slice A zs.length c] w λu w'=>RowV w' u (zs.map nV)/\Ext w w':=by
 refine Jz Tryz.func45 Tryz.ntmps45 rfl kr rfl ?_;refine ρ ?_;refine bsl bs0V ?_;intro w1 b1 a2 a7 a4;refine ρ ?_;refine Jo (fun (i:Nat) (v:Value)=>[(3,v),(7,.slice A zs.length c),(8,.int .i64 (zs.length:Int)),(9,.int .i64 (i:Int))])
  (λi v w'=>i<=zs.length/\Ext w w'/\((i=0/\∃ b,v=.slice (some b) 0 0)∨(0<i/\w'.ownsRow w.heap.size 47 3 v i (Js ((zs.take i).map nV))))) (λi _=>zs.length-i) 0 (.slice (some ⟨b1,0,none⟩) 0 0) sB ⟨Nat.zero_le _,a2,.inl ⟨rfl,_,rfl⟩⟩ ?_
 rintro i v w2 ⟨hi,o,hv⟩;refine ρ ?_;refine ci (λZ=>?_) (λZ=>?_)
 .have li:i<zs.length:=by have:=oT Z;omega
  clear Z;have a1:=hR.ext o;have hz:(zs.map λz=>Value.int .i64 z)[i]?=some (.int .i64 (zs.getD i 0)):=by simp [List.getD,li]
  refine ρ ?_;refine ix i a1 li ?_;refine ρ ?_;refine ld (a1.cell hz) ?_;refine ρ ?_;refine bld (Xqq _ _) ?_;refine ρ ?_;refine bsl (bs1V _) ?_;intro w3 b3 C a6 U;have ht:(zs.take (i+1)).map nV=(zs.take i).map nV++[nV (zs.getD i 0)]:=by rw [Qc 0 li,List.map_append];rfl
  refine ρ ?_;rcases hv with ⟨rfl,b,rfl⟩|⟨h0,ho⟩
  .refine apz EV (base:=w.heap.size) (U.rd (n:=1) rfl) (V.one _) (by decide) (by unfold maxLen;omega) om (o.trans C).size ?_;intro v' w4 J O;refine ρ ?_;refine Jp 1 v' sB ⟨om,(o.trans C).trans J,.inr ⟨by decide,?_⟩⟩ om;rw [show (1:Nat)=0+1 from rfl,ht];exact O
  .refine apo (a:=w) (o.trans C) EV (Jw ho C) (U.rd (n:=1) rfl) (V.one _) (by unfold maxLen;omega) om ?_;intro v' w4 O J _ _;refine ρ ?_;refine Jp (i+1) v' sO ⟨om,J,.inr ⟨om,?_⟩⟩ om;rw [ht,rowC_app'];exact O
 .have G:i=zs.length:=by have:=oF Z;omega
  clear Z;refine ρ ?_;refine Jq ⟨?_,o⟩;rcases hv with ⟨h0,b,rfl⟩|⟨h0,ho⟩
  .have:zs=[]:=List.eq_nil_of_length_eq_zero om;rw [this];exact ⟨some b,0,rfl,Nat.le_refl _,Nat.zero_le _,Rd.nil⟩
  .obtain ⟨B,cb,rfl,a5,_⟩:=Jb ho;rw [G,List.take_length]at ho;have a3:=Rd.own ho;refine ⟨B,cb,by rw [List.length_map,G],by rw [List.length_map];omega,by rw [List.length_map];omega,?_⟩;show Rd _ 3 B ((zs.map nV).length) _;rw [List.length_map,<-G];exact G ▸ a3
open Go.RowKit Pl Go.Wk
def Aw42: Prop:=∀ {B0:Nat} {w:World},TB B0 w->Ret Tryz.prog 35 [] w λu w'=>u=.bool true/\Ext w w'
theorem Qbk{L:List Row}{p:Row}{f:Nat}(hl:∀ y∈L,y.length=f)(hp:p.length=f): decide (0<(wiL L p).length)=decide (p∈L):=by
 refine decide_eq_decide.2 ⟨λh=>?_,λh=>?_⟩
 .obtain ⟨y,C⟩:=List.exists_mem_of_length_pos h;obtain ⟨u,G⟩:=List.mem_filter.1 C;have o:y.take p.length=p:=by simpa using G
  rw [hp,<-hl y u,List.take_length]at o;rw [<-o];exact u
 .refine List.length_pos_of_mem (a:=p) (List.mem_filter.2 ⟨h,?_⟩);simp
open Go.RowKit Pl Go.Wk
variable {x y:Int}{L m:List Row}{B0 b c f k:Nat}{u v:Value}{w w':World}
def exR: Cse:=Xw [false,false] (nR 1 1) (nR 1 3) (nR 2 2)
theorem exR_good: Jcr exR:=goodE rfl ⟨rfl,rfl⟩ ⟨rfl,rfl⟩ ⟨rfl,rfl⟩
def exL: List Row:=[nR 1 1,nR 1 3,nR 2 2]
theorem Qsn: exR.ans=exL:=by decide
theorem Qsm: ∀ i,i<exR.rss.length->∀ r∈exR.rss.getD i [],∀ u∈r,Xo u:=λi hi r C u o=>by
 have:i=0:=by simp [exR,Xw]at hi;exact hi
 subst this;simp only [exR,Xw,List.getD_cons_zero,List.mem_cons,List.not_mem_nil,or_false]at C;rcases C with rfl|rfl|rfl <;>
 .simp only [nR,List.mem_cons,List.not_mem_nil,or_false]at o;rcases o with rfl|rfl<;>exact Qnd (by decide)
theorem exR_a: Jc [false,false] exL (nR 1 2)=1/\decide (0<(wiL exL (nR 1 2)).length)=false:=by decide
theorem exR_b: Jc [false,false] exL (nR 2 2)=2/\decide (0<(wiL exL (nR 2 2)).length)=true:=by decide
theorem exR_c: Jc [false,false] exL (nR 9 9)=3/\decide (0<(wiL exL (nR 9 9)).length)=false:=by decide
theorem exR_p: Jc [false,false] exL [nV 1]=0/\Jc [false,false] exL [nV 1]+(wiL exL [nV 1]).length=2:=by decide
theorem exR_q: Jc [false,false] exL [nV 0]=0/\Jc [false,false] exL [nV 0]+(wiL exL [nV 0]).length=0:=by decide
theorem exR_n: Jc [false,false] exL (nR 1 2)+(if 0<(wiL exL (nR 1 2)).length then 1 else 0)=1:=by decide
theorem RkA.some{r:Row}(h:RkA f L k u w)(hr:L[k]?=some r): ∃ A c,u=.tuple #[.slice A r.length c,.bool true,.int .i64 0]/\RdR w A r/\r.length<=c:=by
 unfold RkA at h;rw [hr]at h;obtain ⟨A,c,G,C,o,_⟩:=h;exact ⟨A,c,G,C,o⟩
theorem Gg(a b:Int)(w:World): (Instr.buildSlice 142 2 #[(0,.int .i64 a),(1,.int .i64 b)]).run Tryz.prog w=.ok (.slice (some ⟨w.heap.size,0,none⟩) 2 2) (w.alloc (.cells [Value.int .i64 a,.int .i64 b].toArray 2)):=kr
theorem bs1J(a:Int)(w:World): (Instr.buildSlice 142 1 #[(0,.int .i64 a)]).run Tryz.prog w=.ok (.slice (some ⟨w.heap.size,0,none⟩) 1 1) (w.alloc (.cells [Value.int .i64 a].toArray 2)):=kr
theorem Gc(h:Blk w b 2 [.int .i64 x,.int .i64 y]): Ret Tryz.prog 45 [.slice (some ⟨b,0,none⟩) 2 2] w λu w'=>∃ A c,u=.slice A 2 c/\2<=c/\RdR w' A (nR x y)/\Ext w w':=by
 refine (Qxd (zs:=[x,y]) (h.rd rfl) (by show 2<=1000;decide)).mono ?_;rintro _ w' ⟨⟨A,c,rfl,C,_,G⟩,o⟩;exact ⟨A,c,rfl,C,G,o⟩
theorem Qxf(h:Blk w b 2 [.int .i64 x]): Ret Tryz.prog 45 [.slice (some ⟨b,0,none⟩) 1 1] w λu w'=>∃ A c,u=.slice A 1 c/\1<=c/\RdR w' A [nV x]/\Ext w w':=by
 refine (Qxd (zs:=[x]) (h.rd rfl) (by show 1<=1000;decide)).mono ?_;rintro _ w' ⟨⟨A,c,rfl,C,_,G⟩,o⟩;exact ⟨A,c,rfl,C,G,o⟩
theorem Xqv(n f:Int)(A B:Option Addr)(a a' b b':Nat)(w:World): (Instr.build 92 #[(0,.int .i64 n),(1,.int .i64 f),(2,.slice A a a'),(4,.slice B b b')]).run Tryz.prog w=.ok (.agg #[.int .i64 n,.int .i64 f,.slice A a a',.slice none 0 0,.slice B b b']) w:=kr
def SF.bl(l:List Bool): SF:=⟨λv w=>∃ A c,v=.slice A l.length c/\BoolsV w v l,λ⟨A,c,e,h⟩ hx=>⟨A,c,e,h.ext hx⟩⟩
def SF.is(l:List Int): SF:=⟨λv w=>∃ b,v=.slice (some ⟨b,0,none⟩) l.length l.length/\IntsV w v l,λ⟨b,e,h⟩ hx=>⟨b,e,h.ext hx⟩⟩
def SF.at(B:Option Addr)(mm d:Nat): SF:=⟨λv w=>∃ b,v=.agg #[.slice (some ⟨b,0,none⟩) 2 2,.int .i64 2,.slice B mm d]/\IntsV w (.slice (some ⟨b,0,none⟩) 2 2) [0,1],λ⟨b,e,h⟩ hx=>⟨b,e,h.ext hx⟩⟩
theorem GV.atx{ls:List Atm}(h:GV 3 AtG w v ls)(hx:Ext w w'): GV 3 AtG w' v ls:=GV.ext h hx λcs a ⟨t,e,h⟩=>⟨t,e,h.ext hx⟩
def SF.as(m:List Row): SF:=⟨λv w=>∃ b,v=.slice (some ⟨b,0,none⟩) 1 1/\GV 3 AtG w v [⟨[0,1],2,m⟩],λ⟨b,e,h⟩ hx=>⟨b,e,GV.atx h hx⟩⟩
def SF.inp(m:List Row): SF:=⟨λv w=>∃ A c b,v=.agg #[.int .i64 2,.int .i64 2,.slice A 2 c,.slice none 0 0,.slice (some ⟨b,0,none⟩) 1 1]/\BoolsV w (.slice A 2 c) [false,false]/\GV 3 AtG w (.slice (some ⟨b,0,none⟩) 1 1) [⟨[0,1],2,m⟩],λ⟨A,c,b,e,h,h2⟩ hx=>⟨A,c,b,e,h.ext hx,GV.atx h2 hx⟩⟩
def ExI(x:Value)(w:World): Prop:=∃ kf pf BB tot,IxA w x 2 [false,false] kf pf BB tot exL
def ExO(N:Nat->Prop)(x:Value)(w:World): Prop:=(∃ XA xd YA yd ZA zd UA ud TA tn tc,x=.agg #[.slice XA 2 xd,.slice YA 2 yd,.slice ZA 2 zd,.slice UA 2 ud,.slice TA tn tc])/\Off N w λu=>(∃ B0,TB B0 u)->ExI x u
abbrev ixZ: List Value:=[.slice none 0 0,.slice none 0 0,.slice none 0 0,.slice none 0 0,.slice none 0 0]
def SF.zi(s:Nat): SF:=⟨λv w=>∃ b,v=.pointer (some ⟨b,0,none⟩)/\s<=b/\Blk w b 31 ixZ,λ⟨b,e,h1,h2⟩ hx=>⟨b,e,h1,h2.ext hx⟩⟩
theorem Jlb{A:Option Addr}(hTB:TB B0 w)(hset:Zq [] [nR 1 1,nR 1 3,nR 2 2] m)(hm:m.length<=65536)(hsub:∀ x∈m,x∈[nR 1 1,nR 1 3,nR 2 2])(hb:BoolsV w (.slice A 2 c) [false,false])(hg:GV 3 AtG w (.slice (some ⟨b,0,none⟩) 1 1) [⟨[0,1],2,m⟩]):
  Ret Tryz.prog 47 [.agg #[.int .i64 2,.int .i64 2,.slice A 2 c,.slice none 0 0,.slice (some ⟨b,0,none⟩) 1 1]] w λu w'=>Ext w w'/\∃ x st,u=.tuple #[x,.int .i64 st,.int .i64 0]/\ExO (λk=>k<w.heap.size) x w':=by
 have hmk:∀ i,i<exR.vs.length->MkA ([(⟨[0,1],2,m⟩:Atm)].getD i a0) (exR.vs.getD i []) (exR.rss.getD i []):=λi hi=>by
  have:i=0:=by simp [exR,Xw]at hi;exact hi
  subst this;exact ⟨rfl,rfl,by decide,λr hr=>exR_good.2.1.ok 0 (by decide) r hr,hm,hsub,λ_=>hset⟩
 have o:CseOk exR [⟨[0,1],2,m⟩]:=⟨⟨exR_good.1.row,exR_good.1.cnt,.inl exR_good.1.n6,exR_good.1.v5,exR_good.1.r5⟩,rfl,rfl,hmk,exR_good.2.2 _ rfl hmk,Qsm⟩;obtain ⟨ts,C,a1⟩:=Qwk o (dA:=A) (dc:=c) (pA:=none) (pc:=0) hb ⟨none,0,rfl,Nat.le_refl _,Nat.zero_le _,Rd.nil⟩ hg;have Z:ts.length=exR.m:=by have:=o.al;rw [C,List.length_map]at this;exact this
 refine (Qqv hTB (o.bldI C) a1).mono ?_;rintro u w5 ⟨O,x,st,kf,pf,R,rfl,hE,G⟩;obtain ⟨XA,xd,YA,yd,ZA,zd,UA,ud,tv,a3,a2,rfl,_,_,_,_,_,_,U,_⟩:=id G.here.ex;obtain ⟨TA,tc,rfl,_⟩:=id U;refine ⟨O,_,_,rfl,⟨XA,xd,YA,yd,ZA,zd,UA,ud,TA,_,tc,rfl⟩,G.imp λW hV hT=>?_⟩;have J:=Qqw hT (o.bldI C) (Jsg C) hE hV o.ans.1 (λy=>by rw [Z];exact o.ans.2 y) (by have:=o.anl;omega);rw [Qsn]at J;exact ⟨_,_,_,_,J⟩
set_option linter.constructorNameAsVariable false in
theorem Xxw: Aw42:=by
 intro B0 w a3;refine Jz Tryz.func35 Tryz.ntmps35 rfl kr rfl ?_;refine ρ ?_;refine bsl (Gg 1 1) ?_;intro w1 b1 ff i9 fp;refine ρ ?_;refine cl (Gc fp) ?_;rintro _ w2 ⟨A2,c2,rfl,g4,gq,fe⟩;refine ρ ?_;refine bsl (Gg 1 3) ?_;intro w3 b3 bo i8 fo;refine ρ ?_;refine cl (Gc fo) ?_;rintro _ w4 ⟨A4,c4,rfl,g3,gn,fd⟩;refine ρ ?_;refine bsl (Gg 2 2) ?_;intro w5 b5 fc i7 fl;refine ρ ?_;refine cl (Gc fl) ?_;rintro _ w6 ⟨A6,c6,rfl,g2,gm,fb⟩;refine ρ ?_;refine bsl (bs3R _ _ _ _ _ _ _ _ _) ?_;intro w7 b7 c1 i6 fk;have cj:=fc.trans fb;have ck:=(bo.trans fd).trans cj;have d6:RowsV w7 (.slice (some ⟨b7,0,none⟩) 3 3) [nR 1 1,nR 1 3,nR 2 2]:=by
  refine Qnx [(.slice A2 2 c2,nR 1 1),(.slice A4 2 c4,nR 1 3),(.slice A6 2 c6,nR 2 2)] fk (λp hp=>?_) (by simp);simp only [List.mem_cons,List.not_mem_nil,or_false]at hp;rcases hp with rfl|rfl|rfl
  .exact ⟨A2,c2,rfl,g4,(by show 2<=1100000;decide),Rd.ext gq (ck.trans c1)⟩
  .exact ⟨A4,c4,rfl,g3,(by show 2<=1100000;decide),Rd.ext gn (cj.trans c1)⟩
  .exact ⟨A6,c6,rfl,g2,(by show 2<=1100000;decide),Rd.ext gm c1⟩
 refine ρ ?_;refine cl (Jyj (ar:=2) d6) ?_;rintro u w8 ⟨fa,rv,e,rfl,⟨z,B,mm,d,rfl⟩,fq,eo⟩;obtain rfl:e=0:=fq (by decide) (λr hr=>exR_good.2.1.ok 0 (by decide) r hr) (by simp);obtain ⟨_,_,ms,f0,d7,bp,a4⟩:=eo rfl;have a4:=a4 (.inl (by simp));refine ρ ?_;refine alc Ux ?_;intro w9 b9 f9 gd gs;refine ρ ?_;refine stb (cs':=[.int .i64 z,.slice B mm d]) gs ?_ (Ve (z:=z) (A:=B) (n:=mm) (c:=d));intro a2 f3 hm ef;have bn:Ext w8 a2:=ef w8 f9 gd;have bg:Ext w a2:=((((ff.trans fe).trans ck).trans c1).trans fa).trans bn;have c5:=f0.here.ext bn;obtain ⟨f8,dm,fi⟩:=id c5;injection dm with dm
 obtain ⟨rfl,rfl⟩:z=2/\f8=.slice B mm d:=by
  simpa [eq_comm] using dm
 refine ρ ?_;have b6:Ext a2 a2.drew:=(Ext.refl a2).drew;have dl:=f3.ext b6;refine drH (λi=>Nat.ble 12 i) ?_;refine Xc (fuel':=14) 16 [(0,2)] #[false,false,true,false,false,false,false,false,false,false,false,false,false,false,false] kr kr rfl ?_;refine ρd ?_;refine Qv (cs:=[.int .i64 2,.slice B mm d]) (λj u hu=>dl.at hu) ?_;refine ρd ?_;refine Qk ?_;refine Jzg 3 (lst 15 12) (fun (y:Value×Int×Nat)=>[(3,.pointer (some ⟨y.2.2,0,none⟩)),(51,y.1),(52,.int .i64 y.2.1),(53,.int .i64 0),(2,.int .i64 0)])
  (λy W=>Ext a2 W/\ExO (λk=>k=y.2.2) y.1 W/\a2.drew.heap.size<=y.2.2/\Blk W y.2.2 31 ixZ) ?_ ?_
 rotate_left
 .intro rest;have bs:=a3.ext (bg.trans b6);refine Qxq 16 11 8 _ #[true,true,true,true,true,true,false,false,false,false,false,true,false,false,false] [0,1,3,4,5,11] [44,45,47,48,49,3] [SF.bl [false,false],SF.is [0,1],SF.at B mm d,SF.as ms,SF.inp ms,SF.zi a2.drew.heap.size] kr (by rfl) ?_ ?_ ?_
  .refine gsc (λvs v1 O hd=>?_) ?_
   .simp only [slM];refine mkn EB 2 (by decide) (by decide) ?_;intro w3 A bo ho hf;have e:(madeCells (Value.bool false).cells (2*1)).toList=[Value.bool false,.bool false]:=by rw [Nat.mul_one];exact Yd _ _
    rw [e]at ho;exact Jl (Zv bo ⟨A,2,rfl,A,2,rfl,Nat.le_refl _,by decide,Rd.own ho⟩)
   refine gsc (λvs v1 O hd=>?_) ?_
   .simp only [slM];refine bsl (bs2I _ _) ?_;intro w3 b bo hb hk;exact Jl (Zv bo ⟨b,rfl,some ⟨b,0,none⟩,2,rfl,Nat.le_refl _,by decide,hk.rd rfl⟩)
   refine gsc (λvs v1 O hd=>?_) ?_
   .obtain ⟨b,e,h⟩:=hd 1;simp only [slM,e]at h ⊢;refine bld (Jlw _ _ _ _ _ _ _ _) ?_;refine ρ ?_;exact Zv (Ext.refl _) ⟨b,rfl,h⟩
   refine gsc (λvs v1 O hd=>?_) ?_
   .obtain ⟨b,e,h⟩:=hd 2;simp only [slM,e]at h ⊢;refine bsl (Jck _ _ _ _ _ _ _ _ _ _ rfl rfl rfl) ?_;intro v2 b2 G a5 Z;refine ρ ?_;refine Zv G ⟨b2,rfl,[([.slice (some ⟨b,0,none⟩) 2 2,.int .i64 2,.slice B mm d],⟨[0,1],2,ms⟩)],some ⟨b2,0,none⟩,1,rfl,rfl,Nat.le_refl _,(by show 1<=1100000;decide),Z.rd rfl,λp hp=>?_⟩;rw [List.mem_singleton.1 hp];exact ⟨rfl,(_,_,_),rfl,h.ext G,rfl,((fi.ext b6).ext O).ext G⟩
   refine gsc (λvs v1 O hd=>?_) ?_
   .obtain ⟨A,c,e,h⟩:=hd 0;obtain ⟨b,e2,h2⟩:=hd 3;simp only [slM,e,e2,List.length_cons,List.length_nil]at h h2 ⊢;refine bld (Xqv _ _ _ _ _ _ _ _ _) ?_;refine ρ ?_;exact Zv (Ext.refl _) ⟨A,c,b,rfl,h,h2⟩
   refine gsc (λvs v1 O hd=>?_) gse
   .simp only [slM];refine alc Uu ?_;intro v2 b2 G a5 Z;exact Jl (Zv G ⟨b2,rfl,Nat.le_trans O.size a5,Z⟩)
  .intro vs v1 O hd;obtain ⟨A,c,b,e4,h,h2⟩:=hd 4;obtain ⟨b2,e5,a5,Z⟩:=hd 5;simp only [slM,e4,e5];refine Xc (fuel':=7) 16 [(1,6)] ((lst 15 7).setIfInBounds 11 true) kr kr rfl ?_;refine dcl (Jlb (bs.ext O) a4 d7 bp h h2) ?_;rintro u v2 ⟨G,x,st,rfl,hX,hO⟩;refine ⟨G,?_⟩;refine Vl (Qk ?_);refine Xc (fuel':=5) 16 [(0,7),(0,8)] ((lst 15 9).setIfInBounds 11 true) kr kr rfl ?_;refine ρd ?_;refine Qk ?_;refine Zr (fuel':=4) 9 kr kr rfl rfl ?_;refine ρp ?_;refine ρd ?_;refine Qk ?_;refine Zr (fuel':=3) 10 kr kr rfl rfl ?_;refine ρp ?_;refine ρd ?_;refine Qk ?_;refine hlist (listed':=lst 15 12) kr ?_;have fj:=Z.lt;exact rest (x,st,b2) _ _ ⟨(b6.trans O).trans G,⟨hX,hO.mono λk hk (h:k=b2)=>om⟩,a5,Z.ext G⟩ sB
  .intro _ vs v1 O hd;obtain ⟨A,c,b,e4,h,h2⟩:=hd 4;simp only [slM,e4];refine Jwg 6 11 kr rfl rfl rfl ?_ ?_
   .refine ρ ?_;refine cl (Jlb (bs.ext O) a4 d7 bp h h2) ?_;rintro u v2 ⟨G,x,st,rfl,hX,hO⟩;refine Jl (Gb G ?_);refine Xc (fuel':=6) 16 [(0,7),(0,8)] (lst 15 9) kr kr rfl ?_;refine ρd ?_;refine Qk ?_;refine Zr (fuel':=5) 9 kr kr rfl rfl ?_;refine ρp ?_;refine ρd ?_;refine Qk ?_;refine Zr (fuel':=4) 10 kr kr rfl rfl ?_;refine ρp ?_;refine ρd ?_;refine Qk ?_;refine Xc (fuel':=3) 16 [(1,11)] (lst 15 12) kr kr rfl ?_;refine dalc' (cs:=ixZ) Uu ?_;intro v3 b2 b4 a5 Z;refine Vl (Qk ?_);exact rest (x,st,b2) _ _ ⟨((b6.trans O).trans G).trans b4,⟨hX,(hO.mono λk hk (h:k=b2)=>om).ext b4⟩,Nat.le_trans (O.trans G).size a5,Z⟩ sB
   .refine ρ ?_;refine alc Uu ?_;intro v2 b2 G a5 Z;refine Jl (Gb G ?_);refine Xc (fuel':=7) 16 [(1,6)] ((lst 15 7).setIfInBounds 11 true) kr kr rfl ?_;refine dcl (Jlb ((bs.ext O).ext G) a4 d7 bp (h.ext G) (GV.atx h2 G)) ?_;rintro u v3 ⟨b4,x,st,rfl,hX,hO⟩;refine ⟨b4,?_⟩;refine Vl (Qk ?_);refine Xc (fuel':=5) 16 [(0,7),(0,8)] ((lst 15 9).setIfInBounds 11 true) kr kr rfl ?_;refine ρd ?_;refine Qk ?_;refine Zr (fuel':=4) 9 kr kr rfl rfl ?_;refine ρp ?_;refine ρd ?_;refine Qk ?_;refine Zr (fuel':=3) 10 kr kr rfl rfl ?_;refine ρp ?_;refine ρd ?_;refine Qk ?_;refine hlist (listed':=lst 15 12) kr ?_;have fj:=Z.lt;exact rest (x,st,b2) _ _ ⟨((b6.trans O).trans G).trans b4,⟨hX,hO.mono λk hk (h:k=b2)=>om⟩,Nat.le_trans O.size a5,Z.ext b4⟩ sB
 rintro ⟨x,st,h7⟩ f5 ⟨ee,⟨hX,hO⟩,cy,cz⟩;simp only at hX hO cy cz;obtain ⟨XA,xd,YA,yd,ZA,zd,UA,ud,TA,tn,tc,rfl⟩:=hX;refine Xc (fuel':=0) 16 [(2,12),(2,13),(2,14)] (lst 15 15) kr kr rfl ?_;refine Je ?_;refine stW cz ?_;intro C a1 et ed;have dk:GrN (λk=>k=h7) f5 C:=GrN.by et λk hk=>by injection hk with hk;exact hk.symm
 have c3:Ext a2 C:=ed a2 ee cy;have J:Ext w C:=bg.trans c3;obtain ⟨kf,pf,BB,tot,ay⟩:=hO C dk ⟨B0,a3.ext J⟩;clear hO;refine Jl (Qh ?_);refine Je ?_;refine ρ ?_;refine Qh ?_;refine Je ?_;refine ρ ?_;refine Qh ?_;refine Vl (Qk ?_);refine Um kr ?_;obtain ⟨⟨f4,h5⟩,⟨h4,h3⟩,⟨gz,gy⟩,⟨gx,gw⟩,gu,gt⟩:=And.intro exR_a (And.intro exR_b (And.intro exR_c (And.intro exR_p exR_q)));refine ρ ?_;have bh:Ext C C.drew:=(Ext.refl _).drew;refine drN (λ_=>False) 13 [(0,0),(1,1),(1,2),(1,3),(0,4),(0,5),(0,6),(0,7),(0,8),(0,9),(0,10),(0,11),(0,12)] kr ?_;refine ρn ?_;refine Ql (cs:=[.slice XA 2 xd,.slice YA 2 yd,.slice ZA 2 zd,.slice UA 2 ud,.slice TA tn tc]) (λw' hg j u hu=>((a1.ext bh).ext hg.toExt).at hu) ?_;refine ρn ?_;refine nop ?_;refine bsl (Gg 1 2) ?_;intro hl ij bm gc dh;refine ρ ?_;refine Jv (GrN.ext bm) ?_;refine ρn ?_;refine nop ?_;refine cl (Gc dh) ?_
 rintro _ dx ⟨Aa,ca,rfl,g0,gk,bj⟩;refine ρ ?_;refine Jv (GrN.ext bj) ?_;refine ρn ?_;refine nop ?_;have bf:Ext C dx:=(bh.trans bm).trans bj;refine cl (Jjh (q:=nR 1 2) (a3.ext (J.trans bf)) (ay.ext bf) gk g0) ?_;rintro u c0 ⟨bi,_,U⟩;obtain ⟨kv,sta,rfl,d5,_⟩:=U rfl;rw [f4]at d5;rw [h5];obtain ⟨Ka,i5,rfl,_⟩:=id d5;refine ρ ?_;refine Jv (GrN.ext bi) ?_;refine ρn ?_;refine ρ ?_;have ch:Ext C c0:=bf.trans bi;have ab:Ext c0 c0.drew:=(Ext.refl _).drew;refine drN (λ_=>False) 13 [(0,0),(1,1),(1,2),(1,3),(0,4),(0,5),(0,6),(0,7),(0,8),(0,9),(0,10),(0,11),(0,12)] kr ?_;refine ρn ?_;refine Ql (cs:=[.slice XA 2 xd,.slice YA 2 yd,.slice ZA 2 zd,.slice UA 2 ud,.slice TA tn tc]) (λw' hg j u hu=>(((a1.ext ch).ext ab).ext hg.toExt).at hu) ?_;refine ρn ?_;refine nop ?_;refine bsl (Gg 2 2) ?_;intro hj ii ax gb dg;refine ρ ?_;refine Jv (GrN.ext ax) ?_;refine ρn ?_;refine nop ?_;refine cl (Gc dg) ?_
 rintro _ dw ⟨Ab,cb,rfl,fz,gj,ao⟩;refine ρ ?_;refine Jv (GrN.ext ao) ?_;refine ρn ?_;refine nop ?_;have be:Ext C dw:=(((ch).trans ab).trans ax).trans ao;refine cl (Jjh (q:=nR 2 2) (a3.ext (J.trans be)) (ay.ext be) gj fz) ?_;rintro u bz ⟨ah,_,U⟩;obtain ⟨kv,stb,rfl,d4,_⟩:=U rfl;rw [h4]at d4;rw [h3];obtain ⟨Kb,i4,rfl,_⟩:=id d4;refine ρ ?_;refine Jv (GrN.ext ah) ?_;refine ρn ?_;refine ρ ?_;have cg:Ext C bz:=be.trans ah;have aa:Ext bz bz.drew:=(Ext.refl _).drew;refine drN (λ_=>False) 13 [(0,0),(1,1),(1,2),(1,3),(0,4),(0,5),(0,6),(0,7),(0,8),(0,9),(0,10),(0,11),(0,12)] kr ?_;refine ρn ?_;refine Ql (cs:=[.slice XA 2 xd,.slice YA 2 yd,.slice ZA 2 zd,.slice UA 2 ud,.slice TA tn tc]) (λw' hg j u hu=>(((a1.ext cg).ext aa).ext hg.toExt).at hu) ?_;refine ρn ?_;refine nop ?_;refine bsl (Gg 9 9) ?_;intro hh ih aw ga df;refine ρ ?_;refine Jv (GrN.ext aw) ?_;refine ρn ?_;refine nop ?_
 refine cl (Gc df) ?_;rintro _ dv ⟨Ac,cc,rfl,fy,gi,an⟩;refine ρ ?_;refine Jv (GrN.ext an) ?_;refine ρn ?_;refine nop ?_;have bd:Ext C dv:=(((cg).trans aa).trans aw).trans an;refine cl (Jjh (q:=nR 9 9) (a3.ext (J.trans bd)) (ay.ext bd) gi fy) ?_;rintro u bw ⟨ag,_,U⟩;obtain ⟨kv,i0,rfl,d3,_⟩:=U rfl;rw [gz]at d3;rw [gy];obtain ⟨Kc,i3,rfl,_⟩:=id d3;refine ρ ?_;refine Jv (GrN.ext ag) ?_;refine ρn ?_;refine ρ ?_;have ce:Ext C bw:=bd.trans ag;have a9:Ext bw bw.drew:=(Ext.refl _).drew;refine drN (λ_=>False) 13 [(0,0),(1,1),(1,2),(1,3),(0,4),(0,5),(0,6),(0,7),(0,8),(0,9),(0,10),(0,11),(0,12)] kr ?_;refine ρn ?_;refine Ql (cs:=[.slice XA 2 xd,.slice YA 2 yd,.slice ZA 2 zd,.slice UA 2 ud,.slice TA tn tc]) (λw' hg j u hu=>(((a1.ext ce).ext a9).ext hg.toExt).at hu) ?_;refine ρn ?_;refine nop ?_;refine bsl (bs1J 1) ?_;intro he ig av g9 de;refine ρ ?_;refine Jv (GrN.ext av) ?_
 refine ρn ?_;refine nop ?_;refine cl (Qxf de) ?_;rintro _ du ⟨Ap,cp,rfl,fu,gf,am⟩;refine ρ ?_;refine Jv (GrN.ext am) ?_;refine ρn ?_;refine nop ?_;have bc:Ext C du:=(((ce).trans a9).trans av).trans am;refine cl (Jsr (q:=[nV 1]) (a3.ext (J.trans bc)) (ay.ext bc) gf fu) ?_;rintro u bv ⟨af,_,U⟩;obtain ⟨lv,hv,stp,rfl,d9,dj,_⟩:=U (by decide);rw [gw]at dj;rw [gx]at d9;obtain ⟨Kp,i2,rfl,_⟩:=id d9;obtain ⟨Hp,hs,rfl,_⟩:=id dj;refine ρ ?_;refine Jv (GrN.ext af) ?_;refine ρn ?_;refine ρ ?_;have cd:Ext C bv:=bc.trans af;have a8:Ext bv bv.drew:=(Ext.refl _).drew;refine drN (λ_=>False) 13 [(0,0),(1,1),(1,2),(1,3),(0,4),(0,5),(0,6),(0,7),(0,8),(0,9),(0,10),(0,11),(0,12)] kr ?_;refine ρn ?_;refine Ql (cs:=[.slice XA 2 xd,.slice YA 2 yd,.slice ZA 2 zd,.slice UA 2 ud,.slice TA tn tc]) (λw' hg j u hu=>(((a1.ext cd).ext a8).ext hg.toExt).at hu) ?_;refine ρn ?_;refine nop ?_
 refine bsl (bs1J 0) ?_;intro hc ie au g8 dd;refine ρ ?_;refine Jv (GrN.ext au) ?_;refine ρn ?_;refine nop ?_;refine cl (Qxf dd) ?_;rintro _ dt ⟨Aq,cq,rfl,ft,ge,ak⟩;refine ρ ?_;refine Jv (GrN.ext ak) ?_;refine ρn ?_;refine nop ?_;have bb:Ext C dt:=(((cd).trans a8).trans au).trans ak;refine cl (Jsr (q:=[nV 0]) (a3.ext (J.trans bb)) (ay.ext bb) ge ft) ?_;rintro u bu ⟨ae,_,U⟩;obtain ⟨lv,hv,hz,rfl,d8,di,_⟩:=U (by decide);rw [gt]at di;rw [gu]at d8;obtain ⟨Kq,i1,rfl,_⟩:=id d8;obtain ⟨Hq,hq,rfl,_⟩:=id di;refine ρ ?_;refine Jv (GrN.ext ae) ?_;refine ρn ?_;refine ρ ?_;have c9:Ext C bu:=bb.trans ae;have a7:Ext bu bu.drew:=(Ext.refl _).drew;refine drN (λ_=>False) 13 [(0,0),(1,1),(1,2),(1,3),(0,4),(0,5),(0,6),(0,7),(0,8),(0,9),(0,10)] kr ?_;refine ρn ?_;refine Ql (cs:=[.slice XA 2 xd,.slice YA 2 yd,.slice ZA 2 zd,.slice UA 2 ud,.slice TA tn tc]) (λw' hg j u hu=>(((a1.ext c9).ext a7).ext hg.toExt).at hu) ?_
 refine ρn ?_;refine nop ?_;refine bsl (Gg 1 2) ?_;intro ha ic aq g7 dc;refine ρ ?_;refine Jv (GrN.ext aq) ?_;refine ρn ?_;refine nop ?_;refine cl (Gc dc) ?_;rintro _ dq ⟨An,cn,rfl,fw,gg,aj⟩;refine ρ ?_;refine Jv (GrN.ext aj) ?_;refine ρn ?_;refine nop ?_;have ba:Ext C dq:=(((c9).trans a7).trans aq).trans aj;refine cl (Jss (q:=nR 1 2) (a3.ext (J.trans ba)) (ay.ext ba) gg fw) ?_;rintro u bt ⟨ad,_,U⟩;have h1:=U rfl;rw [exR_n]at h1;obtain ⟨An,cn,rfl,ey,eu⟩:=h1.some (r:=nR 1 3) rfl;refine ρ ?_;refine Jv (GrN.ext ad) ?_;refine ρn ?_;refine ρ ?_;have c8:Ext C bt:=ba.trans ad;have a6:Ext bt bt.drew:=(Ext.refl _).drew;refine drN (λ_=>False) 13 [(0,0),(1,1),(1,2),(1,3),(0,4),(0,5),(0,6),(0,7),(0,8),(0,9),(0,10)] kr ?_;refine ρn ?_;refine Ql (cs:=[.slice XA 2 xd,.slice YA 2 yd,.slice ZA 2 zd,.slice UA 2 ud,.slice TA tn tc]) (λw' hg j u hu=>(((a1.ext c8).ext a6).ext hg.toExt).at hu) ?_
 refine ρn ?_;refine nop ?_;refine bsl (Gg 1 2) ?_;intro h9 ib ap g6 db;refine ρ ?_;refine Jv (GrN.ext ap) ?_;refine ρn ?_;refine nop ?_;refine cl (Gc db) ?_;rintro _ dn ⟨Am,cm,rfl,fx,gh,ai⟩;refine ρ ?_;refine Jv (GrN.ext ai) ?_;refine ρn ?_;refine nop ?_;have b8:Ext C dn:=(((c8).trans a6).trans ap).trans ai;refine cl (Jsq (q:=nR 1 2) (a3.ext (J.trans b8)) (ay.ext b8) gh fx) ?_;rintro u o ⟨ac,_,U⟩;have h1:=U rfl;rw [f4,if_neg (by decide)]at h1;obtain ⟨Am,cm,rfl,ez,ew⟩:=h1.some (r:=nR 1 1) rfl;refine ρ ?_;refine Jv (GrN.ext ac) ?_;refine ρn ?_;refine ρ ?_;have dz:Ext C o:=b8.trans ac;have cr:Ext o o:=Ext.refl _;have cv:Ext bt o:=((((a6.trans ap).trans ai).trans ac).trans cr);have bq:Ext bu o:=((((a7.trans aq).trans aj).trans ad).trans cv);have br:Ext bv o:=((((a8.trans au).trans ak).trans ae).trans bq);have cw:Ext bw o:=((((a9.trans av).trans am).trans af).trans br)
 have cx:Ext bz o:=((((aa.trans aw).trans an).trans ag).trans cw);have ep:Ext c0 o:=((((ab.trans ax).trans ao).trans ah).trans cx);refine cl (Jqg (k:=1) (d5.ext ep) (by decide)) ?_;rintro _ u0 ⟨rfl,ec⟩;rw [decide_eq_true rfl];refine ρ ?_;have en:Ext o u0:=ec;refine cl (Jqg (k:=2) (d4.ext (cx.trans en)) (by decide)) ?_;rintro _ u1 ⟨rfl,eb⟩;rw [decide_eq_true rfl];refine ρ ?_;have em:Ext o u1:=en.trans eb;refine cl (Jqg (k:=3) (d3.ext (cw.trans em)) (by decide)) ?_;rintro _ u2 ⟨rfl,ea⟩;rw [decide_eq_true rfl];refine ρ ?_;have ek:Ext o u2:=em.trans ea;refine cl (Jqg (k:=0) (d9.ext (br.trans ek)) (by decide)) ?_;rintro _ u3 ⟨rfl,e9⟩;rw [decide_eq_true rfl];refine ρ ?_;have ej:Ext o u3:=ek.trans e9;refine cl (Jqg (k:=2) (dj.ext (br.trans ej)) (by decide)) ?_;rintro _ u4 ⟨rfl,e8⟩;rw [decide_eq_true rfl];refine ρ ?_;have ei:Ext o u4:=ej.trans e8;refine cl (Jqg (k:=0) (d8.ext (bq.trans ei)) (by decide)) ?_
 rintro _ u5 ⟨rfl,e7⟩;rw [decide_eq_true rfl];refine ρ ?_;have eh:Ext o u5:=ei.trans e7;refine cl (Jqg (k:=0) (di.ext (bq.trans eh)) (by decide)) ?_;rintro _ u6 ⟨rfl,e6⟩;rw [decide_eq_true rfl];refine ρ ?_;have fh:Ext o u6:=eh.trans e6;refine bsl (Gg 1 3) ?_;intro u7 ia e3 hw er;refine ρ ?_;refine cl (Gc er) ?_;rintro _ u8 ⟨A7,c7,rfl,g1,gl,e1⟩;refine ρ ?_;have eg:Ext o u8:=(fh.trans e3).trans e1;refine cl (Jyc (a:=nR 1 3) (b:=nR 1 3) ⟨An,cn,rfl,eu,by decide,Rd.ext ey (cv.trans eg)⟩ ⟨A7,c7,rfl,g1,by decide,gl⟩) ?_;rintro _ u9 ⟨rfl,e0⟩;rw [decide_eq_true rfl];refine ρ ?_;have fg:Ext o u9:=eg.trans e0;refine bsl (Gg 1 1) ?_;intro hy hx d2 g5 da;refine ρ ?_;refine cl (Gc da) ?_;rintro _ f7 ⟨h8,h6,rfl,ex,f2,d1⟩;refine ρ ?_;have co:Ext o f7:=(fg.trans d2).trans d1;refine cl (Jyc (a:=nR 1 1) (b:=nR 1 1) ⟨Am,cm,rfl,ew,by decide,Rd.ext ez (cr.trans co)⟩ ⟨h8,h6,rfl,ex,by decide,f2⟩) ?_
 rintro _ f6 ⟨rfl,d0⟩;rw [decide_eq_true rfl];refine ρ ?_;have el:Ext o f6:=co.trans d0;exact Jq ⟨rfl,(J.trans dz).trans el⟩
open Go.RowKit Pl Go.Wk
theorem RkA.form{f k:Nat}{L:List Row}{u:Value}{w:World}(h:RkA f L k u w)(hl:∀ r∈L,r.length<=1100000): ∃ A m c,u=.tuple #[.slice A m c,.bool (decide (k<L.length)),.int .i64 0]/\(k<L.length->RowV w (.slice A m c) (L.getD k [])):=by
 unfold RkA at h;by_cases hk:k<L.length
 .rw [getD_some hk]at h;obtain ⟨A,c,e,C,o,_⟩:=h;exact ⟨A,_,c,by rw [e,decide_eq_true hk],λ_=>⟨A,c,rfl,o,hl _ (getD_mem' [] _ hk),C⟩⟩
 .rw [List.getElem?_eq_none om]at h;exact ⟨none,0,0,by rw [h,decide_eq_false hk],λh=>absurd h hk⟩
open Go.RowKit Pl Go.Wk
variable {ls:List (List V)}{ds:List Bool}{ps:List Pr}{base c g n:Nat}{A:Option Addr}{fv v va vb vd:Value}{w:World}
theorem Qgh(h:RowsV w v ls):
  Ret Tryz.prog 92 [v] w λv' w'=>(∃ (ps:List Pr) (A:Option Addr),v'=.slice A ps.length ps.length/\ps.map (·.2)=ls/\ps.length<=1100000/\Dat w' w.heap.size (.slice A ps.length ps.length) ps/\∀ p∈ps,RowX w' (one (Value.slice A ps.length ps.length).ownBlock) p.1 p.2)/\Ext w w':=by
 obtain ⟨ps,A,c,rfl,rfl,h3,h4,h5,h6⟩:=h;generalize hn:ps.length=n at *
 refine Jz Tryz.func92 Tryz.ntmps92 rfl kr rfl ?_;refine ρ ?_;refine mkn ER n om (by unfold maxLen;omega) ?_;intro w1 O a9 a1 hO;have a7:∀ k,(Value.slice O n n).ownBlock=some k->w.heap.size<=k/\k<w1.heap.size:=by
  obtain ⟨_,_,e,_,hf⟩:=Jb a1;exact hf
 have ab:Dat w1 w.heap.size (.slice O n n) ([]++List.replicate n (.slice none 0 0,[])):=by
  refine ⟨?_,λp hp=>?_⟩
  .rw [List.nil_append,List.length_replicate,Pr.rep];have e:(madeCells (Value.slice none 0 0).cells (n*1)).toList=List.replicate n (.slice none 0 0):=by rw [Nat.mul_one];exact Yd _ _
   rw [e]at a1;exact a1
  .rw [List.nil_append]at hp;rw [(List.mem_replicate.1 hp).2];rfl
 refine ρ ?_;refine Jo (fun (k:Nat) (o:List Pr)=>[(0,.slice A n c),(3,.slice O n n),(9,.int .i64 (n:Int)),(10,.int .i64 (k:Int))])
  (λk o w2=>k<=n/\o.length=k/\o.map (·.2)=(ps.take k).map (·.2)/\Ext w w2/\Dat w2 w.heap.size (.slice O n n) (o++List.replicate (n-k) (.slice none 0 0,[]))/\(∀ p∈o,RowX w2 (one (Value.slice O n n).ownBlock) p.1 p.2)/\w1.heap.size<=w2.heap.size) (λk _=>n-k) 0 [] sB
  ⟨Nat.zero_le _,rfl,rfl,a9,ab,λp hp=>(by cases hp),Nat.le_refl _⟩ ?_
 rintro k o w2 ⟨hk,Z,a6,u,a4,a8,a5⟩;refine ρ ?_;refine ci (λh=>?_) (λh=>?_)
 .have J:k<n:=by have:=oT h;omega
  have G:k<ps.length:=om
  refine ρ ?_;refine ix k (h5.ext u) J ?_;refine ρ ?_;refine ld ((h5.ext u).cell (Ko G)) ?_;refine ρ ?_;refine cl (Jqb ((h6 _ (getD_mem' z0 ps G)).ext u) (one (Value.slice O n n).ownBlock) (λj hj=>by have:=a7 j hj;omega)) ?_;rintro v3 w3 ⟨U,C⟩;have a3:=a4.ext C;have a2:(o++List.replicate (n-k) ((.slice none 0 0,[]):Pr)).length=n:=by simp;omega
  obtain ⟨s1,s2,s3⟩:=a3.store a2 J (p:=(v3,(ps.getD k z0).2)) U.v.one;refine ρ ?_;refine ix k (a3.rd a2) J ?_;refine ρ ?_;refine sto (a3.cell a2 J) s1 ?_ (hv:=U.v.one);refine ρ ?_;have e:(o++List.replicate (n-k) ((.slice none 0 0,[]):Pr)).set k (v3,(ps.getD k z0).2)=(o++[(v3,(ps.getD k z0).2)])++List.replicate (n-(k+1)) (.slice none 0 0,[]):=by
   rw [show n-k=(n-(k+1))+1 by omega,List.replicate_succ,List.set_append_right _ _ om,Z,Nat.sub_self,List.set_cons_zero,List.append_assoc];rfl
  rw [e]at s2;refine Jp (k+1) (o++[(v3,(ps.getD k z0).2)]) sB ⟨om,by simp [Z],?_,Qb (u.trans C) s3 (λj hj=>(a7 j hj).1),s2,λp hp=>?_,?_⟩ om
  .rw [List.map_append,a6,List.take_succ_eq_append_getElem G,List.map_append,Jm z0 ps G];rfl
  .rcases List.mem_append.1 hp with h'|h'
   .exact ((a8 p h').ext C).grown s3 (λ_ e=>e)
   .rw [List.mem_singleton.1 h'];exact U.grown s3 (λ_ e=>e)
  .exact nL a5 (nL C.size s3.size)
 .have aa:k=n:=by have:=oF h;omega
  subst aa;rw [Nat.sub_self,List.replicate_zero,List.append_nil]at a4;refine ρ ?_;subst Z;exact Jq ⟨⟨o,O,rfl,by rw [a6,<-hn,List.take_length],h4,a4,a8⟩,u⟩
theorem Qfj{a b:List V}(ha:RowV w va a)(hb:RowV w vb b)(hd:BoolsV w vd ds)(hk:Blk w g 24 [vd]):
  Ret Tryz.prog 94 [va,vb,.pointer (some ⟨g,0,none⟩)] w λr w'=>r=.int .i64 (Jk a b ds)/\Ext w w':=by
 refine Jz Tryz.func94 Tryz.ntmps94 rfl kr rfl ?_;refine ρ ?_;refine ld (hk.at (i:=0) rfl) ?_;refine ρ ?_;refine cl (Jbz ha hb hd) ?_;rintro v u ⟨rfl,o⟩;refine ρ ?_;exact Jq ⟨rfl,o⟩
theorem Qfc(hD:Dat w base (.slice A n c) ps)(hn:ps.length=n)(hmx:n<20)(hC:CmpF w (Value.slice A n c).ownBlock fv ps ds):
  Ret Tryz.prog 147 [.slice A n c,.int .i64 (n:Int),fv] w λv w'=>∃ ps',Dat w' base (.slice A n c) ps'/\Seg z0 0 n ps ps'/\SOn z0 (fP ds) ps' 0 n/\w.grownBy w' (Value.slice A n c).ownBlock:=by
 refine Jz Tryz.func147 Tryz.ntmps147 rfl kr rfl ?_;refine ρ ?_;refine Qg (fun (_:Unit)=>[(0,.slice A n c),(1,.int .i64 (n:Int)),(2,fv),(6,.int .i64 20),(7,.int .i64 0),(8,.int .i64 20)]) (λ_ w'=>w'=w) (λ_=>0) () sB rfl ?_;rintro _ w' rfl;refine ρ ?_;refine ci (λh=>?_) (λh=>?_)
 .exfalso
  have:=oT h;omega
 clear h;refine ρ ?_;refine cl (Qxj (a:=0) (b:=n) hD hn rfl rfl (Nat.le_refl _) (Nat.zero_le _) om hC) ?_;rintro v o ⟨ps',J,G,C,u⟩;refine ρ ?_;refine Qg (fun (_:Unit)=>[(1,.int .i64 (n:Int)),(6,.int .i64 20)]) (λ_ w'=>w'=o) (λ_=>0) () sB rfl ?_;rintro _ O rfl;refine ρ ?_;refine ci (λh=>?_) (λh=>?_)
 .exfalso
  have:=oT h;omega
 clear h;refine ρ ?_;exact Yg ⟨ps',J,G,C,u⟩
theorem Qfg(hD:Dat w base (.slice A n c) ps)(hn:ps.length=n)(hmx:n<20)(hC:CmpF w (Value.slice A n c).ownBlock fv ps ds):
  Ret Tryz.prog 93 [.slice A n c,fv] w λv w'=>∃ ps',Dat w' base (.slice A n c) ps'/\Seg z0 0 n ps ps'/\SOn z0 (fP ds) ps' 0 n/\w.grownBy w' (Value.slice A n c).ownBlock:=by
 refine Jz Tryz.func93 Tryz.ntmps93 rfl kr rfl ?_;refine ρ ?_;refine cl (Qfc (ds:=ds) hD hn hmx hC) ?_;rintro v u o;refine ρ ?_;exact Yg o
theorem Qgd(h:RowsV w v ls)(hd:BoolsV w vd ds)(hl:ls.length<20):
  Ret Tryz.prog 50 [v,vd] w λv' w'=>(∃ ls',RowsV w' v' ls'/\ls'.Perm ls/\Srt ds ls')/\Ext w w':=by
 obtain ⟨D,dc,rfl,aa,a9,a8⟩:=id hd;refine Jz Tryz.func50 Tryz.ntmps50 rfl kr rfl ?_;refine ρ ?_;refine bx ?_;intro w1 b C ab a4;refine ρ ?_;refine cl (Qgh (h.ext C)) ?_;rintro v2 w2 ⟨⟨ps,A,rfl,Z,a7,a2,J⟩,O⟩;refine ρ ?_;have u:∀ k,(Value.slice A ps.length ps.length).ownBlock=some k->w1.heap.size<=k:=λk hk=>by
  obtain ⟨_,_,_,_,hf⟩:=Jb a2.1;exact (hf k hk).1
 have a3:ps.length<20:=by rw [<-Z,List.length_map]at hl;exact hl
 refine cl (Qfg (fv:=.func (.func 94) #[] #[.pointer (some ⟨b,0,none⟩)]) (ds:=ds) a2 rfl a3 ⟨_,_,_,rfl,λw' hg p q hp hq=>?_⟩) ?_
 .have U:Ext w1 w':=Qb O hg u;exact Qfj ((J p hp).grown hg (λ_ e=>e)).v ((J q hq).grown hg (λ_ e=>e)).v (hd.ext (C.trans U)) (a4.ext U)
 rintro v3 w3 ⟨qs,a6,G,a5,a1⟩;have o:qs.length=ps.length:=G.len;refine ρ ?_;refine Jq ⟨⟨qs.map (·.2),⟨qs,A,ps.length,rfl,by rw [o],om,om,?_,λp hp=>?_⟩,?_,?_⟩,C.trans (Qb O a1 u)⟩
 .exact o ▸ a6.rd o
 .exact ((J p (G.perm.mem_iff.1 hp)).grown a1 (λ_ e=>e)).v
 .rw [<-Z];exact G.perm.map _
 .exact Jdt (by rw [o];exact a5)
end Go.Proofs.YtebcagekopgdhaaGreatDoor
namespace Go.Wk
open Go.RowKit
section
variable {N:Nat->Prop} {P:Program} {n:Nat} {al:AL} {w:World} {Q:Exit->Act->World->Prop} {ops:Array Oper} {rest:List Oper} {drest:List (Nat×Oper)}
variable {d ty:Nat} {pos:String} {aft:Array Edge} {tt:TT}
theorem nsla[h:Tab P tt]{x:Operand}{t m e:Nat}{k:TK}{p:Addr}(kk:WN N P n ops Q drest ((d,.slice (some p) m m)::al) w)(ht:tk tt t=some k:=by rfl)(hk:k.desc=.array m e:=by rfl)(hx:ev al x=some (.pointer (some p)):=by rfl)(hd:Nat.blt d n=true:=by rfl): WN N P n ops Q ((0,⟨some d,.slice t x none none none,ty,pos,aft,none⟩)::drest) al w :=
 ny_ (λw' _ a C=>by
  have o:=Jqx h.ok ht hk w';have u:=Vv w' o.2.2.2;simp [execOp,C.ev hx,Instr.sliceAt,run_underlying o.2.2.1,Instr.sureAddr,Instr.sliceBounds,u];exact λ_=>add_zero p) hd kk
end
end Go.Wk
namespace Go.Proofs.YtebcagekopgdhaaGreatDoor
open Go.RowKit Pl Go.Wk
variable {a b c p:Row}
section
variable {ds:List Bool} {L:List Row} {f:Nat}
def btw(ds:List Bool)(L:List Row)(a b:Row): Nat:=(L.filter λy=>decide (0<=Jk y a ds) && decide (Jk y b ds<0)).length
def clt(ds:List Bool)(L:List Row)(a:Row): Nat:=(L.filter λy=>decide (Jk y a ds<0)).length
theorem Jch(hab:Jk a b ds<=0): clt ds L b=clt ds L a+btw ds L a b:=by
 by_cases h:Jk a b ds<0
 .exact Qwt h L
 .have e:a=b:=Gd a b ds om;subst e;unfold btw;rw [Qws h];rfl
theorem Xjw(hab:Jk a b ds<=0)(hbc:Jk b c ds<=0)(hac:Jk a c ds<=0): btw ds L a b+btw ds L b c=btw ds L a c:=by
 have C:=Jch (L:=L) hab;have u:=Jch (L:=L) hbc;have o:=Jch (L:=L) hac;omega
theorem Xzl(h:Lt ds L)(hl:∀ y∈L,y.length=f)(hp:p.length=f){g:Nat}(hg:g=if 0<(wiL L p).length then 1 else 0)(hk:Jc ds L p+g<L.length):
  (0<Jc ds L p+g->Jk (L.getD (Jc ds L p+g-1) []) p ds<=0)/\Jk p (L.getD (Jc ds L p+g) []) ds<0/\btw ds L p (L.getD (Jc ds L p+g) [])=g:=by
 have G:∀ i,i<Jc ds L p->i<L.length->Jk (L.getD i []) p ds<0:=λi hi a4=>by
  refine Classical.byContradiction λhc=>?_;have e:Jc ds L p=Jc ds (L.take i) p+Jc ds (L.drop i) p:=by rw [<-Jcd,List.take_append_drop]
  have e0:Jc ds (L.drop i) p=0:=Jcc λx Z=>by
   obtain ⟨j,hj,rfl⟩:=List.getElem_of_mem Z;rw [List.getElem_drop,<-Jm [] L];rw [List.length_drop]at hj;intro U;have J:((L.getD (i+j) []).take p.length)=L.getD (i+j) []:=by rw [List.take_of_length_le];rw [hl _ (getD_mem' [] _ om)];omega
   rw [J]at U;rcases Nat.eq_zero_or_pos j with h0|h0
   .subst h0;exact hc U
   .have h1:=Jkw h (i:=i) (j:=i+j) om om;have h2:=(Yo ds).trans (L.getD i []) (L.getD (i+j) []) p om om;have h3:Jk (L.getD i []) p ds≠0:=λa2=>by
     have:=Gd _ _ ds a2;rw [this]at h1;have:=Ur p (L.getD (i+j) []) ds;omega
    omega
  have:=Jwv ds (L.take i) p;rw [List.length_take]at this;omega
 have o:0<(wiL L p).length↔p∈L:=by
  have:=Qbk hl hp;constructor
  .intro h0;rw [decide_eq_true h0]at this;exact oT this.symm
  .intro h0;rw [decide_eq_true h0]at this;exact oT this
 have a1:Jc ds L (L.getD (Jc ds L p+g) [])=Jc ds L p+g:=Jfs h hk λy hy=>by rw [hl y hy,hl _ (getD_mem' [] _ hk)]
 have hr:=hl _ (getD_mem' [] _ hk);have C:Jk p (L.getD (Jc ds L p+g) []) ds<0:=by
  by_cases hm:p∈L
  .obtain ⟨i,hi,e,ec⟩:=Jsn h hl hm;have O:g=1:=by rw [hg,if_pos (o.2 hm)]
   have:=Jkw h (i:=i) (j:=Jc ds L p+g) om hk;rw [e]at this;exact this
  .have u:g=0:=by rw [hg,if_neg (λh0=>hm (o.1 h0))]
   rw [u,Nat.add_zero]at hk a1 hr ⊢;refine Classical.byContradiction λhc=>?_;have h1:Jk (L.getD (Jc ds L p) []) p ds≠0:=λe0=>hm (by rw [<-Gd _ _ ds e0];exact getD_mem' [] _ hk);have h2:Jk (L.getD (Jc ds L p) []) p ds<0:=by have:=Ur p (L.getD (Jc ds L p) []) ds;omega
   have h3:Jc ds L p=Jc ds (L.take (Jc ds L p)) p+Jc ds (L.drop (Jc ds L p)) p:=by rw [<-Jcd,List.take_append_drop]
   have h4:∀ n,n<=Jc ds L p->n<=L.length->Jc ds (L.take n) p=n:=λn hn a3=>by
    have:Jc ds (L.take n) p=(L.take n).length:=by
     unfold Jc;rw [List.filter_eq_self.2];intro x Z;obtain ⟨j,hj,rfl⟩:=List.getElem_of_mem Z;rw [List.length_take]at hj;rw [List.getElem_take,<-Jm [] L];have:=G j om om;rw [List.take_of_length_le (by rw [hl _ (getD_mem' [] _ om)];omega)];exact decide_eq_true this
    rw [this,List.length_take];omega
   have h4:=h4 _ (Nat.le_refl _) (Jwv ds L p);have h5:0<Jc ds (L.drop (Jc ds L p)) p:=by
    refine List.length_pos_of_mem (a:=L.getD (Jc ds L p) []) (List.mem_filter.2 ⟨?_,?_⟩)
    .rw [List.drop_eq_getElem_cons hk,<-Jm [] L hk];exact mC ..
    .rw [List.take_of_length_le om];exact decide_eq_true h2
   omega
 refine ⟨λh0=>?_,C,?_⟩
 .by_cases hm:p∈L
  .obtain ⟨i,hi,e,ec⟩:=Jsn h hl hm;have O:g=1:=by rw [hg,if_pos (o.2 hm)]
   rw [O,ec,Nat.add_sub_cancel,e,Ze];exact Int.le_refl _
  .have u:g=0:=by rw [hg,if_neg (λh0=>hm (o.1 h0))]
   rw [u]at h0 ⊢;have:=G (Jc ds L p+0-1) om om;omega
 .have h1:=Jch (L:=L) (ds:=ds) (Int.le_of_lt C);have h2:clt ds L p=Jc ds L p:=(Jcb (ds:=ds) hl hp).symm;have h3:clt ds L (L.getD (Jc ds L p+g) [])=Jc ds L (L.getD (Jc ds L p+g) []):=(Jcb (ds:=ds) hl hr).symm;omega
end
open Go.RowKit Pl Go.Wk
attribute [local irreducible] WC WL QX WD WDB WP WN WG WH WM
variable {B0 m n:Nat}
def tt4: TT:=(106,{ desc:=.array 3 37,size:=3,esz:=1 })::tt
theorem Qck: TOk Tryz.prog tt4:=⟨⟨kr,kr,kr⟩,Ie⟩
instance (priority:=20000):Tab Tryz.prog tt4:=⟨Qck,mixed⟩
theorem Xjk(n:Nat): Zo n n=0:=by unfold Zo;rw [if_neg (Nat.lt_irrefl _),if_neg (Nat.lt_irrefl _)]
theorem Qkn(h:n<=m): Zo n m<=0:=by
 unfold Zo;split
 .omega
 .rw [if_neg om];omega
theorem Qql(h:n<=5000): (Jj n).length<=1000:=nL (Qnz om) (by decide)
set_option linter.constructorNameAsVariable false in
theorem Qgx(hAw:Aw42){w:World}{cs:List Value}{c:Cse}{v0 v1 v2:Value}{r0 r1 r2:Row}(hTB:TB B0 w)(h:CseV w cs c)(hfit:∀ i,i<c.rss.length->∀ r∈c.rss.getD i [],∀ u∈r,Xo u)(h0:RowV w v0 r0)(h1:RowV w v1 r1)(h2:RowV w v2 r2):
  Ret Tryz.prog 12 [.agg cs.toArray,.agg #[v0,v1,v2]] w λu w'=>u=.bool true/\Ext w w':=by
 obtain ⟨dA,dc,pA,f9,vA,vc,rA,rc,rfl,hD,hP,hV,hR,hn,hf⟩:=id h;obtain ⟨P0,c0,rfl,fw,fp,g0⟩:=id h0;obtain ⟨P1,c1,rfl,fu,fo,fz⟩:=id h1;obtain ⟨P2,c2,rfl,ft,fl,fy⟩:=id h2;refine Jz Tryz.func12 Tryz.ntmps12 rfl kr rfl ?_;refine ρ ?_;refine bx ?_;intro w1 b an hb hB;refine ρ ?_;refine bx ?_;intro f7 b2 be fx dd;have hB:=hB.ext be;have an:=an.trans be;refine ρ ?_;refine ldW hB ?_;refine ρ ?_;refine cl (Xjv (hTB.ext an) (h.ext an) hfit) ?_;rintro u w2 ⟨b6,eh⟩;rcases eh with ⟨rfl,fj⟩|⟨ats,x,av,kf,pf,BB,tot,hOk,rfl,hIx,hav⟩
 .refine ρ ?_;refine alc Uu ?_;intro w3 b3 bo bw bu;refine ρ ?_;refine stW bu ?_;intro U ae ef bn;have J:Ext w2 U:=bn w2 bo bw;have C:=(an.trans b6).trans J;refine ρ ?_;refine lda (cs:=[.slice P0 r0.length c0,.slice P1 r1.length c1,.slice P2 r2.length c2]) (λj u hu=>((dd.ext b6).ext J).at hu) rfl ?_;refine ρ ?_;refine Qg (fun (i:Nat)=>[(7,.bool false),(31,.agg #[.slice P0 r0.length c0,.slice P1 r1.length c1,.slice P2 r2.length c2]),(32,.int .i64 (i:Int))]) (λi w'=>i<=3/\U=w') (λi=>3-i) 0 sB ⟨om,rfl⟩ ?_;rintro i w5 ⟨hi,rfl⟩;refine ρ ?_;refine ci (λhc=>?_) (λhc=>?_)
  .have li:i<3:=by have:=oT hc;omega
   clear hc;obtain ⟨pv,br⟩:∃ pv,[Value.slice P0 r0.length c0,.slice P1 r1.length c1,.slice P2 r2.length c2][i]?=some pv:=by
    rcases (show i=0∨i=1∨i=2 by omega) with rfl|rfl|rfl<;>exact ⟨_,rfl⟩
   refine ρ ?_;refine idx i li br ?_;refine ρ ?_;exact Qy (i+1) sO ⟨om,rfl⟩ om
  .clear hc;refine ρ ?_;refine cl (hAw (hTB.ext C)) ?_;rintro _ w6 ⟨rfl,am⟩;refine ρ ?_;exact Jq ⟨rfl,C.trans am⟩
 have bz:=hOk.ans.1;obtain ⟨XA,xd,YA,yd,ZA,zd,UA,ud,tv,fa,f8,rfl,_,_,_,_,_,_,e6,_⟩:=id hIx.ix.ex;obtain ⟨TA,tc,rfl,_⟩:=id e6;have fq:=hOk.fF.1;obtain ⟨L,hL⟩:∃ L,L=c.ans:=⟨_,rfl⟩;have eb:L.length<=5000:=by rw [hL];exact hOk.anl
 have a9:∀ r∈L,r.length=c.F:=λr hr=>hOk.arow (hL ▸ hr);have g1:c.F<=6:=nL hOk.fF.2 hOk.nN.2;have d4:∀ r∈L,r.length<=1100000:=λr hr=>by rw [a9 r hr];omega
 obtain ⟨LA,lc,rfl,_,_,_⟩:=hav.parts;rw [<-hL]at hIx bz;refine ρ ?_;refine alc Uu ?_;intro w3 b3 bo bw bu;refine ρ ?_;refine stW bu ?_;intro U ae ef bn;have J:Ext w2 U:=bn w2 bo bw;have C:=(an.trans b6).trans J;have a2:=hIx.ext J;have c3:=(hB.ext b6).ext J;have bf:=(dd.ext b6).ext J;refine ρ ?_;refine lda (cs:=[.slice P0 r0.length c0,.slice P1 r1.length c1,.slice P2 r2.length c2]) (λj u hu=>bf.at hu) rfl ?_;refine ρ ?_;refine Jo (fun (i:Nat) (o:Bool)=>[(2,.pointer (some ⟨b,0,none⟩)),(3,.pointer (some ⟨b2,0,none⟩)),(5,.pointer (some ⟨b3,0,none⟩)),(7,.bool o),(31,.agg #[.slice P0 r0.length c0,.slice P1 r1.length c1,.slice P2 r2.length c2]),(32,.int .i64 (i:Int))])
  (λi o w'=>i<=3/\U=w'/\(o=true->∀ j,j<i->([r0,r1,r2].getD j []).length=c.F)) (λi _=>3-i) 0 true sB ⟨om,rfl,λ_ j hj=>om⟩ ?_
 rintro i o w5 ⟨hi,rfl,ho⟩;refine ρ ?_;refine ci (λhc=>?_) (λhc=>?_)
 .have li:i<3:=by have:=oT hc;omega
  clear hc;obtain ⟨PX,cx,br⟩:∃ PX cx,[Value.slice P0 r0.length c0,.slice P1 r1.length c1,.slice P2 r2.length c2][i]?=some (.slice PX ([r0,r1,r2].getD i []).length cx):=by
   rcases (show i=0∨i=1∨i=2 by omega) with rfl|rfl|rfl<;>exact ⟨_,_,rfl⟩
  refine ρ ?_;refine idx i li br ?_;refine ρ ?_;cases o with
  | false=>
   refine ρ ?_;exact Jp (i+1) false sO ⟨om,rfl,λh=>by cases h⟩ om
  | true=>
   refine ρ ?_;refine ld (c3.at (i:=1) rfl) ?_;refine ρ ?_;refine Jp (i+1) _ sO ⟨om,rfl,λh j hj=>?_⟩ om;rcases Nat.lt_or_ge j i with hj'|hj'
   .exact ho rfl j hj'
   .obtain rfl:j=i:=om
    have h2:=Xy h;omega
 have ee:i=3:=by have:=oF hc;omega
 clear hc;refine ρ ?_;cases o with
 | false=>
  refine ρ ?_;refine cl (hAw (hTB.ext C)) ?_;rintro _ w6 ⟨rfl,am⟩;refine ρ ?_;exact Jq ⟨rfl,C.trans am⟩
 | true=>
 subst ee;have bt:=ho rfl;clear ho hi;refine ρ ?_;have ad:Ext U U.drew:=(Ext.refl _).drew;have bp:RowsV U.drew (.slice (some ⟨b2,0,none⟩) 3 3) [r0,r1,r2]:=by
  refine ⟨[(.slice P0 r0.length c0,r0),(.slice P1 r1.length c1,r1),(.slice P2 r2.length c2,r2)],some ⟨b2,0,none⟩,3,rfl,rfl,Nat.le_refl _,(by show 3<=1100000;decide),(bf.ext ad).rd rfl,λp hp=>?_⟩;simp only [List.mem_cons,List.not_mem_nil,or_false]at hp;rcases hp with rfl|rfl|rfl
  .exact h0.ext (C.trans ad)
  .exact h1.ext (C.trans ad)
  .exact h2.ext (C.trans ad)
 refine drN (λ_=>False) 5 [(0,0),(0,1),(0,2),(1,3),(0,4)] kr ?_;refine ρn ?_;refine nsla ?_;refine ρn ?_;refine nld (Jh ((c3.ext ad).at (i:=2) rfl) (λe=>e)) ?_;refine ρn ?_;refine nop ?_;refine cl (Qgd bp (hD.ext (C.trans ad)) (by show 3<20;decide)) ?_;rintro sv w6 ⟨⟨S,hS,b9,cr⟩,am⟩;have ej:S.length=3:=b9.length_eq;obtain ⟨s0,s1,s2,rfl⟩:∃ s0 s1 s2,S=[s0,s1,s2]:=by
  match S,ej with
  | [s0,s1,s2],_=>exact ⟨s0,s1,s2,rfl⟩
 obtain ⟨SA,sc,rfl,_,_,_⟩:=hS.parts;have bb:∀ s∈[s0,s1,s2],s.length=c.F:=λs hs=>by
  have hm:=b9.mem_iff.1 hs;simp only [List.mem_cons,List.not_mem_nil,or_false]at hm;rcases hm with rfl|rfl|rfl
  .exact bt 0 om
  .exact bt 1 om
  .exact bt 2 om
 have b8:=bb s0 (by simp);have cw:=bb s1 (by simp);have cv:=bb s2 (by simp);have hq:=List.pairwise_cons.1 cr;have e8:=List.pairwise_cons.1 hq.2;have dm:=hq.1 s1 (by simp);have dl:=hq.1 s2 (by simp);have dk:=e8.1 s2 (by simp);refine ρ ?_;refine Jv (GrN.ext am) ?_;refine ρn ?_;refine ρ ?_;have a1:Ext U w6:=ad.trans am;have eu:=a1;have b5:Ext w6 w6.drew:=(Ext.refl _).drew;have b4:Ext U w6.drew:=a1.trans b5;have da:=hS.ext b5;obtain ⟨_,_,ch,_,e5,cg⟩:=da.one (i:=0) (by show 0<3;decide);obtain ⟨_,_,ca,_,dz,c9⟩:=da.one (i:=1) (by show 1<3;decide);obtain ⟨f5,fh,rfl,_⟩:=id cg;obtain ⟨ez,fd,rfl,_⟩:=id c9;refine drN (λ_=>False) 8 [(0,0),(0,1),(0,2),(0,3),(0,4),(0,5),(0,6),(1,7),(0,8),(0,9),(0,10),(0,11),(0,12)] kr ?_;refine ρn ?_;refine Ql (cs:=[.slice XA c.F xd,.slice YA c.F yd,.slice ZA c.F zd,.slice UA c.F ud,.slice TA (Jj tot).length tc]) (λw' hg j u hu=>((ae.ext b4).ext hg.toExt).at hu) ?_
 refine ρn ?_;refine nix 0 ch (by show 0<3;decide) ?_;refine ρn ?_;refine nld (Jh (ch.cell e5) (λe=>e)) ?_;refine ρn ?_;refine nix 1 ca (by show 1<3;decide) ?_;refine ρn ?_;refine nld (Jh (ca.cell dz) (λe=>e)) ?_;refine ρn ?_;refine nop ?_;refine cl (Jyg (hTB.ext (C.trans b4)) (a2.ext b4) a9 cg c9) ?_;rintro u w7 ⟨ck,_,O⟩;obtain ⟨na,rfl,d3⟩:=O b8 cw;obtain ⟨Na,dv,rfl,_⟩:=id d3;refine ρ ?_;refine Jv (GrN.ext ck) ?_;refine ρn ?_;refine ρ ?_;have aq:Ext w6 w7:=b5.trans ck;have cq:Ext U w7:=a1.trans aq;have ah:Ext w7 w7.drew:=(Ext.refl _).drew;have b1:Ext U w7.drew:=cq.trans ah;have d9:=(hS.ext aq).ext ah;obtain ⟨_,_,ce,_,e4,cd⟩:=d9.one (i:=1) (by show 1<3;decide);obtain ⟨_,_,c8,_,dx,c7⟩:=d9.one (i:=2) (by show 2<3;decide);obtain ⟨f4,e3,rfl,_⟩:=id cd;obtain ⟨ey,fc,rfl,_⟩:=id c7;refine drN (λ_=>False) 8 [(0,0),(0,1),(0,2),(0,3),(0,4),(0,5),(0,6),(1,7),(0,8),(0,9),(0,10),(0,11),(0,12)] kr ?_
 refine ρn ?_;refine Ql (cs:=[.slice XA c.F xd,.slice YA c.F yd,.slice ZA c.F zd,.slice UA c.F ud,.slice TA (Jj tot).length tc]) (λw' hg j u hu=>((ae.ext b1).ext hg.toExt).at hu) ?_;refine ρn ?_;refine nix 1 ce (by show 1<3;decide) ?_;refine ρn ?_;refine nld (Jh (ce.cell e4) (λe=>e)) ?_;refine ρn ?_;refine nix 2 c8 (by show 2<3;decide) ?_;refine ρn ?_;refine nld (Jh (c8.cell dx) (λe=>e)) ?_;refine ρn ?_;refine nop ?_;refine cl (Jyg (hTB.ext (C.trans b1)) (a2.ext b1) a9 cd c7) ?_;rintro u w8 ⟨bh,_,O⟩;obtain ⟨nb,rfl,d1⟩:=O cw cv;obtain ⟨Nb,du,rfl,_⟩:=id d1;refine ρ ?_;refine Jv (GrN.ext bh) ?_;refine ρn ?_;refine ρ ?_;have ap:Ext w6 w8:=(aq.trans ah).trans bh;have co:Ext U w8:=a1.trans ap;have a6:Ext w8 w8.drew:=(Ext.refl _).drew;have ay:Ext U w8.drew:=co.trans a6;have d8:=(hS.ext ap).ext a6;obtain ⟨_,_,cc,_,e0,cb⟩:=d8.one (i:=0) (by show 0<3;decide);obtain ⟨_,_,c6,_,dw,c5⟩:=d8.one (i:=2) (by show 2<3;decide)
 obtain ⟨f3,fg,rfl,_⟩:=id cb;obtain ⟨ew,fb,rfl,_⟩:=id c5;refine drN (λ_=>False) 8 [(0,0),(0,1),(0,2),(0,3),(0,4),(0,5),(0,6),(1,7),(0,8),(0,9),(0,10),(0,11),(0,12)] kr ?_;refine ρn ?_;refine Ql (cs:=[.slice XA c.F xd,.slice YA c.F yd,.slice ZA c.F zd,.slice UA c.F ud,.slice TA (Jj tot).length tc]) (λw' hg j u hu=>((ae.ext ay).ext hg.toExt).at hu) ?_;refine ρn ?_;refine nix 0 cc (by show 0<3;decide) ?_;refine ρn ?_;refine nld (Jh (cc.cell e0) (λe=>e)) ?_;refine ρn ?_;refine nix 2 c6 (by show 2<3;decide) ?_;refine ρn ?_;refine nld (Jh (c6.cell dw) (λe=>e)) ?_;refine ρn ?_;refine nop ?_;refine cl (Jyg (hTB.ext (C.trans ay)) (a2.ext ay) a9 cb c5) ?_;rintro u w9 ⟨bc,_,O⟩;obtain ⟨nd,rfl,cz⟩:=O b8 cv;obtain ⟨Nd,dt,rfl,_⟩:=id cz;refine ρ ?_;refine Jv (GrN.ext bc) ?_;refine ρn ?_;refine ρ ?_;have ao:Ext w6 w9:=(ap.trans a6).trans bc;have cm:Ext U w9:=a1.trans ao
 have Z:Ext w9 w9.drew:=(Ext.refl _).drew;have ax:Ext U w9.drew:=cm.trans Z;have ek:=(hS.ext ao).ext Z;obtain ⟨_,_,c4,_,dn,neV⟩:=ek.one (i:=0) (by show 0<3;decide);obtain ⟨f2,ff,rfl,d6,_,em⟩:=id neV;refine drN (λ_=>False) 8 [(0,0),(0,1),(0,2),(0,3),(1,4),(0,5),(0,6),(0,7),(0,8),(0,9),(0,10),(0,11)] kr ?_;refine ρn ?_;refine Ql (cs:=[.slice XA c.F xd,.slice YA c.F yd,.slice ZA c.F zd,.slice UA c.F ud,.slice TA (Jj tot).length tc]) (λw' hg j u hu=>((ae.ext ax).ext hg.toExt).at hu) ?_;refine ρn ?_;refine nix 0 c4 (by show 0<3;decide) ?_;refine ρn ?_;refine nld (Jh (c4.cell dn) (λe=>e)) ?_;refine ρn ?_;refine nop ?_;refine cl (Jss (hTB.ext (C.trans ax)) (a2.ext ax) em d6) ?_;rintro u ak ⟨a8,_,O⟩;have hA:=O b8;obtain ⟨g,bv⟩:∃ g,g=if 0<(wiL L s0).length then 1 else 0:=⟨_,rfl⟩
 change RkA c.F L (Jc c.ds L s0+if 0<(wiL L s0).length then 1 else 0) u ak at hA
 rw [<-bv]at hA;have d7:g<=1:=by rw [bv];split<;>omega
 obtain ⟨kk,ed⟩:∃ kk,kk=Jc c.ds L s0+g:=⟨_,rfl⟩;have de:=Xzl bz a9 b8 bv;rw [<-ed]at hA de;obtain ⟨A1,m1,e1,rfl,bd⟩:=hA.form d4;refine ρ ?_;refine Jv (GrN.ext a8) ?_;refine ρn ?_;refine ρ ?_;have au:Ext w6 ak:=(ao.trans Z).trans a8;have bm:Ext U ak:=a1.trans au;have d5:∀ a b:Row,btw c.ds L a b<=5000:=λa b=>nL (List.length_filter_le _ _) eb;have d2:NatV ak (.slice Na _ dv) (btw c.ds L s0 s1):=d3.ext ((((ah.trans bh).trans a6).trans bc).trans (Z.trans a8));have d0:NatV ak (.slice Nb _ du) (btw c.ds L s1 s2):=d1.ext ((a6.trans bc).trans (Z.trans a8));have cy:NatV ak (.slice Nd _ dt) (btw c.ds L s0 s2):=cz.ext (Z.trans a8);refine cl (Jgn d2 d0 (Qql (d5 _ _)) (Qql (d5 _ _))) ?_;rintro sm f6 ⟨e7,aj⟩;refine ρ ?_;refine cl (Gw e7 (cy.ext aj)) ?_;rintro _ dj ⟨rfl,b7⟩;rw [Xjw dm dk dl,Xjk];have G:Ext U dj:=(bm.trans aj).trans b7;refine ρ ?_;refine ci (λhc=>?_) (λhc=>?_)
 .clear hc;refine ρ ?_;refine cl (hAw (hTB.ext (C.trans G))) ?_;rintro _ ab ⟨rfl,a7⟩;refine ρ ?_;exact Jq ⟨rfl,(C.trans G).trans a7⟩
 have hk:kk<L.length:=by simpa using hc
 clear hc;obtain ⟨ea,fi,e9⟩:=de hk;have bd:=(bd hk).ext (aj.trans b7);obtain ⟨An,cn,en,eg,fk,db⟩:=id bd;injection en with en1 en2 en3
 subst en1;subst en2;subst en3;have bq:(L.getD kk []).length=c.F:=a9 _ (getD_mem' [] _ hk);have ec:Jc c.ds L (L.getD kk [])=kk:=Jfs bz hk λy hy=>by rw [a9 y hy,bq]
 refine ρ ?_;refine ldW (ae.ext G) ?_;refine ρ ?_;refine cl (Jsq (hTB.ext (C.trans G)) (a2.ext G) db eg) ?_;rintro u ab ⟨a7,_,O⟩;have eo:∃ A m c',u=.tuple #[.slice A m c',.bool (decide (0<kk)),.int .i64 0]/\(0<kk->RowV ab (.slice A m c') (L.getD (kk-1) [])):=by
  have h1:=O bq;rw [ec]at h1;rcases Nat.eq_zero_or_pos kk with h0|h0
  .rw [if_pos h0]at h1;exact ⟨none,0,0,by rw [h1,decide_eq_false om],λh=>om⟩
  .rw [if_neg om]at h1;obtain ⟨A,m,c',e,hR⟩:=h1.form d4;exact ⟨A,m,c',by rw [e,decide_eq_true (by omega:kk-1<L.length),decide_eq_true h0],λ_=>hR om⟩
 obtain ⟨A2,m2,e2,rfl,el⟩:=eo;have bj:Ext U ab:=G.trans a7;have ar:Ext w6 ab:=((au.trans aj).trans b7).trans a7;refine ρ ?_;have a5:Ext ab ab.drew:=(Ext.refl _).drew;have af:Ext U ab.drew:=bj.trans a5;have ei:=(hS.ext ar).ext a5;obtain ⟨_,_,di,_,er,dh⟩:=ei.one (i:=0) (by show 0<3;decide);obtain ⟨et,e3,rfl,_⟩:=id dh;refine drN (λ_=>False) 8 [(0,0),(0,1),(0,2),(0,3),(0,4),(1,5),(0,6),(0,7),(0,8),(0,9),(0,10)] kr ?_;refine ρn ?_;refine Ql (cs:=[.slice XA c.F xd,.slice YA c.F yd,.slice ZA c.F zd,.slice UA c.F ud,.slice TA (Jj tot).length tc]) (λw' hg j u hu=>((ae.ext af).ext hg.toExt).at hu) ?_;refine ρn ?_;refine nix 0 di (by show 0<3;decide) ?_;refine ρn ?_;refine nld (Jh (di.cell er) (λe=>e)) ?_;refine ρn ?_;refine nop ?_;refine cl (Jyg (hTB.ext (C.trans af)) (a2.ext af) a9 dh ((bd.ext a7).ext a5)) ?_;rintro u aa ⟨ai,_,O⟩;obtain ⟨nf,rfl,ba⟩:=O b8 bq;have ba:NatV aa nf (btw c.ds L s0 (L.getD kk [])):=ba
 rw [e9]at ba;obtain ⟨Nf,dq,rfl,_⟩:=id ba;refine ρ ?_;refine Jv (GrN.ext ai) ?_;refine ρn ?_;refine ρ ?_;have bi:Ext U aa:=af.trans ai;have ag:Ext aa aa.drew:=(Ext.refl _).drew;have a4:Ext U aa.drew:=bi.trans ag;have cj:Ext w6 aa.drew:=((ar.trans a5).trans ai).trans ag;refine drN (λ_=>False) 30 [(1,0),(0,1),(0,2),(0,3),(0,4),(0,5),(0,6),(0,7),(0,8),(0,9),(0,10),(0,11),(0,12),(0,13),(0,14),(0,15),(0,16),(0,17),(0,18),(1,19),(0,20),(0,21),(0,22),(0,23),(0,24),(1,25),(1,26),(0,27),(0,28),(0,29)] kr ?_;refine ρn ?_;refine nop ?_;refine cl (hAw (hTB.ext (C.trans a4))) ?_;rintro _ wq ⟨rfl,a3⟩;refine ρ ?_;refine Jv (GrN.ext a3) ?_;refine ρn ?_;have Um:∀ {wx:World} (_:Ext aa.drew wx),NatV wx (.slice Nf _ dq) g:=λhx=>(ba.ext ag).ext hx;rcases Nat.eq_zero_or_pos kk with hz|hz
 .rw [decide_eq_false (by omega:¬ 0<kk)];refine ρn ?_;refine nop ?_;refine cl (Kz 1 (by decide) _) ?_;rintro ov wr ⟨bs,_,ac⟩;refine ρ ?_;refine Jv (GrN.ext ac) ?_;refine ρn ?_;refine nop ?_;refine cl (Gw (Um (a3.trans ac)) bs) ?_;rintro _ ws ⟨rfl,aw⟩;refine ρ ?_;refine Jv (GrN.ext aw) ?_;refine ρn ?_;refine ρ ?_;exact Jq ⟨congrArg Value.bool (decide_eq_true (Qkn d7)),(C.trans a4).trans ((a3.trans ac).trans aw)⟩
 .rw [decide_eq_true hz];obtain ⟨_,_,dg,_,ep,df⟩:=((hS.ext cj).ext a3).one (i:=0) (by show 0<3;decide);obtain ⟨f0,fe,rfl,_⟩:=id df;refine ρn ?_;refine nix 0 dg (by show 0<3;decide) ?_;refine ρn ?_;refine nld (Jh (dg.cell ep) (λe=>e)) ?_;refine ρn ?_;refine nld (Jh ((c3.ext (a4.trans a3)).at (i:=2) rfl) (λe=>e)) ?_;refine ρn ?_;refine nop ?_;refine cl (Jbz (((((el hz).ext a5).ext ai).ext ag).ext a3) df (hD.ext (C.trans (a4.trans a3)))) ?_;rintro _ wo ⟨rfl,bg⟩;refine ρ ?_;refine Jv (GrN.ext bg) ?_;refine ρn ?_;refine nkt 160 (decide_eq_true (ea hz)) ?_;refine ρn ?_;refine nop ?_;refine cl (Kz 1 (by decide) _) ?_;rintro ov wr ⟨bs,_,ac⟩;refine ρ ?_;refine Jv (GrN.ext ac) ?_;refine ρn ?_;refine nop ?_;refine cl (Gw (Um ((a3.trans bg).trans ac)) bs) ?_;rintro _ ws ⟨rfl,aw⟩;refine ρ ?_;refine Jv (GrN.ext aw) ?_;refine ρn ?_;refine ρ ?_;exact Jq ⟨congrArg Value.bool (decide_eq_true (Qkn d7)),(C.trans a4).trans (((a3.trans bg).trans ac).trans aw)⟩
end Go.Proofs.YtebcagekopgdhaaGreatDoor
namespace Go.Proofs.YtebcagekopgdhaaGreatDoor
open Go.RowKit Pl Go.Wk Go.ChangeShapes Go.WideShapes
section
variable {H:Type} {enc:TypeId×Value->H} {w:World} {base b0:Nat} {spare:Nat->Bool} {held:Bool}
def Qyh(w:World)(v:Value): Prop:=∃ v0 v1 v2 r0 r1 r2,v=.agg #[v0,v1,v2]/\Jzw w v0 r0/\Jzw w v1 r1/\Jzw w v2 r2
theorem Qmb{v:Value}{d:DataW H}{p:List MemPlace}(hv:Value.okWide Tryz.prog w .any b0 106 v)(h:DataW.Trod enc Tryz.prog w base spare held 106 v d p)(hb:Rows.uptoBulk d<=1048576): Qyh w v:=by
 simp only [Value.okWide,Tryz.underlying106]at hv;obtain ⟨cs,rfl,J,_⟩:=hv;rw [show Tryz.prog.cellsOf 106=3 by kernel_rfl]at J;obtain ⟨l⟩:=cs;obtain ⟨U,h⟩:=h;match l,J with
 | [c0,c1,c2],_=>
  obtain ⟨o,m,_,C,O,u,hf⟩:=DataW.trod_array Tryz.underlying106 h;have a1:o.length=3:=u;injection C with C _
  subst C;have G:∀ i (hi:i<o.length),Rows.uptoBulk o[i].1<=1048576:=λi hi=>by
   have h1:o[i].1∈o.map (·.1):=List.mem_map.2 ⟨o[i],List.getElem_mem hi,rfl⟩
   have J:=Jlr h1;simp only [Rows.uptoBulk]at hb;omega
  have key:∀ i (hi:i<3),DataW.trod enc Tryz.prog w base spare held m 37 (([c0,c1,c2].drop i).take 1)=o[i]?:=λi hi=>by
   have:=hf i om;rw [show Tryz.prog.cellsOf 37=1 by kernel_rfl]at this;rw [Nat.mul_one]at this;exact this
  have f0:=key 0 om;have f1:=key 1 om;have Z:=key 2 om;rw [List.getElem?_eq_getElem om]at f0 f1 Z;obtain ⟨⟨p0,r0⟩,e0,g0⟩:=Jks f0 (G 0 om);obtain ⟨⟨p1,r1⟩,e1,g1⟩:=Jks f1 (G 1 om);obtain ⟨⟨p2,r2⟩,e2,g2⟩:=Jks Z (G 2 om);simp at e0 e1 e2;subst e0;subst e1;subst e2;exact ⟨_,_,_,r0,r1,r2,rfl,g0,g1,g2⟩
end
open Go.RowKit Pl Go.Wk
theorem Qgw{B0:Nat}{w:World}{v u:Value}(hTB:TB B0 w)(h:Qym w v)(hu:Qyh w u): Ret Tryz.prog 12 [v,u] w λu w'=>u=.bool true/\Ext w w':=by
 obtain ⟨cs,c,rfl,C,o⟩:=h;obtain ⟨v0,U,O,r0,r1,Z,rfl,h0,J,G⟩:=hu;exact Qgx Xxw hTB C o h0.1 J.1 G.1
end Go.Proofs.YtebcagekopgdhaaGreatDoor
