/- Part 8. -/
import Derived.Test.YtgobkbeokaaplaaGreatDoorI07
set_option linter.unusedVariables false
set_option maxRecDepth 100000
set_option maxHeartbeats 40000000
namespace Go.Wk
open Go.RowKit
section
variable {P:Program} {n:Nat} {al:AL} {w:World} {Q:Exit->Act->World->Prop} {ops:Array Oper}
def stgQ(l:List Oper)(F q:Nat)(st st':Array Bool)(us:List Nat): Bool :=
 Nat.beq st.size l.length && Nat.beq st'.size l.length && ndB us && (us.all λk=>Nat.blt k l.length && !(st.getD k true)) &&
 (us.all λi=>match nth l i with
  | some o=>o.after.all λe=>!Region.binds .any e || (Nat.blt e.on l.length && st.getD e.on true) || (us.any (λj=>Nat.beq j e.on) && Nat.blt e.on i)
  | none=>false) &&
 ((List.range l.length).all λi=>st.getD i true || us.any (λj=>Nat.beq j i) || us.all λj=>Nat.beq j q || Ug l.toArray F i j) &&
 ((List.range l.length).all λi=>st'.getD i true == (st.getD i true || us.any λj=>Nat.beq j i))
theorem hmkSq{T:Nat->Bool}{l:List Oper}(F q fuel':Nat)(st st':Array Bool)(us ds:List Nat)(Fs:List SF){fuel:Nat}(hc:(stgQ l F q st st' us && ndB ds && Nat.beq ds.length us.length && Nat.beq (us.length+fuel') fuel)=true)(hfree:(ds.all λd=>(lk al d).isNone)=true)(hop:GoS P n l al w us ds Fs 0 us)(Uw:∀ vs w1,Ext w w1->(∀ j,(hj:j<us.length:=by decide)->fiM Fs j (vs j) w1)->WH P n l.toArray Q T fuel' st' (slM vs al ds 0) w1)(hend2:q<l.length->∀ vs w1,Ext w w1->(∀ j,(hj:j<us.length:=by decide)->(hq:us.getD j 0≠q:=by decide)->fiM Fs j (vs j) w1)->WH P n l.toArray Q T (fuel'+1) (st'.setIfInBounds q false) (slM vs al ds 0) w1): WH P n l.toArray Q T fuel st al w:=λa1 a ha=>by
 simp only[Bool.and_eq_true]at hc;obtain⟨⟨⟨h0,h4⟩,h5⟩,h6⟩:=hc;unfold stgQ at h0;simp only[Bool.and_eq_true]at h0;obtain⟨⟨⟨⟨⟨⟨c1,c2⟩,c3⟩,c4⟩,c5⟩,c6⟩,c7⟩:=h0;have ar:st.size=l.length:=Nat.eq_of_beq_eq_true c1;have b7:st'.size=l.length:=Nat.eq_of_beq_eq_true c2;have hU:=Jbd c3;have hN:=Jbd h4;have hl:ds.length=us.length:=Nat.eq_of_beq_eq_true h5;have b3:us.length+fuel'=fuel:=Nat.eq_of_beq_eq_true h6;have b4:∀ d∈ds,lk al d=none:=λd hd=>by simpa using List.all_eq_true.1 hfree d hd
 have U:∀ j,j<us.length->us.getD j 0<l.length/\st.getD (us.getD j 0) true=false:=λj hj=>by
  have O:us.getD j 0∈us:=by rw[List.getD_eq_getElem?_getD,List.getElem?_eq_getElem hj];exact List.getElem_mem _
  have:=List.all_eq_true.1 c4 _ O;simp only[Bool.and_eq_true,Bool.not_eq_true']at this;exact⟨by(have h:us.getD j 0+1<=l.length:=by simpa [Nat.blt] using this.1);omega,this.2⟩
 have a5:∀ k,(us.any λj=>Nat.beq j k)=true->∃ j,j<us.length/\us.getD j 0=k:=λk hk=>by
  rw[List.any_eq_true]at hk;obtain⟨u,hu,e⟩:=hk;have e:=Nat.eq_of_beq_eq_true e;subst e;exact Jgn hu
 have a8:∀ a:Act,Fr n al a->Fr n (slM (λj=>a.tmps.getD (ds.getD j 0) undef) al ds 0) a:=λa ha=>⟨ha.size,ha.defers,λt v h=>by
  by_cases O:t∈ds
  .obtain⟨j,hj,e⟩:=Jgn O;rw[<-e,Jqk hN hj]at h;simp only[Nat.zero_add,Option.some.injEq]at h;rw[<-e];exact h
  rw[Jwm O]at h;exact ha.has t v h⟩
 suffices key:∀(L:Nat) (ps:List Nat) (C:Array Bool) (a:Act) (w1:World),ps.length=L->ps.Nodup->(∀ j∈ps,j<us.length)->(∀ j,j<us.length->(C.getD (us.getD j 0) true=false↔j∈ps))->(∀ k,k<l.length->(∀ j,j<us.length->us.getD j 0≠k)->C.getD k true=st.getD k true)->C.size=l.length->Closed l.toArray C->Fr n al a->Ext w w1 ->
   (∀ j,j<us.length->j ∉ ps->fiM Fs j (a.tmps.getD (ds.getD j 0) undef) w1)->Vm P l.toArray Q T (L+fuel') C a w1 by
  have:=key us.length (List.range us.length) st a w List.length_range List.nodup_range (λj hj=>List.mem_range.1 hj) (λj hj=>⟨λ_=>List.mem_range.2 hj,λ_=>(U j hj).2⟩) (λk _ _=>rfl) ar a1 ha (Ext.refl w) λj hj h=>absurd (List.mem_range.2 hj) h;rwa [b3]at this
 intro L;induction L with
 | zero=>
  intro ps C a w1 hL hu Z J a6 ae a1 ha hx hf;have am:ps=[]:=List.length_eq_zero_iff.1 hL;subst am;have e:C=st':=by
   refine Array.ext_getElem? λi=>?_;by_cases hi:i<l.length
   .have h7:=List.all_eq_true.1 c7 i (List.mem_range.2 hi);rw[beq_iff_eq]at h7;have h8:C.getD i true=st'.getD i true:=by
     rw[h7];by_cases O:∃ j,j<us.length/\us.getD j 0=i
     .obtain⟨j,hj,e⟩:=O;have D:=J j hj;rw[e]at D;have G:C.getD i true=true:=by
       cases hh:C.getD i true with
       | true=>rfl
       | false=>exact absurd (D.1 hh) (by simp)
      rw[G];symm
      rw[Bool.or_eq_true];right
      rw[List.any_eq_true];refine⟨us.getD j 0,?_,by rw[e];simp⟩;rw[List.getD_eq_getElem?_getD,List.getElem?_eq_getElem hj];exact List.getElem_mem _
     have D:∀ j,j<us.length->us.getD j 0≠i:=λj hj e=>O ⟨j,hj,e⟩;rw[a6 i hi D];have G:(us.any λj=>Nat.beq j i)=false:=by
      cases hh:us.any λj=>Nat.beq j i with
      | false=>rfl
      | true=>exact absurd (a5 i hh) O
     rw[G,Bool.or_false]
    have h9:i<C.size:=om
    have a4:i<st'.size:=om
    simp[h9,a4]at h8;simp[h9,a4,h8]
   rw[Array.getElem?_eq_none om,Array.getElem?_eq_none om]
  rw[Nat.zero_add,e];rw[e]at a1;exact Uw _ w1 hx (λj hj=>hf j hj (by simp)) a1 a (a8 a ha)
 | succ L ih=>
  intro ps C a w1 hL hu Z J a6 ae a1 ha hx hf;by_cases hq0:∀ p∈ps,us.getD p 0=q
  .have b6:L=0:=by
    rcases Nat.eq_zero_or_pos L with h|h
    .exact h
    exfalso
    obtain⟨x,y,r,rfl⟩:∃ x y r,ps=x::y::r:=by
     match ps,hL with
     | [],h'=>simp at h'
     | [x],h'=>simp at h';omega
     | x::y::r,_=>exact⟨x,y,r,rfl⟩
    have D:=hq0 x (by simp);have G:=hq0 y (by simp);have h3:=Jgk hU (Z x (by simp)) (Z y (by simp)) (by rw[D,G]);have:=(List.nodup_cons.1 hu).1;rw[h3]at this;exact this (by simp)
   subst b6;obtain⟨p,rfl⟩:∃ p,ps=[p]:=List.length_eq_one_iff.1 om;have a9:=hq0 p (by simp);have aj:=Z p (by simp);have ag:=(U p aj).1;rw[a9]at ag;have e:C=st'.setIfInBounds q false:=by
    refine Array.ext_getElem? λi=>?_;by_cases hi:i<l.length
    .have h7:=List.all_eq_true.1 c7 i (List.mem_range.2 hi);rw[beq_iff_eq]at h7;have h8:C.getD i true=(st'.setIfInBounds q false).getD i true:=by
      by_cases hiq:i=q
      .have D:=(J p aj).2 (by simp);rw[a9]at D;rw[hiq,D];have:q<st'.size:=om
       simp[this]
      have a4:(st'.setIfInBounds q false).getD i true=st'.getD i true:=by
       have h9:i<st'.size:=om
       simp[h9,Ne.symm hiq]
      rw[a4,h7];by_cases O:∃ j,j<us.length/\us.getD j 0=i
      .obtain⟨j,hj,e⟩:=O;have D:=J j hj;rw[e]at D;have G:C.getD i true=true:=by
        cases hh:C.getD i true with
        | true=>rfl
        | false=>
         have:=List.mem_singleton.1 (D.1 hh);rw[this,a9]at e;exact absurd e.symm hiq
       rw[G];symm
       rw[Bool.or_eq_true];right
       rw[List.any_eq_true];refine⟨us.getD j 0,?_,by rw[e];simp⟩;rw[List.getD_eq_getElem?_getD,List.getElem?_eq_getElem hj];exact List.getElem_mem _
      have D:∀ j,j<us.length->us.getD j 0≠i:=λj hj e=>O ⟨j,hj,e⟩;rw[a6 i hi D];have G:(us.any λj=>Nat.beq j i)=false:=by
       cases hh:us.any λj=>Nat.beq j i with
       | false=>rfl
       | true=>exact absurd (a5 i hh) O
      rw[G,Bool.or_false]
     have h9:i<C.size:=om
     have a4:i<(st'.setIfInBounds q false).size:=by rw[Array.size_setIfInBounds];omega
     rw[Array.getElem?_eq_getElem h9,Array.getElem?_eq_getElem a4];rw[Array.getD,Array.getD,dif_pos h9,dif_pos a4]at h8;exact congrArg some h8
    rw[Array.getElem?_eq_none om,Array.getElem?_eq_none (by rw[Array.size_setIfInBounds];omega)]
   rw[show 0+1+fuel'=fuel'+1 by omega,e];rw[e]at a1;exact hend2 ag _ w1 hx (λj hj hq=>hf j hj (λh=>hq (by rw[List.mem_singleton.1 h];exact a9))) a1 a (a8 a ha)
  obtain⟨p0,a7,ai⟩:∃ p,p∈ps/\us.getD p 0≠q:=by
   refine Classical.byContradiction λh=>hq0 λp hp=>Classical.byContradiction λG=>h ⟨p,hp,G⟩
  rw[show L+1+fuel'=(L+fuel')+1 by omega];refine⟨λhr=>?_,λi hi=>?_⟩
  .exfalso
   obtain⟨p,hp,an⟩:∃ p,p∈ps/\∀ q∈ps,us.getD p 0<=us.getD q 0:=by
    have:∀ s p,p∈ps->us.getD p 0<s->∃ p,p∈ps/\∀ q∈ps,us.getD p 0<=us.getD q 0:=by
     intro s;induction s with
     | zero=>intro p _ h;omega
     | succ s ihs=>
      intro p hp ah;by_cases h:∃ q,q∈ps/\us.getD q 0<us.getD p 0
      .obtain⟨q,hq,b8⟩:=h;exact ihs q hq om
      exact⟨p,hp,λq hq=>by
       rcases Nat.lt_or_ge (us.getD q 0) (us.getD p 0) with h'|h'
       .exact absurd ⟨q,hq,h'⟩ h
       exact h'⟩
    exact this (us.getD p0 0+1) p0 a7 om
   have a2:=Z p hp;obtain⟨b9,_⟩:=U p a2;have ay:=(J p a2).2 hp;have af:us.getD p 0∈Region.ready .any l.toArray C:=by
    refine mem_ready.2 ⟨ay,l[us.getD p 0],by simp,λe he hb=>?_⟩;have O:us.getD p 0∈us:=by rw[List.getD_eq_getElem?_getD,List.getElem?_eq_getElem a2];exact List.getElem_mem _
    have D:=List.all_eq_true.1 c5 _ O;have hn:nth l (us.getD p 0)=some l[us.getD p 0]:=by rw[Xb];simp
    rw[hn]at D;simp only[Array.all_eq_true_iff_forall_mem,Bool.or_eq_true,Bool.not_eq_true',Bool.and_eq_true]at D;have G:=D e he;rw[hb]at G;have h5:C.getD e.on true=true/\e.on<C.size:=by
     rcases G with(G|⟨h3,G⟩)|⟨G,h3⟩
     .cases G
     .have aq:e.on<l.length:=by(have:e.on+1<=l.length:=by simpa [Nat.blt] using h3);omega
      refine⟨?_,om⟩;by_cases hm2:∃ j,j<us.length/\us.getD j 0=e.on
      .obtain⟨j,hj,e2⟩:=hm2;have:=(U j hj).2;rw[e2,G]at this;cases this
      rw[a6 _ aq λj hj e2=>hm2 ⟨j,hj,e2⟩];exact G
     obtain⟨j,hj,e2⟩:=a5 _ G;have aq:e.on<us.getD p 0:=by(have:e.on+1<=us.getD p 0:=by simpa [Nat.blt] using h3);(omega)
     refine⟨?_,om⟩;cases hh:C.getD e.on true with
     | true=>rfl
     | false=>
      rw[<-e2]at hh;have h6:=(J j hj).1 hh;have:=an j h6;omega
    have h6:=h5.2;have h7:=h5.1;simp[h6]at h7 ⊢;exact h7
   rw[hr]at af;cases af
  obtain⟨ab,o,ho,ap⟩:=mem_ready.1 hi;have ad:l[i]?=some o:=by simpa using ho
  have ao:i<l.length:=(List.getElem?_eq_some_iff.1 ad).1;obtain⟨p,a2,au⟩:∃ j,j<us.length/\us.getD j 0=i:=by
   refine Classical.byContradiction λak=>?_;have D:=List.all_eq_true.1 c6 i (List.mem_range.2 ao);simp only[Bool.or_eq_true]at D;have G:=a6 i ao λj hj e=>ak ⟨j,hj,e⟩;rcases D with(D|D)|D
   .rw[D]at G;rw[G]at ab;cases ab
   .exact ak (a5 i D)
   have O:us.getD p0 0∈us:=by rw[List.getD_eq_getElem?_getD,List.getElem?_eq_getElem (Z p0 a7)];exact List.getElem_mem _
   have h3:=List.all_eq_true.1 D _ O;rw[Bool.or_eq_true]at h3;have h3:=h3.resolve_left λh=>ai (Nat.eq_of_beq_eq_true h);have h4:=Jxn a1 F i (us.getD p0 0) o ho (Jxm ho hi) h3;have h5:=(J p0 (Z p0 a7)).2 a7;have h6:us.getD p0 0<C.size:=by have:=(U p0 (Z p0 a7)).1;omega
   generalize us.getD p0 0=k0 at h4 h5 h6
   simp[h6]at h4 h5;rw[h4]at h5;cases h5
  subst au;have ah:=(J p a2).1 ab;have hO:=GoS.get hop a2 (by rw[Xb];exact ad);rw[Nat.zero_add]at hO;have hW:=hO (λj=>a.tmps.getD (ds.getD j 0) undef) w1 hx λj hj hk=>by
   unfold Jvf at hk;rw[Array.any_eq_true']at hk;obtain⟨e,he,D⟩:=hk;simp only[Bool.and_eq_true,beq_iff_eq]at D;have G:=ap e he D.1;rw[D.2]at G;have h3:us.getD j 0<C.size:=by have:=(U j hj).1;omega
   refine hf j hj λaz=>?_;have h4:=(J j hj).2 az;generalize us.getD j 0=k0 at G h3 h4
   simp[h3]at G h4;rw[G]at h4;cases h4
  have D:=Jnk (Q:=Q) (ops:=l.toArray) (by simpa using ad) hW a (a8 a ha);refine wpOp_mono (λa' w' h=>?_) D;obtain⟨v,a3,aa,hF⟩:=h;have b5:lk ((ds.getD p 0,v)::slM (λj=>a.tmps.getD (ds.getD j 0) undef) al ds 0) (ds.getD p 0)=some v:=Jzl _ _ _;have b2:ds.getD p 0∈ds:=by rw[List.getD_eq_getElem?_getD,List.getElem?_eq_getElem om];exact List.getElem_mem _
  refine⟨λ_=>aa,ih (ps.erase p) _ a' w' (by rw[List.length_erase_of_mem ah,hL];omega) (hu.erase p) (λj hj=>Z j (hu.mem_erase_iff.1 hj).2) (λj hj=>?_) (λk D G=>?_) (by simp[ae]) (a1.step hi) ?_ (hx.trans aa) λj hj b1=>?_⟩
  .by_cases e:p=j
   .subst e;have:us.getD p 0<C.size:=om
    simp only[hu.mem_erase_iff];simp
   rw[getD_set_ne true (λe2=>e (Jgk hU a2 hj e2)),J j hj,hu.mem_erase_iff];exact⟨λh=>⟨λh'=>e h'.symm,h⟩,λh=>h.2⟩
  .rw[getD_set_ne true (G p a2)];exact a6 k D G
  .refine⟨a3.size,a3.defers,λt u ac=>?_⟩;have O:t ∉ ds:=λO=>by rw[b4 t O]at ac;cases ac
   exact a3.has t u (by rw[Kn _ _ (λe=>O (by rw[<-e];exact b2)),Jwm O];exact ac)
  by_cases e:j=p
  .subst e;rw[a3.has _ _ b5];exact hF
  have ax:j ∉ ps:=λh=>b1 (hu.mem_erase_iff.2 ⟨e,h⟩);have av:ds.getD p 0≠ds.getD j 0:=λh=>e (Jgk hN om om h.symm);have h3:=a3.has (ds.getD j 0) _ (by rw[Kn _ _ av];exact Jqk hN om);simp only[Nat.zero_add]at h3;rw[h3];exact(hf j hj ax).ext aa
end
end Go.Wk
namespace Go.Proofs.YtgobkbeokaaplaaGreatDoor
open Go.RowKit Pl Go.Wk
attribute [local irreducible] WC WL QX WD WDB WP WN WG WH WM
variable {cs:List Value}{b n st t:Nat}{cu v x:Value}{w:World}
theorem Qnp(h:NatV w v n)(hB:Blk w b t cs)(hs:∀ u∈cs,∀ z,u≠.int .u32 z): Off (λk=>k=b) w λu=>NatV u v n:=by
 obtain⟨A,c,rfl,j,G,D⟩:=h;refine(Jwc D λh0 C e (e2:C.block=b)=>?_).imp λu J=>⟨A,c,rfl,j,G,J⟩;obtain⟨Z,o,O,i⟩:=D.2 h0;rw[e]at o;injection o with o
 subst o;rw[Qyg]at h0;have j:=i 0 _ (Zf h0);rw[add_zero]at j;have G:=World.cell?_spot j;have U:C=⟨b,C.off,none⟩:=by
  obtain⟨qb,qo,qs⟩:=C;grind
 rw[U,hB.cell]at j;grind
theorem CuV.off{p:Nat}(h:CuV w x cu p st)(hB:Blk w b t cs)(hs:∀ u∈cs,∀ z,u≠.int .u32 z): Off (λk=>k=b) w λu=>CuV u x cu p st:=by
 obtain⟨A1,A2,A3,A4,A5,D,C,o,j,i,c1,c2,c3,c4,Z,pv,U,O,J⟩:=h;exact(Qnp J hB hs).imp λu G=>⟨A1,A2,A3,A4,A5,D,C,o,j,i,c1,c2,c3,c4,Z,pv,U,O,G⟩
theorem CuV.parts{A B C D E:Option Addr}{a c d e a' b' c' d' e':Nat}{p:Nat}(h:CuV w (.agg #[.slice A a a',.slice B b b',.slice C c c',.slice D d d',.slice E e e']) cu p st):
  ∃ Q q,cu=.agg #[.slice A a a',.slice B b b',.slice C c c',.slice D d d',.slice E e e',.slice Q (Jq p).length q,.int .i64 (st:Int)]:=by
 obtain⟨A1,A2,A3,A4,A5,J,G,u,o,j,c1,c2,c3,c4,Z,pv,U,O,i⟩:=h;obtain⟨Q,q,rfl,_⟩:=id i;grind
theorem FewS.p{c:Cse}(h:FewS c): FewP c:=⟨h.row,h.cnt,.inl h.n6,h.v5,h.r5⟩
def SF.of(b n:Nat)(p:World->Value->Prop): SF:=⟨λv w=>∃ A c,v=.slice A n c/\Off (λk=>k=b) w λu=>p u v,λ⟨A,c,e,h1⟩ hx=>⟨A,c,e,h1.ext hx⟩⟩
theorem RowsV.off{L:List Row}(h:RowsV w v L)(hf:∀ ad m c,v=.slice (some ad) m c->ad.block≠b)(hB:Blk w b t cs)(hs:∀ u∈cs,∀ s,u≠.string s): Off (λk=>k=b) w λu=>RowsV u v L:=by
 obtain⟨ps,A,c,rfl,rfl,G,D,C,o⟩:=h;exactλW i=>⟨ps,A,c,rfl,rfl,G,D,Vn C i (λ_ ad e=>hf ad _ _ (by rw[e])),λp j=>by
  obtain⟨A',c',Z,U,O,J⟩:=o p j;exact⟨A',c',Z,U,O,(Qgn J hB hs) W i⟩⟩
end Go.Proofs.YtgobkbeokaaplaaGreatDoor
namespace Go.Proofs.YtgobkbeokaaplaaGreatDoor
open Go.RowKit Pl Go.Wk
namespace Pl
variable {m:Nat}
def rkS(X:IX)(ds:List Bool)(q:Row): Nat->Nat
 | 0=>0
 | m+1=>rkS X ds q m+bef (ds.getD m false) (q.getD m V0) (X.E m (X.key m (q.take m)))*X.others m (q.take m)
section
variable {X:IX} {ds:List Bool} {q:Row}
theorem Jfl(h:X.Srt ds)(hm:m<q.length)(hg:X.Gp (q.take m)): X.Gp (q.take (m+1))↔q.getD m V0∈(X.E m (X.key m (q.take m))).map (·.1):=by
 have j:(q.take m).length=m:=by grind
 have e:q.take (m+1)=q.take m++[q.getD m V0]:=by grind [List.take_succ_eq_append_getElem,List.getD]
 constructor
 .intro i;have o:=i m (by grind);grind
 repeat grind [AX.Gp.snoc]
theorem rk_inv(h:X.Srt ds)(hok:X.Ok)(hq:q.length<=X.F): ∀ m,m<=q.length->X.Gp (q.take m)->Xt ds (X.ext X.F []) q=rkS X ds q m+Xt ds (X.ext (X.F-m) (q.take m)) q
 | 0,_,_=>by simp[rkS]
 | m+1,hm,hg=>by
  have hg':X.Gp (q.take m):=by
   have:=hg.pre m;grind
  have hl:(q.take m).length=m:=by grind
  have ih:=rk_inv h hok hq m om hg';have hmem:=(Jfl h om hg').1 hg;have e:X.F-m=(X.F-(m+1))+1:=om
  have h1:=h.cnt_step hok (n:=X.F-(m+1)) (y:=q.take m) (q:=q) (by rw[hl];omega) hq (by rw[hl];omega) (by rw[hl]);grind [V0,List.take_succ_eq_append_getElem,List.getD,rkS]
theorem rk_stop(h:X.Srt ds)(hok:X.Ok)(hq:q.length<=X.F)(hm:m<q.length)(hg:X.Gp (q.take m))(hn:¬ X.Gp (q.take (m+1))): Xt ds (X.ext X.F []) q=rkS X ds q (m+1):=by
 have j:(q.take m).length=m:=by grind
 have e:X.F-m=(X.F-(m+1))+1:=om
 have o:=h.cnt_step hok (n:=X.F-(m+1)) (y:=q.take m) (q:=q) (by rw[j];omega) hq (by rw[j];omega) (by rw[j]);rw[j]at o;rw[if_neg λi=>hn ((Jfl h hm hg).2 i)]at o;rw[rk_inv h hok hq m om hg,e,o,rkS,Nat.add_zero]
theorem rk_end(h:X.Srt ds)(hok:X.Ok)(hq:q.length<=X.F)(hg:X.Gp q): Xt ds (X.ext X.F []) q=rkS X ds q q.length:=by
 have:=rk_inv h hok hq q.length (nR _) (by grind);rw[this,List.take_length,AX.cnt_end,Nat.add_zero]
end
end Pl
theorem Xqt(ds:List Bool)(L:List Row)(q:Row): Xt ds L q<=L.length:=List.length_filter_le _ _
section
variable {f:Nat} {ds:List Bool} {kf:Nat->Nat} {pf:Nat->Int} {BB:Nat->List BkT} {tot:Nat} {L:List Row}
theorem IxP.rk_inv(ip:IxP f ds kf pf BB tot L)(ne:tot≠0){q:Row}(hq:q.length<=f){m:Nat}(hm:m<=q.length)(hg:(Qs f kf pf BB).Gp (q.take m)): rkS (Qs f kf pf BB) ds q m<=L.length:=by
 have j:=Pl.rk_inv (ip.srt ne) (ip.ok ne) (q:=q) hq m hm hg;have i:=Xqt ds L q;rw[ip.ans ne]at i ⊢;grind [Qs,kf]
theorem IxP.rk_stop(ip:IxP f ds kf pf BB tot L)(ne:tot≠0){q:Row}(hq:q.length<=f){m:Nat}(hm:m<q.length)(hg:(Qs f kf pf BB).Gp (q.take m))(hn:¬ (Qs f kf pf BB).Gp (q.take (m+1))): Xt ds L q=rkS (Qs f kf pf BB) ds q (m+1):=by
 rw[ip.ans ne];exact Pl.rk_stop (ip.srt ne) (ip.ok ne) hq hm hg hn
theorem IxP.rk_end(ip:IxP f ds kf pf BB tot L)(ne:tot≠0){q:Row}(hq:q.length<=f)(hg:(Qs f kf pf BB).Gp q): Xt ds L q=rkS (Qs f kf pf BB) ds q q.length:=by
 rw[ip.ans ne];exact Pl.rk_end (ip.srt ne) (ip.ok ne) hq hg
theorem IxP.wi_len(ip:IxP f ds kf pf BB tot L)(ne:tot≠0){y:Row}(hy:y.length<=f)(hg:(Qs f kf pf BB).Gp y): (wiL L y).length=(Qs f kf pf BB).pend y.length y:=by
 rw[ip.wi_some ne hy hg];exact(ip.ok ne).ext_len _ y (by show y.length+(f-y.length)=f;omega)
end
open Go.RowKit Pl Go.Wk
section
variable {ds:List Bool} {L:List Row} {p:Row}
theorem Xqs{f:Nat}(hl:∀ x∈L,x.length=f)(hp:p.length=f): Xt ds L p=(L.filter λx=>decide (Jw x p ds<0)).length:=by grind [Xt,List.filter_congr,List.take_length]
end
open Go.RowKit Pl Go.Wk
attribute [local irreducible] WC WL QX WD WDB WP WN WG WH WM
variable {M' b b2 b3 b5 b6 k pc:Nat}{PA:Option Addr}{q:Row}
structure RkM(K:SeK)(w:World)(y:Row)(S:Nat->Bool)(M m:Nat)(fm:Lit->Option Value): Prop where
 gr:GrN (λk=>k=K.mb) K.w1 w
 map:MapS Tryz.prog 3 w K.mb m fm
 mle:m<=M
 pd:PdF K y S fm
def RkV(K:SeK)(w:World)(y:Row)(S:Nat->Bool)(M:Nat): Prop:=∃ m fm,RkM K w y S M m fm
structure RkB(K:SeK)(b2 b3 b5 b6:Nat)(PA:Option Addr)(pc:Nat)(q:Row): Prop where
 x:Blk K.w1 b2 55 [K.x0,K.x1,K.x2,K.x3,K.x4]
 p:Blk K.w1 b3 59 [.slice PA q.length pc]
 b:Blk K.w1 b5 51 [.slice K.BA K.f K.bc]
 m:Blk K.w1 b6 239 [.map (some K.mb)]
 n2:b2≠K.mb
 n3:b3≠K.mb
 n5:b5≠K.mb
 n6:b6≠K.mb
 row:RdR K.w0 PA q
 le:q.length<=pc
section
variable {K:SeK} {w w':World} {y:Row} {S:Nat->Bool} {M m:Nat} {fm:Lit->Option Value}
theorem RkM.ext(h:RkM K w y S M m fm)(hx:Ext w w'): RkM K w' y S M m fm:=⟨h.gr.trans (GrN.ext hx),h.map.ext hx,h.mle,h.pd⟩
theorem RkV.ext(h:RkV K w y S M)(hx:Ext w w'): RkV K w' y S M:=by obtain⟨m,fm,h⟩:=h;exact⟨m,fm,h.ext hx⟩
theorem RkV.same{S':Nat->Bool}(h:RkV K w y S M)(e:∀ c,c<K.f->S c=S' c): RkV K w y S' M:=by
 obtain⟨m,fm,h⟩:=h;refine⟨m,fm,⟨h.gr,h.map,h.mle,λc i o=>h.pd.1 c i ((e c i).trans o),λj u=>?_⟩⟩;obtain⟨c,G,D,C⟩:=h.pd.2 j u;grind
theorem RkV.more(h:RkV K w y S M)(hM:M<=M'): RkV K w y S M':=by
 obtain⟨m,fm,h⟩:=h;exact⟨m,fm,h.gr,h.map,Nat.le_trans h.mle hM,h.pd⟩
theorem RkV.gr(h:RkV K w y S M): GrN (λk=>k=K.mb) K.w1 w:=by obtain⟨m,fm,h⟩:=h;exact h.gr
theorem RkV.off(h:RkV K w y S M)(hg:GrN (λk=>k=b) w w')(hb:K.w1.heap.size<=b)(hF:SeF K): RkV K w' y S M:=by
 obtain⟨m,fm,h⟩:=h;refine⟨m,fm,?_,h.map.gr hg λe=>by have:=hF.m2;omega,h.mle,h.pd⟩;exact((h.gr.mono λk _ h=>(.inl h:k=K.mb∨k=b)).trans (hg.mono λk _ h=>.inr h)).mono λk i h=>h.elim id λe=>by omega
theorem RkV.app(h:RkV K w y S M)(hF:SeF K)(hS:∀ c,c<K.f->S c=true->K.pf c<(y.length:Int))(z:Row): RkV K w (y++z) S M:=by
 obtain⟨m,fm,h⟩:=h;exact⟨m,fm,h.gr,h.map,h.mle,h.pd.app hF hS z⟩
theorem Qqs(hq:k<=q.length): (q.take k).length=k:=by grind
def SF.key(K:SeK)(c:Nat)(y:Row): SF:=⟨λv w=>RowV w v (pmR (bk (K.kf c) 32) y),λh hx=>h.ext hx⟩
def SF.tr(K:SeK)(c:Nat)(y:Row): SF:=⟨λv _=>∃ d p,v=.tuple #[.agg #[.bool d,.pointer p],.bool (Zr (K.BB c) (pmR (bk (K.kf c) 32) y)).isSome]/\TrV (λ_=>False) K.w0 (K.t c y) (.pointer p)/\(K.t c y≠.nil->d=K.ds.getD c false),λh _=>h⟩
def SF.tr2(K:SeK)(c:Nat)(y:Row): SF:=⟨λv _=>∃ d p,v=.agg #[.bool d,.pointer p]/\TrV (λ_=>False) K.w0 (K.t c y) (.pointer p)/\(K.t c y≠.nil->d=K.ds.getD c false),λh _=>h⟩
def SF.tbox(s:Nat): SF:=⟨λv w=>∃ b,v=.pointer (some ⟨b,0,none⟩)/\s<=b/\Blk w b 76 [.bool false,.pointer none],λ⟨b,e,h1,h2⟩ hx=>⟨b,e,h1,h2.ext hx⟩⟩
theorem Jss(hF:SeF K)(hb:RkB K b2 b3 b5 b6 PA pc q)(hV:RkV K w (q.take k) S M)(hM:M<=4096)(hg:K.X.Gp (q.take k))(hkq:k<=q.length)(hkf:k<=K.f){v:Int}(hv:v+1=(k:Int)):
  Ret Tryz.prog 148 [.int .i64 v,.pointer (some ⟨b5,0,none⟩),.pointer (some ⟨b2,0,none⟩),.pointer (some ⟨b3,0,none⟩),.pointer (some ⟨b6,0,none⟩)] w λu w'=>u=.tuple #[]/\GrN (λk=>k=K.mb) w w'/\RkV K w' (q.take k) (λc=>S c || decide (K.pf c=v)) (M+K.f):=by
 have bf:=hF.ip.f32;have a6:=Qqs hkq;refine enE Tryz.func148 Tryz.ntmps148 ?_;refine ldR ((Jb hb.b hV.gr hb.n5).at (i:=0) rfl) ?_;refine ρ ?_;refine Qy (fun (c:Nat)=>[(0,.int .i64 v),(2,.pointer (some ⟨b2,0,none⟩)),(3,.pointer (some ⟨b3,0,none⟩)),(4,.pointer (some ⟨b6,0,none⟩)),(10,.slice K.BA K.f K.bc),(11,.int .i64 (K.f:Int)),(12,.int .i64 (c:Int))])
  (λc w'=>c<=K.f/\GrN (λk=>k=K.mb) w w'/\RkV K w' (q.take k) (λj=>S j || (decide (j<c) && decide (K.pf j=v))) (M+c)) (λc=>K.f-c) 0 sB
  ⟨Nat.zero_le _,GrN.refl _ _,hV.same λc _=>by simp⟩ ?_
 rintro c w1 ⟨hc,a9,a2⟩;refine ciR (λh=>?_) (λh=>?_)
 .have lc:c<K.f:=by have:=oT h;omega
  clear h;have am:=hF.bg w1 a2.gr;refine Qp 3 c am lc ?_;refine Js (cs:=Qr K.kf K.pf c) (Qwx am lc) ?_;refine Jv Jkk ?_;intro w2 bb ay b4 be;refine Qb (cs':=Qr K.kf K.pf c) be ?_ Jxz;intro w3 au ai ax;have G:Ext w1 w3:=ax w1 ay b4;refine ldR (au.at (i:=2) rfl) ?_;refine ciR (λh=>?_) (λh=>?_)
  .have hp:K.pf c=v:=Zx h;clear h;have a7:Ext w3 w3.drew:=(Ext.refl w3).drew;have ap:=a2.ext G;have aa:=ap.ext a7;have J:=hF.ext aa.gr;have a3:=Jb hb.x aa.gr hb.n2;have bd:=Jb hb.p aa.gr hb.n3;have ae:RdR w3.drew PA (q.take k):=by
    have:=(Rd.ext hb.row J).take (m:=k) hkq;rw[Jfh q hkq]at this;show Rd _ 3 PA (q.take k).length _;rw[a6];exact this
   have az:=hF.ip.keyb hF.ne lc (m:=k) (by rw[hp];omega);have aj:=hF.ip.fitK hg c;have ak:∀ {d:Bool},((Zr (K.BB c) (pmR (bk (K.kf c) 32) (q.take k))).isSome=true->d=K.ds.getD c false)->K.t c (q.take k)≠.nil->d=K.ds.getD c false:=fun {d} h hne=>h (by
    cases hi:Zr (K.BB c) (pmR (bk (K.kf c) 32) (q.take k)) with
    | none=>exact absurd (Jhr hi) hne
    | some i=>rfl)
   refine ρ ?_;refine drH (λi=>Nat.ble 14 i) ?_;refine Jwt 2 (lst 16 14) (fun (y:Bool×Option Addr×Nat)=>[(32,.agg #[.bool y.1,.pointer y.2.1]),(33,.bool (Zr (K.BB c) (pmR (bk (K.kf c) 32) (q.take k))).isSome),(8,.pointer (some ⟨y.2.2,0,none⟩)),(0,.int .i64 v),(2,.pointer (some ⟨b2,0,none⟩)),(3,.pointer (some ⟨b3,0,none⟩)),(4,.pointer (some ⟨b6,0,none⟩)),(6,.int .i64 (c:Int)),(10,.slice K.BA K.f K.bc),(11,.int .i64 (K.f:Int)),(12,.int .i64 (c:Int))])
    (λy W=>Ext w3.drew W/\Blk W y.2.2 76 [.bool false,.pointer none]/\w3.drew.heap.size<=y.2.2/\TrV (λ_=>False) K.w0 (K.t c (q.take k)) (.pointer y.2.1)/\(K.t c (q.take k)≠.nil->y.1=K.ds.getD c false)) ?_ ?_
   rotate_left
   .intro rest;refine hmkSq 17 12 2 _ (lst 16 14) [0,1,2,3,4,5,6,7,8,9,10,11,12,13] [22,23,24,25,26,27,28,29,30,31,21,32,33,8] [SF.bk a3,SF.eq (.int .i64 (c:Int)),SF.bk a3,SF.eq (.int .i64 (c:Int)),SF.eq (.slice PA q.length pc),SF.eq (.int .i64 v),SF.eq (.int .i64 (k:Int)),SF.eq (.slice PA k pc),SF.key K c (q.take k),SF.tr K c (q.take k),SF.tr K c (q.take k),SF.tr2 K c (q.take k),SF.eq (.bool (Zr (K.BB c) (pmR (bk (K.kf c) 32) (q.take k))).isSome),SF.tbox w3.drew.heap.size] kr (by rfl) ?_ ?_ ?_
    .refine gsc (λvs O o C=>?_) ?_
     .simp only[slM];refine ldW (a3.ext o) ?_;refine ρ ?_;exact Yr (Ext.refl _) rfl
     refine gsc (λvs O o C=>?_) ?_
     .simp only[slM];refine ρ ?_;exact Yr (Ext.refl _) rfl
     refine gsc (λvs O o C=>?_) ?_
     .simp only[slM];refine ldW (a3.ext o) ?_;refine ρ ?_;exact Yr (Ext.refl _) rfl
     refine gsc (λvs O o C=>?_) ?_
     .simp only[slM];refine ρ ?_;exact Yr (Ext.refl _) rfl
     refine gsc (λvs O o C=>?_) ?_
     .simp only[slM];refine ld ((bd.ext o).at (i:=0) rfl) ?_;refine ρ ?_;exact Yr (Ext.refl _) rfl
     refine gsc (λvs O o C=>?_) ?_
     .simp only[slM];refine ρ ?_;exact Yr (Ext.refl _) rfl
     refine gsc (λvs O o C=>?_) ?_
     .have e5:vs 5=_:=C 5;simp only[slM,e5];refine ρ ?_;exact Yr (Ext.refl _) (congrArg (Value.int .i64) hv)
     refine gsc (λvs O o C=>?_) ?_
     .have e4:vs 4=_:=C 4;have e6:vs 6=_:=C 6;have:=hb.le;simp only[slM,e4,e6];refine slh k ?_;refine ρ ?_;exact Yr (Ext.refl _) rfl
     refine gsc (λvs O o C=>?_) ?_
     .have e2:vs 2=_:=C 2;have e3:vs 3=_:=C 3;have e7:vs 7=_:=C 7;simp only[slM,e2,e3,e7];have ah:=Jhf (hF.ix.ext (J.trans o)) lc (c:=pc) (Rd.ext ae o) (by have:=hb.le;omega) om (by rw[a6];exact az);rw[a6]at ah;refine cl ah ?_;rintro uk W ⟨⟨KA,kc,rfl,ag,af,a8,_⟩,hy⟩;exact Jd (Yr hy ⟨KA,kc,rfl,ag,af,a8⟩)
     refine gsc (λvs O o C=>?_) ?_
     .have e0:vs 0=_:=C 0;have e1:vs 1=_:=C 1;obtain⟨KA,kc,e8,ag,af,a8⟩:=C 8;simp only[slM,e0,e1,e8];refine cl (Jbp (hF.tb.ext (J.trans o)) (J.trans o) hF.ix lc a8 aj) ?_;rintro u W ⟨d,p,rfl,U,D,hy⟩;exact Jd (Yr hy ⟨d,p,rfl,U,ak D⟩)
     refine gsc (λvs O o C=>?_) ?_
     .obtain⟨d,p,e9,U,D⟩:=C 9;simp only[slM,e9];refine ρ ?_;exact Yr (Ext.refl _) ⟨d,p,rfl,U,D⟩
     refine gsc (λvs O o C=>?_) ?_
     .obtain⟨d,p,a1,U,D⟩:=C 10;simp only[slM,a1];refine ρ ?_;exact Yr (Ext.refl _) ⟨d,p,rfl,U,D⟩
     refine gsc (λvs O o C=>?_) ?_
     .obtain⟨d,p,a1,U,D⟩:=C 10;simp only[slM,a1];refine ρ ?_;exact Yr (Ext.refl _) rfl
     refine gsc (λvs O o C=>?_) gse
     simp only[slM];refine alc Vl ?_;intro W b9 hy b7 Z;exact Jd (Yr hy ⟨b9,rfl,Nat.le_trans o.size b7,Z⟩)
    .intro vs W hy hf;obtain⟨b9,ab,h9,Z⟩:=hf 13;obtain⟨d,p,ac,U,D⟩:=hf 11;have bh:vs 12=_:=hf 12;simp only[slM,ab,bh,ac];exact rest (d,p,b9) _ _ ⟨hy,Z,h9,U,D⟩ sB
    intro _ vs W hy hf;obtain⟨b9,ab,h9,Z⟩:=hf 13;obtain⟨d,p,ac,U,D⟩:=hf 11;obtain⟨d2,p2,a1,_,_⟩:=hf 10;simp only[slM,ab,ac,a1];refine Uk (fuel':=2) 12 kr kr rfl rfl ?_;refine ρp ?_;refine ρd ?_;refine Xy ?_;refine hlist (listed':=lst 16 14) kr ?_;exact rest (d,p,b9) _ _ ⟨hy,Z,h9,U,D⟩ sB
   rintro⟨d,p,b9⟩ W ⟨av,ar,an,U,C⟩;simp only at ar an U C;refine Zs (fuel':=0) 17 [(2,14),(2,15)] (lst 16 16) kr kr rfl ?_;refine Qj ?_;refine stW ar ?_;intro W2 aq bi ad;refine Jd (Qu ?_);refine Qj ?_;refine ρ ?_;refine Qu ?_;refine Zc (Xy ?_);refine Uw kr ?_;have a4:Ext w3 W2:=ad w3 (a7.trans av) (nL a7.size an);have b8:=ap.ext a4;obtain⟨m,fm,HW⟩:=id b8;refine ldR ((Jb hb.m HW.gr hb.n6).at (i:=0) rfl) ?_;refine Qq aq ?_;refine ρ ?_;refine mup KI HW.map (by have:=HW.mle;unfold maxLen;omega) (Jqm (c:=c) om) ?_;intro W3 ba ai;have a5:GrN (λk=>k=K.mb) W2 W3:=GrN.by ai λk hk=>by injection hk with hk;exact hk.symm
   have ao:RkV K W3 (q.take k) (λj=>(S j || (decide (j<c) && decide (K.pf j=v))) || decide (j=c)) (M+(c+1)):=⟨_,_,HW.gr.trans a5,ba,by have:=HW.mle;omega,HW.pd.put bf lc U C⟩;refine ρ ?_;refine Qw (c+1) sO ⟨lc,(a9.trans (GrN.ext (G.trans a4))).trans a5,ao.same λj _=>?_⟩ om;by_cases e:j=c
   .subst e;simp[hp]
   have:(decide (j<c+1))=decide (j<c):=by by_cases h1:j<c<;>simp[h1]<;>omega
   rw[this];simp[e]
  have hp:¬ K.pf c=v:=Xu h;clear h;refine ρ ?_;refine Qw (c+1) sO ⟨lc,a9.trans (GrN.ext G),((a2.ext G).same λj _=>?_).more om⟩ om;by_cases e:j=c
  .subst e;simp[hp]
  have:(decide (j<c+1))=decide (j<c):=by by_cases h1:j<c<;>simp[h1]<;>omega
  rw[this]
 have b1:c=K.f:=by have:=oF h;omega
 subst b1;clear h;refine ρ ?_;refine Ys ⟨rfl,a9,a2.same λj hj=>?_⟩;simp[hj]
theorem Jsr(hF:SeF K)(hb:RkB K b2 b3 b5 b6 PA pc q)(hV:RkV K w y S M):
  Ret Tryz.prog 149 [.pointer (some ⟨b6,0,none⟩)] w λu w'=>NatV w' u (K.X.prodS S y)/\Fresh w u/\Ext w w':=by
 have b7:=hF.ip.f32;obtain⟨m,fm,H⟩:=id hV;have a1:=Jb hb.m H.gr hb.n6;obtain⟨g,hg⟩:∃ g:(Lit->Bool)->Nat->Nat,g=λleft c=>if S c=true/\left (.int .i64 (c:Int))=false then K.X.T c y else 1:=⟨_,rfl⟩
 have ap:∀ left c,g left c<=4294967296^20:=λleft c=>by
  rw[hg];simp only;split
  .rw[K.T];exact hF.ip.big _ _
  repeat grind
 have an:∀ left,Nb (Jg K.f (g left)):=λleft=>Nb.pow (k:=K.f) (Jjw (Nat.pow_pos (by decide)) λc _=>ap left c) om;refine enE Tryz.func149 Tryz.ntmps149 ?_;refine clR (Jbf 1 (by decide) _) ?_;rintro G w1 ⟨a7,ab,D⟩;refine ldR ((a1.ext D).at (i:=0) rfl) ?_;refine ρ ?_;refine rngm KI (H.map.ext D) ?_;intro w2 r cnt U a6 ae;have lr:w.heap.size<=r:=nL D.size a6;refine ρ ?_;refine Zq (fun (left:Lit->Bool) (cnt:Nat) (G:Value)=>[(2,G),(7,.pointer (some ⟨r,0,none⟩))])
  (λleft cnt G w'=>Ext w w'/\RgS Tryz.prog 3 w' K.mb r m fm left cnt/\NatX (λk=>k=r) w' G (Jg K.f (g left))/\Fresh w G) (λ_ cnt _=>cnt) _ cnt G sB ⟨D.trans U,ae,?_,ab⟩ ?_
 .have e:Jg K.f (g λkl=>(fm kl).isSome)=1:=Jfs λc hc=>by
   rw[hg];simp only;rw[if_neg];rintro⟨h1,h2⟩;obtain⟨d,p,h3,_⟩:=H.pd.1 c hc h1;rw[h3]at h2;cases h2
  rw[e];exact(NatX.old (N:=λ_=>False) ⟨a7,λ_ _ _ _ _ h=>h⟩ λk hk=>.inr (by rw[hk];exact a6)).ext U
 clear a7 ab ae U D G cnt;rintro left cnt G w3 ⟨a3,av,Z,aq⟩;refine ρ ?_;refine nxtm KI av (λhl=>?_) (λkey v kl w4 af ay az aa ac ao a8 ar=>?_)
 .refine ρ ?_;have e:Jg K.f (g left)=K.X.prodS S y:=Gx λc hc=>by grind
  rw[e]at Z;exact Jj ⟨Z.1,aq,a3⟩
 obtain⟨c,hc,a5,rfl⟩:=H.pd.2 kl (by rw[aa];simp);obtain⟨d,p,J,ht,_⟩:=H.pd.1 c hc a5;rw[aa]at J;injection J with J
 subst J;have O:Ext w w4:=a8.old a3 λk hk=>by rw[hk];exact lr
 refine ρ ?_;refine entm ar ?_;refine Jv Vl ?_;intro w5 b5 ai au ax;refine Xn ax ?_;intro w6 a1 b1 ah;have o:Ext w4 w6:=ah w4 ai au;refine Qq a1 ?_;refine ρ ?_;have a4:Ext K.w0 w6:=(hF.ext H.gr).trans (O.trans o);refine cl (Jdg (ht.ext a4) (by rw[<-K.T];exact Nb.pow (k:=1) (by rw[Nat.pow_one,K.T];exact hF.ip.big _ _) om)) ?_;rintro ut w7 ⟨aj,b4,C⟩;have am:NatV w7 G (Jg K.f (g left)):=(((Z.gr a8).ext o).ext C).1;refine clR (Jzh am aj (an left).len (Nb.len (Nb.pow (k:=1) (by rw[Nat.pow_one];exact hF.ip.big _ _) om))) ?_;rintro ur w8 ⟨ak,a9,a2⟩;refine ρ ?_;refine Xq _ af ur sO ⟨((O.trans o).trans C).trans a2,((ac.ext o).ext C).ext a2,?_,λad m c e=>?_⟩ ao
 .have ag:r<w7.heap.size:=nM (ac.lt) (o.trans C).size;have e:Jg K.f (g λz=>left z && !z.sameKey (.int .i64 (c:Int)))=Jg K.f (g left)*(K.t c y).sum:=by
   rw[Jwf hc,Jwf (g:=g left) hc];have h1:g left c=1:=by grind
   have h2:g (λz=>left z && !z.sameKey (.int .i64 (c:Int))) c=(K.t c y).sum:=by
    rw[hg];simp only;rw[if_pos ⟨a5,by rw[WideAt.sameKey_self (Jbn om)];simp⟩,K.T]
   rw[h1,h2,Nat.one_mul,Nat.mul_comm];congr 1
   refine Gx λj hj=>?_;by_cases ej:j=c
   .rw[if_pos ej,if_pos ej]
   rw[if_neg ej,if_neg ej,hg];simp only;have:(Lit.int .i64 (j:Int)).sameKey (.int .i64 (c:Int))=false:=Maps.sameKey_ne λe'=>ej (Jbj e');grind
  rw[e];exact a9.x ak λk hk=>by rw[hk];exact ag
 exact nL (((O.trans o).trans C).size) (a9 ad m c e)
end
open Go.RowKit Pl Go.Wk
variable {B0 a b c m n pc:Nat}{q z:Row}{K:SeK}
def tt2: TT:=(173,{ desc:=.invalid,size:=4,offs:=[0,1,2,3] })::tt
theorem Qcf: TOk Tryz.prog tt2:=⟨⟨_,Tryz.underlying173,kr,kr⟩,Jjk⟩
instance (priority:=2000):Tab Tryz.prog tt2:=⟨Qcf,mixed⟩
theorem Jcr: Qa Tryz.prog 173=some (.agg #[.slice none 0 0,.slice none 0 0,.bool false,.int .i64 0]):=kr
theorem zBags: Qa Tryz.prog 51=some (.slice none 0 0):=kr
theorem zMapT: Qa Tryz.prog 239=some (.map none):=kr
theorem Jrd{g:Nat->Nat}(h:n<=m): Qc n g<=Qc m g:=by
 induction h with
 | refl=>exact nR _
 | step h ih=>rw[Qc];omega
theorem Jch(d:Bool)(v:V): ∀ t:Tr,Tr.befT d v t<=t.sum
 | .nil=>nR _
 | .node l a y r=>by
  have h1:=Jch d v l;have h2:=Jch d v r;rw[Tr.befT,Tr.sum];grind
theorem SeF.bef(hF:SeF K)(hc:c<K.f){d:Bool}(hd:K.t c z≠.nil->d=K.ds.getD c false)(v:V):
  Tr.befT d v (K.t c z)=bef (K.ds.getD c false) v (K.X.E c (K.X.key c z)):=by
 rw[K.E];by_cases h:K.t c z=.nil
 .rw[h];rfl
 have i:Jjg d (K.t c z).toL:=by
  rw[hd h,<-K.E];exact(hF.ip.srt hF.ne).srt c hc _
 rw[(Tr.befT_eq i).1,hd h]
theorem SeF.onb(hF:SeF K)(m:Nat)(z:Row): Nb (K.X.others m z):=by
 refine Nb.pow (k:=K.f) (Jjw (Nat.pow_pos (by decide)) λc _=>?_) hF.ip.f32;split
 .rw[K.T];exact hF.ip.big _ _
 repeat grind
theorem SeF.rk_le(hF:SeF K)(hq:q.length<=K.f)(hm:m<=q.length)(hg:K.X.Gp (q.take m)): Nb (rkS K.X K.ds q m) :=
 hF.ip.nbT.le (by have:=hF.ip.rk_inv hF.ne hq hm hg;rw[hF.ip.len];exact this)
def DsN(G:Row->Prop)(ds:List Bool)(T:Nat->Row->Tr)(q:Row)(st:Nat): Prop:=(G q/\st=rkN ds T q q.length)∨∃ j,j<q.length/\G (q.take j)/\¬ G (q.take (j+1))/\st=rkN ds T q (j+1)
theorem DsN.uniq{G:Row->Prop}{ds:List Bool}{T:Nat->Row->Tr}(hp:∀ y m,G y->G (y.take m))(h:DsN G ds T q a)(h':DsN G ds T q b): a=b:=by
 have key:∀ {i j:Nat},i<j->G (q.take j)->G (q.take (i+1)):=fun {i j} hij hg=>by
  have:=hp _ (i+1) hg;rwa [List.take_take,Nat.min_eq_left om]at this
 rcases h with⟨D,C⟩|⟨i,D,C,h3,h4⟩
 .rcases h' with⟨u,o⟩|⟨j,u,o,k3,k4⟩
  .rw[C,o]
  exact absurd (hp _ _ D) k3
 rcases h' with⟨u,o⟩|⟨j,u,o,k3,k4⟩
 .exact absurd (hp _ _ u) h3
 rcases Nat.lt_trichotomy i j with e|e|e
 .exact absurd (key e o) h3
 .rw[h4,k4,e]
 exact absurd (key e C) k3
section
variable {f:Nat} {ds:List Bool} {kf:Nat->Nat} {pf:Nat->Int} {BB:Nat->List BkT} {tot:Nat} {L:List Row}
theorem Xjv{w:World}{x:Value}{PA:Option Addr}(tb:TB B0 w)(ix:IxV w x f ds kf pf BB tot)(ip:IxP f ds kf pf BB tot L)(ne:tot≠0)(hq:RdR w PA q)(hqc:q.length<=pc)(hqf:q.length<=f):
  Ret Tryz.prog 92 [x,.slice PA q.length pc] w λu w'=>∃(bv cv:Value) (st:Nat),u=.agg #[bv,cv,.bool (decide (0<(wiL L q).length)),.int .i64 (st:Int)]/\NatV w' bv (Xt ds L q)/\NatV w' cv (wiL L q).length/\(st<=Qc f λv=>hmB (BB v))/\Ext w w'/\DsN (Qs f kf pf BB).Gp ds (kT kf BB) q st:=by
 obtain⟨DA,dc,BA,cb,KA,ck,g3,cp,tv,gj,ge,rfl,gt,gu,hD,hB,hK,hP,f4,gk⟩:=id ix.ex;obtain⟨TA,tc,rfl,_⟩:=id f4;have gz:=ip.f32;refine enE Tryz.func92 Tryz.ntmps92 ?_;refine bxR ?_;intro w1 b2 f2 gy cr;refine bxR ?_;intro w2 b3 b8 gx ei;refine Jv Jcr ?_;intro w3 b4 af gw eg;have d6:=f2.trans b8;have aj:=d6.trans af;refine Qq ((cr.ext b8).ext af) ?_;refine clR (Jhh (ix.ext aj)) ?_;rintro u w4 ⟨⟨A,c,rfl,hc,hR,hf⟩,a4⟩;refine Jv zBags ?_;intro w5 b5 f0 fl fz;refine ρ ?_;refine Ky fz ?_ rfl;intro w6 bs gn ez;have O:Ext w4 w6:=ez w4 f0 fl;refine ρ ?_;refine mkm 3 ?_;intro w7 mb d4 gm hM;refine Jv zMapT ?_;intro w8 b6 ey fk fy;refine ρ ?_;refine Ky fy ?_ rfl;intro w9 ed dm ew;have ah:Ext w7 w9:=ew w7 ey fk;have be:=d4.trans ah;have a3:=O.trans be;have bf:=aj.trans (a4.trans a3);have e9:=hM.ext ah;have ej:=((cr.ext b8).ext af).ext (a4.trans a3);have eh:=(ei.ext af).ext (a4.trans a3)
 have ef:=eg.ext (a4.trans a3);have ee:=bs.ext be;have gf:=hM.lt;have l1:=cr.lt;have l2:=ei.lt;have l3:=eg.lt;have l5:=bs.lt;have z1:=(b8.trans (af.trans (a4.trans O))).size;have z2:=(af.trans (a4.trans O)).size;have z3:=(a4.trans O).size;have z4:=O.size;have z7:=d4.size;have g5:=ah.size;have z0:=(aj.trans (a4.trans O)).size;have g7:=bf.size;obtain⟨K,ay⟩:∃ K:SeK,K=⟨B0,w,w9,mb,w9.heap.size,.slice DA f dc,.slice BA f cb,.slice KA f ck,.slice g3 f cp,.slice TA (Jq tot).length tc,A,c,f,ds,kf,pf,BB,tot,L⟩:=⟨_,rfl⟩;have e0:Off (λk=>k=mb) w9 (λu=>Rd u 3 A f (Qo f (Qr kf pf))):=Jwc (hR.ext a3) λh0 ad e (e2:ad.block=mb)=>by
  obtain⟨h4,e',fa⟩:=hR.2 h0;rw[e]at e';injection e' with e'
  have:=fa.1;rw[<-e']at this;omega
 have o:SeF K:=by
  subst ay;exact⟨tb,ix,ip,ne,bf,by show w.heap.size<=mb;omega,e9.lt,Nat.le_refl _,hc,e0,Qjd⟩
 have G:RkB K b2 b3 b5 b6 PA pc q:=by
  subst ay;exact⟨ej,eh,ee,ed,by show b2≠mb;omega,by show b3≠mb;omega,by show b5≠mb;omega,by show b6≠mb;omega,hq,hqc⟩
 have fq:RkV K w9 (q.take 0) (λ_=>false) 0:=by
  subst ay;exact⟨0,λ_=>none,GrN.refl _ _,e9,Nat.le_refl _,λc _ h=>(by cases h),λkl h=>absurd rfl h⟩
 have g0:K.f=f/\K.ds=ds/\K.kf=kf/\K.pf=pf/\K.BB=BB/\K.tot=tot/\K.L=L/\K.w1=w9/\K.w0=w/\K.mb=mb:=by subst ay;exact⟨rfl,rfl,rfl,rfl,rfl,rfl,rfl,rfl,rfl,rfl⟩
 obtain⟨rfl,rfl,rfl,rfl,rfl,rfl,rfl,f3,c4,bj⟩:=g0;clear ay;have df:∀ c,c<K.f->K.pf c<(c:Int):=λc hc=>(o.ip.par ne hc).2;have fd:K.X.Ok:=o.ip.ok ne;have fc:∀ v z,(K.t v z).ht<=hmB (K.BB v):=λv z=>Jpv _ _;have dj:∀ v z,(K.t v z).ht<=65536:=λv z=>nL (Tr.ht_le _) (o.ip.siz _ _);have bh:∀ v z,Nb (K.t v z).sum:=λv z=>Nb.pow (k:=1) (by rw[Nat.pow_one];exact o.ip.big _ _) om;have d9:∀ v z,(K.t v z).sz<=1000000:=λv z=>nL (o.ip.siz _ _) (by decide);refine Jv Jcr ?_;intro gb C ai fj ec;refine ρ ?_;refine clv (Jss (k:=0) o G (fq.ext ai) om (AX.Gp.nil) (Nat.zero_le _) (Nat.zero_le _) (v:=-1) rfl) ?_;rintro u ga ⟨rfl,au,ax⟩;have l9:=ec.lt;have g6:=ai.size;have n9:¬ C=K.mb:=by rw[bj];omega
 have n4:¬ b4=K.mb:=by rw[bj];omega
 have b1:=Jb ec au n9;have b7:=Jb (ef.ext ai) au n4;have cy:b4≠C:=om
 have cx:K.w1.heap.size<=C:=by rw[f3];exact fj
 refine ldR ((Jb G.p ax.gr G.n3).at (i:=0) rfl) ?_;refine ρ ?_;refine Zq (fun (i:Nat) (bv:Value) (st:Nat)=>[(4,.pointer (some ⟨b4,0,none⟩)),(6,.pointer (some ⟨b6,0,none⟩)),(7,.func (.func 148) #[] #[.pointer (some ⟨b5,0,none⟩),.pointer (some ⟨b2,0,none⟩),.pointer (some ⟨b3,0,none⟩),.pointer (some ⟨b6,0,none⟩)]),(8,.func (.func 149) #[] #[.pointer (some ⟨b6,0,none⟩)]),(9,.pointer (some ⟨C,0,none⟩)),(23,.slice PA q.length pc),(24,.int .i64 (q.length:Int)),(25,.int .i64 (i:Int))])
  (λi bv st w'=>i<=q.length/\K.X.Gp (q.take i)/\RkV K w' (q.take i) (pS K.pf i i) (32*(i+1))/\Blk w' C 173 [bv,.slice none 0 0,.bool false,.int .i64 (st:Int)]/\Blk w' b4 173 [.slice none 0 0,.slice none 0 0,.bool false,.int .i64 0]/\NatX (λk=>k=K.mb∨k=C∨k=b4) w' bv (rkS K.X K.ds q i)/\(st<=Qc i λv=>hmB (K.BB v))/\st<=65536*i/\st=rkN K.ds (kT K.kf K.BB) q i) (λi _ _=>q.length-i) 0 (.slice none 0 0) 0 sB
  ⟨Nat.zero_le _,AX.Gp.nil,?_,b1,b7,NatX.nil _,Nat.le_refl _,Nat.le_refl _,rfl⟩ ?_
 .refine(ax.same λc hc=>?_).more om;have:=o.ip.par ne hc;unfold pS;rw[Bool.eq_iff_iff];simp only[Bool.or_eq_true,Bool.and_eq_true,decide_eq_true_eq];constructor
  .rintro(h|h)
   .cases h
   exact⟨Nat.zero_le _,om⟩
  rintro⟨_,h⟩;right;omega
 clear b1 b7 ax au;rintro i bv st v5 ⟨hi,a5,a9,cq,cm,av,f7,gl,dd⟩;have cd:(q.take i).length=i:=Qqs hi;have d5:=o.ext a9.gr;refine ciR (λh=>?_) (λh=>?_)
 .have li:i<q.length:=by have:=oT h;omega
  have a8:i<K.f:=om
  clear h;have de:=Rd.ext hq (c4 ▸ d5);refine Qp 3 i de li ?_;refine Js (cs:=(q.getD i V0).cells) (λj u' c8=>RdR.cell de li c8) ?_;refine Jv (cs:=V0.cells) Uv ?_;intro v6 g2 ae e3 bu;refine Qb (cs':=(q.getD i V0).cells) bu ?_ (V.one _);intro v7 fx dn eu;have ag:Ext v5 v7:=eu v5 ae e3;have fo:=a9.ext ag;obtain⟨m0,fm,H⟩:=id fo;obtain⟨d,p,fg,hT,hd⟩:=H.pd.1 i a8 (by unfold pS;simp[df i a8]);refine ldR ((Jb G.m H.gr G.n6).at (i:=0) rfl) ?_;refine ρ ?_;refine mlk KI H.map Qyl (Jqm (c:=i) om) ?_;rw[fg];refine Jv Vl ?_;intro v8 g1 et e1 bt;refine Xn bt ?_;intro v9 cw bm c1;have aa:Ext v7 v9:=c1 v7 et e1;have H9:=H.ext aa;refine ldR ((Jb G.m H9.gr G.n6).at (i:=0) rfl) ?_;refine ρ ?_;refine mdn KI H9.map (Jqm (c:=i) om) ?_;intro bz ea dq;have Z:GrN (λk=>k=K.mb) v9 bz:=GrN.by dq λk hk=>by injection hk with hk;exact hk.symm
  have g4:K.mb<v7.heap.size:=H.map.lt;have bl:K.mb<v5.heap.size:=nM o.m2 a9.gr.size;have gi:=bu.lt;have g9:=ag.size;have g8:=aa.size;have gh:=bt.lt;have ep:¬ g2=K.mb:=om
  have eo:¬ g1=K.mb:=om
  have bo:RkV K bz (q.take i) (pS K.pf (i+1) i) (32*(i+1)):=RkV.same ⟨_,_,H9.gr.trans Z,ea,H9.mle,H9.pd.drop o.ip.f32 a8⟩ λc _=>Jgb;have bc:=Jb (fx.ext aa) Z ep;have bb:=Jb cw Z eo;have a1:GrN (λk=>k=K.mb) v5 bz:=((GrN.ext ag).trans (GrN.ext aa)).trans Z;have eb:=Jb cq a1 n9;have bq:=Jb cm a1 n4;have ch:=av.gr (a1.mono λk _ h=>.inl h);refine Qq bb ?_;refine Js (cs:=(q.getD i V0).cells) (λj u' c8=>bc.at c8) ?_;refine ρ ?_;have c3:=o.ext bo.gr;refine cl (Qwr (hT.ext c3) (bh _ _) (d9 _ _)) ?_;rintro u bw ⟨sv,rfl,he,f6,d3⟩;obtain⟨e,du⟩:∃ e,e=Tr.pB d (q.getD i V0) (K.t i (q.take i)):=⟨_,rfl⟩;rw[<-du]at he ⊢;have dg:st+e=rkN K.ds (kT K.kf K.BB) q (i+1):=by
   rw[rkN,<-dd,du];show _=st+Tr.pB _ _ (K.t i (q.take i));by_cases hnl:K.t i (q.take i)=.nil
   .rw[hnl];rfl
   rw[hd hnl]
  have c0:Ext bw bw.drew:=(Ext.refl bw).drew;have J:=d3.trans c0;have e4:=bo.ext J;have cn:=eb.ext J;have dw:=ch.ext J;have gs:=fc i (q.take i);have gq:=dj i (q.take i);refine ρ ?_;refine drN (λ_=>False) 10 (scq 9 [4,5,6,108]) kr ?_;refine ρn ?_;refine nld (λw' hg=>(cn.ext hg.toExt).at (i:=0) rfl) ?_;refine ρn ?_;refine nop ?_;refine clv (Jsr o G e4) ?_;rw[Jtk];rintro pv en ⟨f9,_,D⟩;refine ρ ?_;refine Ja (GrN.ext D) ?_;refine ρn ?_;refine nop ?_;have da:=(f6.ext c0).ext D;refine cl (Jzh da f9 ((bh i (q.take i)).le (Jch _ _ _)).len (o.onb _ _).len) ?_;rintro mv gc ⟨di,_,ab⟩;rw[o.bef a8 hd]at di;refine ρ ?_;refine Ja (GrN.ext ab) ?_;refine ρn ?_;refine nop ?_;have cg:=((dw.ext D).ext ab).1;have c9:Nb (bef (K.ds.getD i false) (q.getD i V0) (K.X.E i (K.X.key i (q.take i)))*K.X.others i (q.take i)):=by
   refine(o.pnb i (q.take i)).le ?_;have h1:=fd.pend_split (y:=q.take i) (by rw[cd];exact a8);rw[cd]at h1;rw[h1,<-o.bef a8 hd,K.T];exact nO _ (Jch _ _ _)
  refine cl (Ih cg di (o.rk_le hqf hi a5).len c9.len) ?_;rintro gd d0 ⟨an,dt,bd⟩;have f8:rkS K.X K.ds q i+bef (K.ds.getD i false) (q.getD i V0) (K.X.E i (K.X.key i (q.take i)))*K.X.others i (q.take i)=rkS K.X K.ds q (i+1):=rfl;rw[f8]at an;obtain⟨ZA,zc,rfl,_⟩:=id an;refine ρ ?_;refine Ja (GrN.ext bd) ?_;refine ρn ?_;have U:=(D.trans ab).trans bd;have em:=c0.trans U;have az:=cn.ext U;refine Xh ?_;refine sto (az.at (i:=0) rfl) (az.frozen 0) ?_;obtain⟨a2,am⟩:∃ a2,a2=d0.setCell ((⟨C,0,none⟩:Addr).add 0) (.slice ZA (Jq (rkS K.X K.ds q (i+1))).length zc):=⟨_,rfl⟩;rw[<-am];have ar:GrN (λk=>k=C) d0 a2:=by rw[am];exact GrN.set _ rfl
  have ac:Blk a2 C 173 [.slice ZA (Jq (rkS K.X K.ds q (i+1))).length zc,.slice none 0 0,.bool false,.int .i64 (st:Int)]:=by rw[am];exact az.set 0 _
  have e6:=(e4.ext U).off ar cx o;have e8:=Jb ((bq.ext J).ext U) ar cy;have er:C<en.heap.size:=(cn.ext D).lt;have dh:NatX (λk=>k=K.mb∨k=C∨k=b4) a2 (.slice ZA (Jq (rkS K.X K.ds q (i+1))).length zc) (rkS K.X K.ds q (i+1)):=by
   refine NatX.gr (N:=λk=>k=K.mb∨k=C∨k=b4) ⟨an,λh0 ad m c e=>?_⟩ (ar.mono λk _ h=>.inr (.inl h));have h1:=dt ad m c e;have h2:=ab.size;have h3:=(bq.ext (J.trans D)).lt;rintro(h|h|h)
   .have:=nM bl (a1.size);have:=(J.trans D).size;omega
   .omega
   omega
  refine ω5 ?_;refine Gz ?_;refine ρn ?_;refine ldR (ac.at (i:=3) rfl) ?_;refine Xv (ac.at (i:=3) rfl) (ac.frozen 3) ?_;obtain⟨a7,ak⟩:∃ a7,a7=a2.setCell ((⟨C,0,none⟩:Addr).add 3) (.int .i64 ((st+e:Nat):Int)):=⟨_,rfl⟩;have c7:a2.setCell ((⟨C,0,none⟩:Addr).add 3) (.int .i64 ((st:Int)+(e:Int)))=a7:=ak.symm;refine Eq.mpr (congrArg _ c7) ?_;have aq:GrN (λk=>k=C) a2 a7:=by rw[ak];exact GrN.set _ rfl
  have br:Blk a7 C 173 [.slice ZA (Jq (rkS K.X K.ds q (i+1))).length zc,.slice none 0 0,.bool false,.int .i64 ((st+e:Nat):Int)]:=by rw[ak];exact ac.set 3 _
  have bn:=e6.off aq cx o;have bp:=Jb e8 aq cy;have bi:=dh.gr (aq.mono λk _ h=>.inr (.inl h));have dz:=o.has a8 (z:=q.take i) hd (q.getD i V0);have db:(st+e<=Qc (i+1) λv=>hmB (K.BB v)):=by rw[Qc];omega
  have dl:K.X.Gp (q.take (i+1))↔Tr.hasT d (q.getD i V0) (K.t i (q.take i))=true:=(Jfl (o.ip.srt ne) li a5).trans dz.symm;refine ciR (λh=>?_) (λh=>?_)
  .have ca:¬ K.X.Gp (q.take (i+1)):=λhg=>by
    rw[dl.1 hg]at h;cases h
   clear h;have bg:wiL K.L q=[]:=o.ip.wi_none ne λhg=>ca (hg.pre (i+1));refine Qq br ?_;refine Xn bp ?_;intro cz e7 a6 d2;refine ρ ?_;have c2:=d2 w (c4 ▸ o.ext bn.gr) om;have ce:GrN (λk=>k=b4) a7 cz:=GrN.by a6 λk hk=>by injection hk with hk;exact hk.symm
   refine Gu e7 ⟨_,_,st+e,by rw[bg];rfl,?_,?_,Nat.le_trans db (Jrd om),c2,.inr ⟨i,li,a5,ca,dg⟩⟩
   .rw[o.ip.rk_stop ne hqf li a5 ca];exact(bi.gr (ce.mono λk _ h=>.inr (.inr h))).1
   rw[bg];exact NatV.nil _
  have d1:Tr.hasT d (q.getD i V0) (K.t i (q.take i))=true:=by
   cases hh:Tr.hasT d (q.getD i V0) (K.t i (q.take i)) with
   | true=>rfl
   | false=>rw[hh]at h;cases h
  clear h;have dk:=dl.2 d1;have f5:q.take (i+1)=q.take i++[q.getD i V0]:=Qt V0 li;have cj:RkV K a7 (q.take (i+1)) (pS K.pf (i+1) i) (32*(i+1)):=by
   rw[f5];exact bn.app o (λc _ hs=>by
    rw[cd];unfold pS at hs;simp only[Bool.and_eq_true,decide_eq_true_eq]at hs;exact hs.2) _
  refine ρ ?_;refine clv (Jss (k:=i+1) o G cj om dk om om (v:=(i:Int)) om) ?_;rintro u cz ⟨rfl,a6,e5⟩;refine ρ ?_;exact Xq (i+1) _ (st+e) sO ⟨li,dk,(e5.same λc hc=>Jgc (df c hc)).more om,Jb br a6 n9,Jb bp a6 n4,bi.gr (a6.mono λk _ h=>.inl h),db,om,dg⟩ om
 have fb:i=q.length:=by have:=oF h;omega
 clear h;subst fb;rw[List.take_length]at a5 a9;refine ρ ?_;refine clv (Jsr o G a9) ?_;rw[Jtj];rintro cv v6 ⟨dv,fh,ae⟩;obtain⟨el,ek,rfl,_⟩:=id av.1;obtain⟨CA,cc,rfl,_⟩:=id dv;have co:=cq.ext ae;have fu:=cm.ext ae;have fp:=a9.ext ae;have dx:=av.ext ae;have er:=cq.lt;have gg:=cm.lt;have bl:K.mb<v5.heap.size:=nM o.m2 a9.gr.size;have fi:NatX (λk=>k=K.mb∨k=C∨k=b4) v6 (.slice CA (Jq (K.X.pend q.length q)).length cc) (K.X.pend q.length q):=⟨dv,λ_ ad m c e=>by
  have:=fh ad m c e;rintro(h|h|h)<;>omega⟩
 refine Xv (co.at (i:=1) rfl) (co.frozen 1) ?_;obtain⟨v7,c6⟩:∃ v7,v7=v6.setCell ((⟨C,0,none⟩:Addr).add 1) (.slice CA (Jq (K.X.pend q.length q)).length cc):=⟨_,rfl⟩;rw[<-c6];have dn:GrN (λk=>k=C) v6 v7:=by rw[c6];exact GrN.set _ rfl
 have ba:Blk v7 C 173 [.slice el (Jq (rkS K.X K.ds q q.length)).length ek,.slice CA (Jq (K.X.pend q.length q)).length cc,.bool false,.int .i64 (st:Int)]:=by rw[c6];exact co.set 1 _
 refine ldR (ba.at (i:=1) rfl) ?_;refine Xv (ba.at (i:=2) rfl) (ba.frozen 2) ?_;have d7:=o.ip.wi_len ne hqf a5;have ff:decide (0<((Jq (K.X.pend q.length q)).length:Int))=decide (0<(wiL K.L q).length):=by
  rw[d7];show decide _=decide (0<K.X.pend q.length q);rcases Nat.eq_zero_or_pos (K.X.pend q.length q) with h0|h0
  .rw[h0,limbs_0];rfl
  rw[decide_eq_true h0,decide_eq_true (by have:=limbs_pos' (show K.X.pend q.length q≠0 by omega);omega)]
 obtain⟨v8,c5⟩:∃ v8,v8=v7.setCell ((⟨C,0,none⟩:Addr).add 2) (.bool (decide (0<(wiL K.L q).length))):=⟨_,rfl⟩;have d8:v7.setCell ((⟨C,0,none⟩:Addr).add 2) (.bool (decide (0<((Jq (K.X.pend q.length q)).length:Int))))=v8:=by rw[ff];exact c5.symm
 refine Eq.mpr (congrArg _ d8) ?_;have fe:GrN (λk=>k=C) v7 v8:=by rw[c5];exact GrN.set _ rfl
 have fw:Blk v8 C 173 [.slice el (Jq (rkS K.X K.ds q q.length)).length ek,.slice CA (Jq (K.X.pend q.length q)).length cc,.bool (decide (0<(wiL K.L q).length)),.int .i64 (st:Int)]:=by rw[c5];exact ba.set 2 _
 have ap:=dn.trans fe;have fn:=fp.off ap cx o;have ft:=Jb fu ap cy;refine Qq fw ?_;refine Xn ft ?_;intro v9 fr bm c1;have c2:=c1 w (c4 ▸ o.ext fn.gr) om;have dm:GrN (λk=>k=b4) v8 v9:=GrN.by bm λk hk=>by injection hk with hk;exact hk.symm
 have ao:GrN (λk=>k=K.mb∨k=C∨k=b4) v6 v9:=(ap.mono λk _ h=>.inr (.inl h)).trans (dm.mono λk _ h=>.inr (.inr h));refine ρ ?_;refine Gu fr ⟨_,_,st,rfl,?_,?_,Nat.le_trans f7 (Jrd hqf),c2,.inl ⟨a5,dd⟩⟩
 .rw[o.ip.rk_end ne hqf a5];exact(dx.gr ao).1
 rw[d7];exact(fi.gr ao).1
end
open Go.RowKit Pl Go.Wk
variable {ds:List Bool}{L:List Row}{B0 f pc:Nat}{pf:Nat->Int}{BB:Nat->List BkT}{PA:Option Addr}{q:Row}{x:Value}{w:World}
theorem Jfm{kf:Nat->Nat}{tot:Nat}(tb:TB B0 w)(h:IxA w x f ds kf pf BB tot L)(hq:RdR w PA q)(hqc:q.length<=pc):
  Ret Tryz.prog 40 [x,.slice PA q.length pc] w λu w'=>Ext w w'/\(q.length≠f->u=.tuple #[.slice none 0 0,.bool false,.int .i64 0,.int .i64 6]) /\
   (q.length=f->∃(kv:Value) (st:Nat),u=.tuple #[kv,.bool (decide (0<(wiL L q).length)),.int .i64 (st:Int),.int .i64 0]/\NatV w' kv (Xt ds L q)/\(st<=Qc f λv=>hmB (BB v))/\(tot=0->st=0)/\(tot≠0->DsN (Qs f kf pf BB).Gp ds (kT kf BB) q st)):=by
 have ix:=h.ix;have ip:=h.ip;obtain⟨DA,dc,BA,cb,KA,ck,ak,cp,tv,af,ae,rfl,ai,aj,hD,hB,hK,hP,a6,ag⟩:=id ix.ex;obtain⟨TA,tc,rfl,_⟩:=id a6;refine enE Tryz.func40 Tryz.ntmps40 ?_;refine bxR ?_;intro w1 b D hb O;refine Qq O ?_;refine clR (Jhg (ix.ext D)) ?_;rintro u w2 ⟨rfl,o⟩;refine ciR (λh=>?_) (λh=>?_)
 .have a8:q.length≠f:=λe=>by rw[e]at h;simp at h
  refine ρ ?_;exact Ks ⟨D.trans o,λ_=>rfl,λh=>absurd h a8⟩
 have Z:q.length=f:=by grind
 clear h;refine Qq (O.ext o) ?_;refine clR (Jhd (ix.ext (D.trans o)) ip.nbT) ?_;rintro u w3 ⟨a5,_,U⟩;have j:=(D.trans o).trans U;obtain⟨UA,uc,rfl,_⟩:=id a5;refine ciR (λh=>?_) (λh=>?_)
 .have h0:tot=0:=by
   have:=Zx h;grind [Nat.eq_zero_or_pos,tot,limbs_pos']
  have hL:L=[]:=List.eq_nil_of_length_eq_zero (by rw[<-ip.len];exact h0);refine ρ ?_;refine Ks ⟨j,λh=>absurd Z h,λ_=>⟨.slice none 0 0,0,by subst hL;rfl,?_,Nat.zero_le _,λ_=>rfl,λh=>absurd h0 h⟩⟩;rw[hL];exact NatV.nil _
 have ne:tot≠0:=λe=>by
  have:=Xu h;grind [limbs_0]
 clear h;refine Qq ((O.ext o).ext U) ?_;refine clR (Xjv (tb.ext j) (ix.ext j) ip ne (Rd.ext hq j) hqc om) ?_;rintro u w4 ⟨bv,cv,st,rfl,a1,aa,a7,a4,a9⟩;obtain⟨XA,xc,rfl,_⟩:=id a1;obtain⟨YA,yc,rfl,_⟩:=id aa;refine Jv Jcr ?_;intro w5 b8 a3 ab ac;refine Xn ac ?_;intro w6 ad ah a2;have G:Ext w4 w6:=a2 w4 a3 ab;have J:Ext w6 w6.drew:=(Ext.refl w6).drew;have C:=ad.ext J;refine ρ ?_;refine drN (λ_=>False) 11 (scq 10 []) kr ?_;refine ρn ?_;refine nld (λw' hg=>(C.ext hg.toExt).at (i:=0) rfl) ?_;refine ρn ?_;refine nld (λw' hg=>(C.ext hg.toExt).at (i:=2) rfl) ?_;refine ρn ?_;refine nld (λw' hg=>(C.ext hg.toExt).at (i:=3) rfl) ?_;refine ρn ?_;refine ρ ?_;exact Ks ⟨((j.trans a4).trans G).trans J,λh=>absurd Z h,λ_=>⟨_,st,rfl,(a1.ext G).ext J,a7,λh=>absurd h ne,λ_=>a9⟩⟩
theorem Qgt{kf:Nat->Nat}{tot:Nat}(tb:TB B0 w)(h:IxA w x f ds kf pf BB tot L)(hq:RdR w PA q)(hqc:q.length<=pc):
  Ret Tryz.prog 40 [x,.slice PA q.length pc] w λu w'=>Ext w w'/\(q.length≠f->u=.tuple #[.slice none 0 0,.bool false,.int .i64 0,.int .i64 6]) /\
   (q.length=f->∃(kv:Value) (st:Nat),u=.tuple #[kv,.bool (decide (0<(wiL L q).length)),.int .i64 (st:Int),.int .i64 0]/\NatV w' kv (Xt ds L q)/\st<=Qc f λv=>hmB (BB v)) :=
 (Jfm tb h hq hqc).mono λu w' ⟨G,D,C⟩=>⟨G,D,λe=>by obtain⟨kv,st,o,j,i,_⟩:=C e;exact⟨kv,st,o,j,i⟩⟩
open Go.RowKit Pl Go.Wk _root_.Go.Proofs.Tryz
variable {ls:List (List V)}{ds:List Bool}{ps:List Pr}{base c g n:Nat}{A:Option Addr}{fv v va vb vd:Value}{w:World}
theorem Qgp(h:RowsV w v ls):
  Ret prog 155 [v] w λv' w'=>(∃(ps:List Pr) (A:Option Addr),v'=.slice A ps.length ps.length/\ps.map (·.2)=ls/\ps.length<=1100000/\Dat w' w.heap.size (.slice A ps.length ps.length) ps/\∀ p∈ps,RowX w' (one (Value.slice A ps.length ps.length).ownBlock) p.1 p.2)/\Ext w w':=by
 obtain⟨ps,A,c,rfl,rfl,h3,h4,h5,h6⟩:=h;generalize hn:ps.length=n at *
 refine enE func155 ntmps155 ?_;refine ρ ?_;refine mkn ER n om (by unfold maxLen;omega) ?_;intro w1 O a7 U hO;have a5:∀ k,(Value.slice O n n).ownBlock=some k->w.heap.size<=k/\k<w1.heap.size:=by
  obtain⟨_,_,e,_,hf⟩:=Jy U;exact hf
 have a9:Dat w1 w.heap.size (.slice O n n) ([]++List.replicate n (.slice none 0 0,[])):=by
  refine⟨?_,λp hp=>?_⟩
  .rw[List.nil_append,List.length_replicate,Pr.rep];have e:(madeCells (Value.slice none 0 0).cells (n*1)).toList=List.replicate n (.slice none 0 0):=by rw[Nat.mul_one];exact Ux _ _
   rw[e]at U;exact U
  rw[List.nil_append]at hp;rw[(List.mem_replicate.1 hp).2];rfl
 refine ρ ?_;refine Jo (fun (k:Nat) (i:List Pr)=>[(0,.slice A n c),(3,.slice O n n),(9,.int .i64 (n:Int)),(10,.int .i64 (k:Int))])
  (λk i w2=>k<=n/\i.length=k/\i.map (·.2)=(ps.take k).map (·.2)/\Ext w w2/\Dat w2 w.heap.size (.slice O n n) (i++List.replicate (n-k) (.slice none 0 0,[]))/\(∀ p∈i,RowX w2 (one (Value.slice O n n).ownBlock) p.1 p.2)/\w1.heap.size<=w2.heap.size) (λk _=>n-k) 0 [] sB
  ⟨Nat.zero_le _,rfl,rfl,a7,a9,λp hp=>(by cases hp),Nat.le_refl _⟩ ?_
 rintro k i w2 ⟨hk,J,a4,o,a2,a6,a3⟩;refine ciR (λh=>?_) (λh=>?_)
 .have D:k<n:=by have:=oT h;omega
  have C:k<ps.length:=om
  refine ixR k (h5.ext o) D ?_;refine ldR ((h5.ext o).cell (Gs C)) ?_;refine clR (Gd ((h6 _ (getD_mem' z0 ps C)).ext o) (one (Value.slice O n n).ownBlock) (λj hj=>by have:=a5 j hj;omega)) ?_;rintro v3 w3 ⟨G,u⟩;have a1:=a2.ext u;have Z:(i++List.replicate (n-k) ((.slice none 0 0,[]):Pr)).length=n:=by simp;omega
  obtain⟨s1,s2,s3⟩:=a1.store Z D (p:=(v3,(ps.getD k z0).2)) G.v.one;refine ixR k (a1.rd Z) D ?_;refine Xv (a1.cell Z D) s1 ?_ (hv:=G.v.one);refine ρ ?_;have e:(i++List.replicate (n-k) ((.slice none 0 0,[]):Pr)).set k (v3,(ps.getD k z0).2)=(i++[(v3,(ps.getD k z0).2)])++List.replicate (n-(k+1)) (.slice none 0 0,[]):=by
   rw[show n-k=(n-(k+1))+1 by omega,List.replicate_succ,List.set_append_right _ _ om,J,Nat.sub_self,List.set_cons_zero,List.append_assoc];rfl
  rw[e]at s2;refine Jl (k+1) (i++[(v3,(ps.getD k z0).2)]) sB ⟨om,by simp[J],?_,Qg (o.trans u) s3 (λj hj=>(a5 j hj).1),s2,λp hp=>?_,?_⟩ om
  .rw[List.map_append,a4,List.take_succ_eq_append_getElem C,List.map_append,Qv z0 ps C];rfl
  .rcases List.mem_append.1 hp with h'|h'
   .exact((a6 p h').ext u).grown s3 (λ_ e=>e)
   rw[List.mem_singleton.1 h'];exact G.grown s3 (λ_ e=>e)
  exact nL a3 (nL u.size s3.size)
 have a8:k=n:=by have:=oF h;omega
 subst a8;rw[Nat.sub_self,List.replicate_zero,List.append_nil]at a2;refine ρ ?_;subst J;exact Jj ⟨⟨i,O,rfl,by rw[a4,<-hn,List.take_length],h4,a2,a6⟩,o⟩
theorem Qfd{a b:List V}(ha:RowV w va a)(hb:RowV w vb b)(hd:BoolsV w vd ds)(hk:Blk w g 25 [vd]):
  Ret prog 157 [va,vb,.pointer (some ⟨g,0,none⟩)] w λr w'=>r=.int .i64 (Jw a b ds)/\Ext w w':=by
 refine enE func157 ntmps157 ?_;refine ldR (hk.at (i:=0) rfl) ?_;refine clR (Jlk ha hb hd) ?_;rintro v o ⟨rfl,j⟩;refine ρ ?_;exact Jj ⟨rfl,j⟩
theorem Qdv(hD:Dat w base (.slice A n c) ps)(hn:ps.length=n)(hmx:n<20)(hC:CmpF w (Value.slice A n c).ownBlock fv ps ds):
  Ret prog 188 [.slice A n c,.int .i64 (n:Int),fv] w λv w'=>∃ ps',Dat w' base (.slice A n c) ps'/\Seg z0 0 n ps ps'/\SOn z0 (fP ds) ps' 0 n/\w.grownBy w' (Value.slice A n c).ownBlock:=by
 refine enE func188 ntmps188 ?_;refine ρ ?_;refine Qy (fun (_:Unit)=>[(0,.slice A n c),(1,.int .i64 (n:Int)),(2,fv),(6,.int .i64 20),(7,.int .i64 0),(8,.int .i64 20)]) (λ_ w'=>w'=w) (λ_=>0) () sB rfl ?_;rintro _ w' rfl;refine ciR (λh=>?_) (λh=>?_)
 .exfalso
  have:=oT h;omega
 clear h;refine clR (Jhq (a:=0) (b:=n) hD hn rfl rfl (nR _) (Nat.zero_le _) om hC) ?_;rintro v i ⟨ps',C,u,o,j⟩;refine ρ ?_;refine Qy (fun (_:Unit)=>[(1,.int .i64 (n:Int)),(6,.int .i64 20)]) (λ_ w'=>w'=i) (λ_=>0) () sB rfl ?_;rintro _ D rfl;refine ciR (λh=>?_) (λh=>?_)
 .exfalso
  have:=oT h;omega
 clear h;refine ρ ?_;exact Ys ⟨ps',C,u,o,j⟩
theorem Qdz(hD:Dat w base (.slice A n c) ps)(hn:ps.length=n)(hmx:n<20)(hC:CmpF w (Value.slice A n c).ownBlock fv ps ds):
  Ret prog 156 [.slice A n c,fv] w λv w'=>∃ ps',Dat w' base (.slice A n c) ps'/\Seg z0 0 n ps ps'/\SOn z0 (fP ds) ps' 0 n/\w.grownBy w' (Value.slice A n c).ownBlock:=by
 refine enE func156 ntmps156 ?_;refine clR (Qdv (ds:=ds) hD hn hmx hC) ?_;rintro v j i;refine ρ ?_;exact Ys i
theorem Qgk(h:RowsV w v ls)(hd:BoolsV w vd ds)(hl:ls.length<20):
  Ret prog 106 [v,vd] w λv' w'=>(∃ ls',RowsV w' v' ls'/\ls'.Perm ls/\Srt ds ls')/\Ext w w':=by
 obtain⟨D,dc,rfl,a8,a7,a6⟩:=id hd;refine enE func106 ntmps106 ?_;refine bxR ?_;intro w1 b o a9 a2;refine clR (Qgp (h.ext o)) ?_;rintro v2 w2 ⟨⟨ps,A,rfl,O,a5,Z,C⟩,G⟩;refine ρ ?_;have j:∀ k,(Value.slice A ps.length ps.length).ownBlock=some k->w1.heap.size<=k:=λk hk=>by
  obtain⟨_,_,_,_,hf⟩:=Jy Z.1;exact(hf k hk).1
 have a1:ps.length<20:=by rw[<-O,List.length_map]at hl;exact hl
 refine cl (Qdz (fv:=.func (.func 157) #[] #[.pointer (some ⟨b,0,none⟩)]) (ds:=ds) Z rfl a1 ⟨_,_,_,rfl,λw' hg p q hp hq=>?_⟩) ?_
 .have J:Ext w1 w':=Qg G hg j;exact Qfd ((C p hp).grown hg (λ_ e=>e)).v ((C q hq).grown hg (λ_ e=>e)).v (hd.ext (o.trans J)) (a2.ext J)
 rintro v3 w3 ⟨qs,a4,u,a3,U⟩;have i:qs.length=ps.length:=u.len;refine ρ ?_;refine Jj ⟨⟨qs.map (·.2),⟨qs,A,ps.length,rfl,by rw[i],om,om,?_,λp hp=>?_⟩,?_,?_⟩,o.trans (Qg G U j)⟩
 .exact i ▸ a4.rd i
 .exact((C p (u.perm.mem_iff.1 hp)).grown U (λ_ e=>e)).v
 .rw[<-O];exact u.perm.map _
 exact Jdp (by rw[i];exact a3)
open Go.RowKit Pl Go.Wk _root_.Go.Proofs.Tryz
variable {ds:List Bool}{L ls m:List Row}{B B' i k n:Nat}{u v vd vk vr x:Value}{w w':World}
def tt7: TT:=(125,{ desc:=.invalid,size:=2,offs:=[0,1] })::(107,{ desc:=.interface #[("At",61),("Len",50),("Rank",63)] }) ::
 (179,{ desc:=.invalid,size:=1,offs:=[0] })::(177,{ desc:=.invalid,size:=3,offs:=[0,1,2] })::(183,{ desc:=.invalid,size:=2,offs:=[0,1] })::(100,{ desc:=.invalid,size:=5,offs:=[0] })::tt
theorem Qcd: TOk prog tt7:=⟨⟨_,underlying125,kr,kr⟩,⟨kr,kr⟩,⟨_,underlying179,kr,kr⟩,⟨_,underlying177,kr,kr⟩,⟨_,underlying183,kr,kr⟩,⟨_,underlying100,kr,kr⟩,Jjk⟩
instance (priority:=9000):Tab prog tt7:=⟨Qcd,mixed⟩
theorem Xjw(h:RowsV w v ls):
  Ret prog 105 [v] w λv' w'=>OwnR w' w.heap.size v' (ddF ls)/\Ext w w':=by
 obtain⟨ps,A,c,G,rfl,h3,h4,h5,h6⟩:=id h;have hn:ls.length=ps.length:=by rw[G];simp
 generalize hN:ps.length=n at *
 refine enE func105 ntmps105 ?_;refine ρ ?_;refine Jo (fun (k:Nat) (Z:Value)=>[(0,.slice A n c),(3,Z),(6,.int .i64 (n:Int)),(7,.int .i64 (k:Int))])
  (λk Z U=>k<=n/\Ext w U/\OwnR U w.heap.size Z (ddF (ls.take k))/\(ddF (ls.take k)).length<=k) (λk _=>n-k) 0 (.slice none 0 0) sB
  ⟨Nat.zero_le _,Ext.refl w,OwnR.nil _ _,by simp[ddF]⟩ ?_
 rintro k Z U ⟨hk,C,a3,ab⟩;refine ciR (λh=>?_) (λh=>?_)
 .have a7:k<n:=by have:=oT h;omega
  have D:k<ps.length:=om
  have step:=Jlf (l:=ls) (k:=k) om;refine ρ ?_;refine Zv (fun (t:Bool)=>[(0,.slice A n c),(3,Z),(4,.int .i64 (k:Int)),(6,.int .i64 (n:Int)),(7,.int .i64 (k:Int)),(24,.bool t)])
   (λt w3=>t = !decide (k≠0/\ls.getD (k-1) []=ls.getD k [])/\Ext U w3) ?_ ?_
  .refine dr (scq 15 [12]) kr ?_;have o:Ext U U.drew:=(Ext.refl U).drew;have J:=h5.ext (C.trans o);refine ρd ?_;refine dki 12 (λh=>?_) (λh=>?_)
   .have a4:k=0:=by have:=Zx h;omega
    refine ρd ?_;exact Jf true sB ⟨by simp[a4],o⟩
   have a4:k≠0:=by have:=Xu h;omega
   have O:k-1<ps.length:=om
   refine Jc (k-1) J om ?_;refine Jz (J.cell (Gs O)) ?_;refine Jc k J a7 ?_;refine Jz (J.cell (Gs D)) ?_;refine Jh (Jyq ((h6 _ (getD_mem' z0 ps O)).ext (C.trans o)) ((h6 _ (getD_mem' z0 ps D)).ext (C.trans o))) ?_;rintro x w3 ⟨rfl,u⟩;refine⟨u,?_⟩;refine ρd ?_;refine Jf (!decide ((ps.getD (k-1) z0).2=(ps.getD k z0).2)) sB ⟨?_,o.trans u⟩;rw[G,Jqj,Jqj];simp[a4]
  rintro t w3 ⟨rfl,u⟩;have a2:=a3.ext u;have i:=C.trans u;refine ciR (λh=>?_) (λh=>?_)
  .rw[if_neg (by rw[Bool.not_eq_true']at h;exact oF h)]at step;refine ixR k (h5.ext i) a7 ?_;refine ldR ((h5.ext i).cell (Gs D)) ?_;refine clR (Gd ((h6 _ (getD_mem' z0 ps D)).ext i) (own w.heap.size Z) (λj hj=>by
    rcases hj with hj|hj
    .have:=i.size;omega
    exact(a2.lt j hj).2)) ?_
   rintro v4 w4 ⟨a6,a5⟩;obtain⟨B,bc,a9,_⟩:=a6.v;refine Qk (λw=>Jkd v4 w B _ bc a9) ?_;intro w5 b a1 ae ad;refine ρ ?_;refine appR (a:=w) ((i.trans a5).trans a1) ER ((a2.ext a5).ext a1) ad (a6.ext a1) om ?_;intro v6 w6 aa a8 _;refine ρ ?_;refine Jl (k+1) v6 sB ⟨om,a8,?_,?_⟩ om
   .rw[step,G,Jqj,<-G];exact aa
   rw[step];simp;omega
  rw[if_pos (by simpa using h)]at step;refine ρ ?_;refine Jl (k+1) Z sB ⟨om,i,?_,?_⟩ om
  .rw[step];exact a2
  rw[step];omega
 have ac:k=n:=by have:=oF h;omega
 subst ac;refine ρ ?_;rw[List.take_of_length_le om]at a3 ab;exact Jj ⟨a3,C⟩
def RowsA(w:World)(v:Value)(ds:List Bool)(ls:List Row): Prop:=∃ v1 v2,v=.agg #[v1,v2]/\RowsV w v1 ls/\BoolsV w v2 ds
theorem RowsA.ext{w w':World}{v:Value}{ds:List Bool}{ls:List Row}(h:RowsA w v ds ls)(hx:Ext w w'): RowsA w' v ds ls:=by
 obtain⟨j,i,C,u,o⟩:=h;exact⟨j,i,C,u.ext hx,o.ext hx⟩
theorem RowsV.slc(h:RowsV w v ls): ∃ A n c,v=.slice A n c:=by obtain⟨_,A,c,_,rfl,_⟩:=h;exact⟨A,_,c,rfl⟩
theorem BoolsV.slc{ls:List Bool}(h:BoolsV w v ls): ∃ A n c,v=.slice A n c:=by obtain⟨A,c,rfl,_⟩:=h;exact⟨A,_,c,rfl⟩
theorem Xzm(A B:Option Addr)(n c m e:Nat)(w:World): (Instr.build 125 #[(0,.slice A n c),(1,.slice B m e)]).run prog w=.ok (.agg #[.slice A n c,.slice B m e]) w:=kr
theorem Jmw: Qa prog 125=some (.agg #[.slice none 0 0,.slice none 0 0]):=kr
theorem BoolsV.one(ds:List Bool): ∀ u∈ds.map Value.bool,u.oneCell'=true:=by
 intro u i;obtain⟨b,_,rfl⟩:=List.mem_map.1 i;rfl
theorem Qmv(h:RowsV w v ls)(hd:BoolsV w vd ds)(hl:ls.length<20):
  Ret prog 55 [v,vd] w λv' w'=>(∃ m,RowsA w' v' ds m/\IsSet ds ls m/\m.length<=ls.length)/\Ext w w':=by
 refine enE func55 ntmps55 ?_;refine Jv (cs:=[.slice none 0 0,.slice none 0 0]) Jmw ?_;intro w1 b O ag a3;refine clR (Qgk (h.ext O) (hd.ext O) hl) ?_;rintro v2 w2 ⟨⟨i,a1,a2,a7⟩,J⟩;refine clR (Xjw a1) ?_;rintro v3 w3 ⟨Z,G⟩;refine ρ ?_;obtain⟨D,dc,rfl,aj,ab,aa⟩:=id hd;have j:=(O.trans J).trans G;refine cl (Qkr (aa.ext j) (BoolsV.one ds) om) ?_;rintro v4 w4 ⟨⟨D',c',rfl,ae,ac,ah⟩,C⟩;obtain⟨A3,c3,rfl⟩:=Z.form;refine Zj (Xzm _ _ _ _ _ _ _) ?_;refine Qb (((a3.ext J).ext G).ext C) (cs':=[.slice A3 (ddF i).length c3,.slice D' ds.length c']) ?_ (λu hu=>by simp at hu;rcases hu with rfl|rfl<;>rfl);intro w5 a9 a4 a6;have o:=Jlh a7;have U:IsSet ds ls (ddF i):=⟨o.1,λx=>(o.2 x).trans a2.mem_iff⟩;have a5:Ext w w5:=a6 w (j.trans C) ag;have af:b<w2.heap.size:=(a3.ext J).lt;have ai:i.length<=1100000:=by obtain⟨_,_,_,_,h0,_⟩:=a1.parts;exact h0
 have a8:OwnR w5 w2.heap.size (.slice A3 (ddF i).length c3) (ddF i):=(Z.ext C).grown a4 af;refine ρ ?_;refine Gu a9 ⟨⟨ddF i,⟨_,_,rfl,a8.rows (by have:=Jqs i;omega),⟨D',c',rfl,ae,ab,?_⟩⟩,U,?_⟩,a5⟩
 .refine Rd.grown ac a4 (λad e e2=>?_);have:=ah ad e;injection e2 with e2
  have:=G.size;omega
 rw[<-a2.length_eq];exact Jqs i
theorem Kb(h:n<18446744073709551616): (Jq n).length<=1000:=by have:=Jrn h;omega
def AyR(w:World)(L:List Row)(B k:Nat)(x:Value): Prop :=
 if k<L.length then ∃ vr,∃ s:Nat,x=.tuple #[vr,.int .i64 (s:Int),.int .i64 0]/\RowV w vr (L.getD k [])/\s<=B
 else ∃ s:Nat,x=.tuple #[.slice none 0 0,.int .i64 (s:Int),.int .i64 3]/\s<=B
structure ArrW(w:World)(v:Value)(L:List Row)(B:Nat): Prop where
 len:∃ f rv,Zo prog v "Len" f rv/\∀ w',Ext w w'->Ret prog f [rv] w' λx w''=>NatV w'' x L.length/\Ext w' w''
 at_:∃ f rv,Zo prog v "At" f rv/\∀ w',Ext w w'->∀ k vk,NatV w' vk k->k<9223372036854775808->Ret prog f [rv,vk] w' λx w''=>AyR w'' L B k x/\Ext w' w''
 rank:∃ f rv,Zo prog v "Rank" f rv/\∀ w',Ext w w'->∀ i vr,i<L.length->RowV w' vr (L.getD i [])->Ret prog f [rv,vr] w' λx w''=>(∃ vn,∃ s:Nat,x=.tuple #[vn,.bool true,.int .i64 (s:Int),.int .i64 0]/\NatV w'' vn i/\s<=B)/\Ext w' w''
 small:L.length<=1100000
 bd:B<=100000000
theorem ArrW.ext(h:ArrW w v L B)(hx:Ext w w'): ArrW w' v L B:=by
 obtain⟨⟨f1,C,J,h1⟩,⟨f2,u,G,h2⟩,⟨f3,o,D,Z⟩,U,O⟩:=h;exact⟨⟨f1,C,J,λj i=>h1 j (hx.trans i)⟩,⟨f2,u,G,λj i=>h2 j (hx.trans i)⟩,⟨f3,o,D,λj i=>Z j (hx.trans i)⟩,U,O⟩
theorem ArrW.form(h:ArrW w v L B): ∃ t x,v=.iface t x:=by
 obtain⟨⟨f1,i,⟨t,x,rfl,_⟩,j⟩,_⟩:=h;exact⟨t,x,rfl⟩
theorem u64c(n:Nat)(h:n<=1100000): IntKind.u64.wrap (n:Int)=(n:Int):=Uu om
theorem Qgg(h:RowsA w v ds m): Ret prog 283 [v] w λx w'=>NatV w' x m.length/\Ext w w':=by
 obtain⟨v1,Z,rfl,J,G⟩:=h;obtain⟨A,c,rfl,hc,u,_⟩:=J.parts;obtain⟨D,dn,dc,rfl⟩:=G.slc;refine enE func283 ntmps283 ?_;refine bxR ?_;intro U b1 j C o;refine ldR (o.at rfl) ?_;refine ρ ?_;rw[u64c _ u];refine cl (Jzg m.length om _) ?_;rintro x O ⟨hn,i⟩;refine ρ ?_;exact Jj ⟨hn,j.trans i⟩
theorem Qgh(h:RowsA w v ds m)(hk:NatV w vk k)(hkb:k<9223372036854775808): Ret prog 282 [v,vk] w λx w'=>AyR w' m 1 k x/\Ext w w':=by
 obtain⟨v1,v2,rfl,h1,h2⟩:=h;obtain⟨A,c,rfl,hc,hm,cs,C,Z⟩:=h1.parts;obtain⟨D,dn,dc,rfl⟩:=h2.slc;refine enE func282 ntmps282 ?_;refine bxR ?_;intro w1 b1 i a1 G;refine clR (Qnl (hk.ext i) om) ?_;rintro x w2 ⟨rfl,rfl⟩;refine ldR (G.at rfl) ?_;refine ρ ?_;rw[u64c _ hm];refine ci (λo=>?_) (λj=>?_)
 .have o:¬ k<m.length:=by have:=oT o;omega
  refine ρ ?_;refine Zz ⟨?_,i⟩;unfold AyR;rw[if_neg o];exact⟨0,rfl,om⟩
 have j:k<m.length:=by have:=oF j;omega
 obtain⟨u,hu,O⟩:=Z k j;refine ldR (G.at rfl) ?_;refine ixR k (C.ext i) j ?_;refine ldR ((C.ext i).cell hu) ?_;refine clR (Gd (O.ext i) (λ_=>False) (λ_ h=>h.elim)) ?_;rintro x w3 ⟨U,J⟩;refine ρ ?_;refine Zz ⟨?_,i.trans J⟩;unfold AyR;rw[if_pos j];exact⟨x,1,rfl,U.v,Nat.le_refl _⟩
theorem Qgd{r:Row}(h:RowsA w v ds m)(hr:RowV w vr r)(hl:Lt ds m)(hms:m.length<256): Ret prog 284 [v,vr] w λx w'=>(∃ vn,x=.tuple #[vn,.bool (decide (r∈m)),.int .i64 (Qz m.length:Int),.int .i64 0]/\NatV w' vn (cnt ds m r))/\Ext w w':=by
 obtain⟨v1,v2,rfl,Z,U⟩:=h;obtain⟨A,c,rfl,hc,hm,cs,a1,a2⟩:=Z.parts;obtain⟨D,dn,dc,rfl⟩:=U.slc;have a3:=Qzz ds m r;refine enE func284 ntmps284 ?_;refine bxR ?_;intro w1 b1 i a4 j;refine ldR (j.at rfl) ?_;refine ldR (j.at rfl) ?_;refine clR (Qgl (Z.ext i) (hr.ext i) (U.ext i) hl) ?_;rintro x G ⟨rfl,C⟩;refine drR [(0,0),(0,1),(0,3),(0,4),(0,5),(0,6),(0,7),(1,2),(1,8),(0,9),(0,10),(0,11),(0,12)] ?_;have o:Ext G G.drew:=(Ext.refl G).drew;have O:=(j.ext C).ext o;refine Jz (O.at rfl) ?_;refine ρd ?_;rw[u64c _ hm,u64c _ (show cnt ds m r<=1100000 by omega)];refine dcl (Jzg (cnt ds m r) om _) ?_;rintro x w3 ⟨J,u⟩;refine⟨u,?_⟩;refine dcl (Jlx m.length om _) ?_;rintro y w4 ⟨rfl,rfl⟩;refine⟨Ext.refl _,?_⟩;refine ρd ?_;refine ρ ?_;exact Ks ⟨⟨x,rfl,J⟩,((i.trans C).trans o).trans u⟩
theorem Qpg(x y:Value): Zo prog (.iface 125 (.agg #[x,y])) "Len" 283 (.agg #[x,y]):=⟨_,_,rfl,λw=>kr,λw=>kr⟩
theorem Qph(x y:Value): Zo prog (.iface 125 (.agg #[x,y])) "At" 282 (.agg #[x,y]):=⟨_,_,rfl,λw=>kr,λw=>kr⟩
theorem Qpf(x y:Value): Zo prog (.iface 125 (.agg #[x,y])) "Rank" 284 (.agg #[x,y]):=⟨_,_,rfl,λw=>kr,λw=>kr⟩
theorem AyR.mono(h:AyR w L B k x)(hb:B<=B'): AyR w L B' k x:=by
 unfold AyR at *;split
 .rename_i hk;rw[if_pos hk]at h;obtain⟨o,s,i,j,u⟩:=h;exact⟨o,s,i,j,om⟩
 rename_i hk;rw[if_neg hk]at h;obtain⟨s,i,j⟩:=h;exact⟨s,i,om⟩
theorem rowsW(h:RowsA w v ds m)(hl:Lt ds m)(hms:m.length<256): ArrW w (.iface 125 v) m 64:=by
 obtain⟨v1,v2,rfl,u,o⟩:=id h;refine⟨⟨_,_,Qpg _ _,λw' j=>Qgg (h.ext j)⟩,⟨_,_,Qph _ _,λw' j k vk O D=>(Qgh (h.ext j) O D).mono λx C ⟨u,o⟩=>⟨u.mono om,o⟩⟩,
  ⟨_,_,Qpf _ _,λw' j i Z hi J=>(Qgd (h.ext j) J hl hms).mono λx C ⟨⟨G,u,o⟩,U⟩=>⟨⟨G,Qz m.length,by rw[u,decide_eq_true (getD_mem' [] m hi)],by rw[Qkb hl hi]at o;exact o,by have:=Jql (k:=8) (x:=m.length) om;omega⟩,U⟩⟩,om,om⟩
theorem Qjq{m:Nat}(hv:NatV w v n)(hu:NatV w u m)(hn:n<18446744073709551616): Ret prog 293 [v,u] w λx w'=>NatV w' x (n-m)/\Ext w w':=by
 refine enE func293 ntmps293 ?_;refine clR (Qnn hv hu (Kb hn)) ?_;rintro y o ⟨⟨x,rfl,j⟩,i⟩;refine ρ ?_;exact Jj ⟨j,i⟩
theorem cmq_ge{m:Nat}: (0<=Yk n m)↔m<=n:=by unfold Yk;grind
theorem cmq_eq{m:Nat}: (Yk n m=0)↔n=m:=by unfold Yk;grind
theorem Xwt(h:ArrW w v L B)(hk:NatV w vk k)(hkb:k<9223372036854775808): Ret prog 292 [v,vk] w λx w'=>AyR w' L B k x/\Ext w w':=by
 obtain⟨f,rv,G,J⟩:=h.at_;have hb:=h.bd;refine enE func292 ntmps292 ?_;refine ρ ?_;refine inv G (J w (Ext.refl w) k vk hk hkb) ?_;rintro y U ⟨j,i⟩;unfold AyR at j ⊢;split at j
 .rename_i hlt;obtain⟨Z,s,rfl,D,u⟩:=j;refine clR (Gd D (λ_=>False) (λk hk=>hk.elim)) ?_;rintro x O ⟨C,o⟩;refine ρ ?_;refine Zz ⟨?_,i.trans o⟩;rw[if_pos hlt];exact⟨x,s,rfl,C.v,u⟩
 rename_i hlt;obtain⟨s,rfl,u⟩:=j;refine ρ ?_;refine Zz ⟨?_,i⟩;rw[if_neg hlt];exact⟨s,rfl,u⟩
theorem Jst(h:k<L.length): L.reverse.getD k []=L.getD (L.length-(k+1)) []:=by
 rw[Qv [] _ (by simpa using h),Qv [] _ om,List.getElem_reverse];congr 1;omega
theorem Qgx(h:ArrW w v L B): Ret prog 296 [.agg #[v]] w λx w'=>NatV w' x L.length/\Ext w w':=by
 obtain⟨t,y,rfl⟩:=h.form;have hs:=h.small;refine enE func296 ntmps296 ?_;refine bxR ?_;intro D b1 i O C;refine ldR (C.at rfl) ?_;refine ρ ?_;obtain⟨f,rv,G,J⟩:=h.len;refine inv G (J D i) ?_;rintro x Z ⟨hn,o⟩;refine clR (Jbg hn (Kb om)) ?_;rintro x U ⟨u,j⟩;refine ρ ?_;exact Jj ⟨u,(i.trans o).trans j⟩
theorem Qgz(h:ArrW w v L B)(hk:NatV w vk k)(hkb:k<9223372036854775808): Ret prog 295 [.agg #[v],vk] w λx w'=>AyR w' L.reverse B k x/\Ext w w':=by
 obtain⟨t,y,rfl⟩:=h.form;have hs:=h.small;refine enE func295 ntmps295 ?_;refine bxR ?_;intro w1 b1 J a7 a1;refine ldR (a1.at rfl) ?_;refine ρ ?_;obtain⟨f,rv,hm,hf⟩:=h.len;refine inv hm (hf w1 J) ?_;rintro x w2 ⟨hn,G⟩;refine clR (Gk ((hk.ext J).ext G) hn) ?_;rintro z w3 ⟨rfl,D⟩;have i:=(J.trans G).trans D;refine ciR (λh0=>?_) (λh0=>?_)
 .have a6:=cmq_ge.1 (oT h0);refine ρ ?_;refine Zz ⟨?_,i⟩;unfold AyR;rw[if_neg (by simpa using a6)];exact⟨0,rfl,om⟩
 have Z:k<L.length:=by
  have h1:=oF h0;rw[cmq_ge]at h1;omega
 refine drR (scq 14 [4,5,6,7]) ?_;have j:Ext w3 w3.drew:=(Ext.refl w3).drew;refine Jz ((((a1.ext G).ext D).ext j).at rfl) ?_;refine Jh (Jzg 1 om _) ?_;rintro x1 w4 ⟨a5,o⟩;refine⟨o,?_⟩;refine dcl (Qjn (((hk.ext i).ext j).ext o) a5 (Kb om) (Kb om)) ?_;rintro x2 w5 ⟨a4,C⟩;refine⟨C,?_⟩;refine dcl (Qjq ((((hn.ext D).ext j).ext o).ext C) a4 om) ?_;rintro x3 w6 ⟨a3,U⟩;refine⟨U,?_⟩;have u:Ext w3 w6:=((j.trans o).trans C).trans U;refine dcl (Xwt (h.ext (i.trans u)) a3 om) ?_;rintro x4 w7 ⟨hA,O⟩;refine⟨O,?_⟩;unfold AyR at hA;rw[if_pos om]at hA;obtain⟨vr,s,rfl,hr,a2⟩:=hA;refine ρd ?_;refine ρ ?_;refine Zz ⟨?_,(i.trans u).trans O⟩;unfold AyR;rw[if_pos (by simpa using Z),Jst Z];exact⟨vr,s,rfl,hr,a2⟩
theorem Qgw(h:ArrW w v L B)(hi:i<L.length)(hr:RowV w vr (L.getD i [])): Ret prog 297 [.agg #[v],vr] w λx w'=>(∃ vn,∃ s:Nat,x=.tuple #[vn,.bool true,.int .i64 (s:Int),.int .i64 0]/\NatV w' vn (L.length-(i+1))/\s<=B)/\Ext w w':=by
 obtain⟨t,y,rfl⟩:=h.form;have hs:=h.small;have ad:=h.bd;refine enE func297 ntmps297 ?_;refine bxR ?_;intro w1 b1 J ae Z;refine drR [(0,0),(0,1),(0,2),(0,4),(0,5),(1,3),(1,6),(0,7),(0,8),(0,9),(0,10),(0,11),(0,12),(0,13),(0,14),(0,15)] ?_;have j:Ext w1 w1.drew:=(Ext.refl w1).drew;refine Jz ((Z.ext j).at rfl) ?_;refine ρd ?_;refine dnci ?_;refine Jh (Gd ((hr.ext J).ext j) (λ_=>False) (λ_ h=>h.elim)) ?_;rintro x w2 ⟨a3,o⟩;refine⟨o,?_⟩;obtain⟨f,rv,hm,hf⟩:=h.rank;refine Jzv hm (hf w2 ((J.trans j).trans o) i x hi a3.v) ?_;rintro y w3 ⟨⟨vn,s,rfl,a7,a2⟩,G⟩;refine⟨G,?_⟩;have C:Ext w w3:=((J.trans j).trans o).trans G;refine ρd ?_;refine clR (Jzg 1 om _) ?_;rintro x1 ab ⟨a8,u⟩;refine clR (Qjn (a7.ext u) a8 (Kb om) (Kb om)) ?_;rintro v8 w4 ⟨a6,O⟩;have D:=u.trans O;refine ldR (((((Z.ext j).ext o).ext G).ext D).at rfl) ?_;refine ρ ?_
 obtain⟨f',ac,a9,aa⟩:=h.len;refine inv a9 (aa w4 (C.trans D)) ?_;rintro x5 w5 ⟨a5,U⟩;refine clR (Qjq a5 (a6.ext U) om) ?_;rintro x6 w6 ⟨a4,a1⟩;refine ρ ?_;exact Ks ⟨⟨x6,s,rfl,a4,a2⟩,((C.trans D).trans U).trans a1⟩
theorem Qpk(x:Value): Zo prog (.iface 179 (.agg #[x])) "Len" 296 (.agg #[x]):=⟨_,_,rfl,λw=>kr,λw=>kr⟩
theorem Qpl(x:Value): Zo prog (.iface 179 (.agg #[x])) "At" 295 (.agg #[x]):=⟨_,_,rfl,λw=>kr,λw=>kr⟩
theorem Qpj(x:Value): Zo prog (.iface 179 (.agg #[x])) "Rank" 297 (.agg #[x]):=⟨_,_,rfl,λw=>kr,λw=>kr⟩
theorem revW(h:ArrW w v L B): ArrW w (.iface 179 (.agg #[v])) L.reverse B:=by
 refine⟨⟨_,_,Qpk _,λw' j=>by rw[List.length_reverse];exact Qgx (h.ext j)⟩,⟨_,_,Qpl _,λw' j k vk U u=>Qgz (h.ext j) U u⟩,⟨_,_,Qpj _,λw' j i Z hi D=>?_⟩,by simpa using h.small,h.bd⟩;have C:i<L.length:=by simpa using hi
 rw[Jst C]at D;refine(Qgw (h.ext j) om D).mono ?_;rintro x G ⟨⟨J,s,e,hn,O⟩,o⟩;exact⟨⟨J,s,e,by rw[show L.length-(L.length-(i+1)+1)=i by omega]at hn;exact hn,O⟩,o⟩
theorem Xzp(x:Value)(t:TypeId)(y:Value)(hx:x=.iface t y)(w:World): (Instr.build 179 #[(0,x)]).run prog w=.ok (.agg #[x]) w:=by subst hx;kernel_rfl
theorem ifA: prog.underlying 107=some (.interface #[("At",61),("Len",50),("Rank",63)]):=kr
theorem Xwr(h:ArrW w v L B): Ret prog 46 [v] w λx w'=>ArrW w' x L.reverse B/\w'=w:=by
 obtain⟨t,y,rfl⟩:=h.form;refine enE func46 ntmps46 ?_;refine ρ ?_;refine inil ifA (.inr ⟨_,_,rfl⟩) ?_;refine Zj (Xzp _ _ _ rfl _) ?_;refine ρ ?_;refine mki underlying179 (λi e=>by cases e) ?_;refine ρ ?_;exact Jj ⟨revW h,rfl⟩
structure SlcV(w:World)(x:Value)(L:List Row)(B lo hi:Nat): Prop where
 ex:∃ v vl vh,x=.agg #[v,vl,vh]/\ArrW w v L B/\NatV w vl lo/\NatV w vh hi
 le:lo<=hi/\hi<=L.length
theorem SlcV.ext{w w':World}{x:Value}{L:List Row}{B lo hi:Nat}(h:SlcV w x L B lo hi)(hx:Ext w w'): SlcV w' x L B lo hi:=by
 obtain⟨⟨v,vl,i,D,C,u,o⟩,j⟩:=h;exact⟨⟨v,vl,i,D,C.ext hx,u.ext hx,o.ext hx⟩,j⟩
theorem NatV.slc(h:NatV w v n): ∃ A m c,v=.slice A m c:=by obtain⟨A,c,rfl,_⟩:=h;exact⟨A,_,c,rfl⟩
open Go.RowKit Pl Go.Wk _root_.Go.Proofs.Tryz
variable {cs:List Nat}{L:List Row}{B b c i0 k n:Nat}{pr:Nat->Bool}{fv v vc vk vl vr x:Value}{w:World}
def NtsV(w:World)(v:Value)(cs:List Nat): Prop:=∃ A c,v=.slice A cs.length c/\cs.length<=c/\cs.length<=1100000/\Rd w 1 A cs.length (Je (nz cs))/\∀ x∈cs,x<=9223372036854775807
theorem NtsV.ext{w w':World}{v:Value}{cs:List Nat}(h:NtsV w v cs)(hx:Ext w w'): NtsV w' v cs:=by
 obtain⟨A,c,C,u,o,j,i⟩:=h;exact⟨A,c,C,u,o,j.ext hx,i⟩
theorem NtsV.slc(h:NtsV w v cs): ∃ A n c,v=.slice A n c:=by obtain⟨A,c,rfl,_⟩:=h;exact⟨A,_,c,rfl⟩
theorem Qsd(cs:List Nat): ∀ u∈Je (nz cs),u.oneCell'=true:=λu i=>by obtain⟨z,_,rfl⟩:=List.mem_map.1 i;rfl
theorem Xxk{A:Option Addr}{cs:List Value}(hr:Rd w 1 A n cs)(h1:∀ u∈cs,u.oneCell'=true)(hb:n*8<=140737488355328):
  Ret prog 96 [.slice A n c] w λv w'=>(∃ A' c',v=.slice A' n c'/\n<=c'/\Rd w' 1 A' n cs)/\Ext w w':=by
 refine enE func96 ntmps96 ?_;refine ρ ?_;refine Jjr ?_;refine ciR (λh=>?_) (λh=>?_)
 .have J:A=none:=by simpa using h
  subst J;have hn:n=0:=by
   rcases Nat.eq_zero_or_pos n with h0|h0
   .exact h0
   obtain⟨ad,O,_⟩:=hr.isome h0 om;cases O
  subst hn;refine ρ ?_;exact Jj ⟨⟨none,0,rfl,Nat.le_refl _,hr⟩,Ext.refl w⟩
 refine Qk Xxw ?_;intro w1 b j G D;refine ρ ?_;refine apo j EI (D.own (n:=0) G rfl (Nat.zero_le _)) (hr.ext j) h1 (by unfold maxLen;omega) om ?_;intro v2 w2 i C _ _;obtain⟨Z,U,rfl,o,_⟩:=Jy i;refine ρ ?_;rw[Nat.zero_add]at i o ⊢;exact Jj ⟨⟨Z,U,rfl,o,Rd.own i⟩,C⟩
def Qvv(w:World)(fv:Value)(cs:List Nat)(pr:Nat->Bool): Prop:=∃ fid first cap,fv=.func (.func fid) first cap /\
 ∀ w',Ext w w'->∀ x∈cs,Ret prog fid (first.toList++[.int .i64 (x:Int)]++cap.toList) w' λr w''=>r=.bool (pr x)/\Ext w' w''
theorem Qsk(h:NtsV w v cs)(hT:Qvv w fv cs pr):
  Ret prog 151 [v,fv] w λx w'=>(∃ k:Int,x=.int .i64 k/\(0<=k↔cs.any pr=true))/\Ext w w':=by
 obtain⟨A,c,rfl,hc,hl,O,hb⟩:=h;obtain⟨G,first,J,rfl,hT⟩:=hT;refine enE func151 ntmps151 ?_;refine ρ ?_;refine Qy (fun (k:Nat)=>[(0,.slice A cs.length c),(1,.func (.func G) first J),(7,.int .i64 (cs.length:Int)),(8,.int .i64 (k:Int))])
  (λk w'=>k<=cs.length/\(∀ j,j<k->pr (cs.getD j 0)=false)/\Ext w w') (λk=>cs.length-k) 0 sB ⟨Nat.zero_le _,λj hj=>om,Ext.refl w⟩ ?_
 rintro k w1 ⟨hk,U,o⟩;refine ciR (λh=>?_) (λh=>?_)
 .have u:k<cs.length:=by have:=oT h;omega
  refine ixR k (O.ext o) u ?_;refine ldR ((O.ext o).cell (Xg u)) ?_;refine ρ ?_;refine clv (hT _ o (cs.getD k 0) (getD_mem' 0 cs u)) ?_;rintro r w2 ⟨rfl,C⟩;refine ciR (λh=>?_) (λh=>?_)
  .refine ρ ?_;refine Jj ⟨⟨k,rfl,?_⟩,o.trans C⟩;refine⟨λ_=>List.any_eq_true.2 ⟨_,getD_mem' 0 cs u,h⟩,λ_=>om⟩
  refine ρ ?_;refine Qw (k+1) sB ⟨om,λj hj=>?_,o.trans C⟩ om;by_cases e:j=k
  .rw[e];exact h
  exact U j om
 have a1:k=cs.length:=by have:=oF h;omega
 refine ρ ?_;refine Jj ⟨⟨-1,rfl,?_⟩,o⟩;refine⟨λh=>om,λh=>?_⟩;obtain⟨x,Z,D⟩:=List.any_eq_true.1 h;obtain⟨i,hi,rfl⟩:=List.getElem_of_mem Z;have:=U i om;rw[Qv 0 cs hi,D]at this;cases this
theorem Xqd(h:NtsV w v cs)(hT:Qvv w fv cs pr):
  Ret prog 94 [v,fv] w λx w'=>x=.bool (cs.any pr)/\Ext w w':=by
 refine enE func94 ntmps94 ?_;refine clR (Qsk h hT) ?_;rintro x o ⟨⟨k,rfl,j⟩,i⟩;refine ρ ?_;refine Jj ⟨?_,i⟩;rw[show decide (0<=k)=cs.any pr by rw[Bool.eq_iff_iff,decide_eq_true_iff,j]]
theorem Xqm{x:Nat}(h:NtsV w v cs)(hk:Blk w b 26 [v])(hxb:x<=9223372036854775807):
  Ret prog 95 [.int .i64 (x:Int),.pointer (some ⟨b,0,none⟩)] w λr w'=>r=.bool (decide (cs.length<=x))/\Ext w w':=by
 obtain⟨A,c,rfl,u,o,j,C⟩:=h;refine enE func95 ntmps95 ?_;refine kfR 6 ?_ ?_
 .exact dF om
 refine ldR (hk.at (i:=0) rfl) ?_;refine ρ ?_;refine Jj ⟨?_,Ext.refl w⟩;rw[show decide ((cs.length:Int)<=(x:Int))=decide (cs.length<=x) by rw[Bool.eq_iff_iff,decide_eq_true_iff,decide_eq_true_iff];omega]
def unR(cs:List Nat)(r:Row): Nat->Row
 | 0=>List.replicate r.length V0
 | k+1=>(unR cs r k).set (cs.getD k 0) (r.getD k V0)
theorem Iz(cs:List Nat)(r:Row): ∀ k,(unR cs r k).length=r.length
 | 0=>by simp[unR]
 | k+1=>by simp[unR,Iz cs r k]
structure PerV(w:World)(x:Value)(L:List Row)(B:Nat)(cs:List Nat): Prop where
 ex:∃ v vc,x=.agg #[v,vc]/\ArrW w v L B/\NtsV w vc cs
 ok:∀ c∈cs,c<cs.length
 rows:∀ r∈L,r.length=cs.length
 back:∀ r∈L,unR cs (pmR cs r) cs.length=r
theorem PerV.ext{w w':World}{x:Value}{L:List Row}{B:Nat}{cs:List Nat}(h:PerV w x L B cs)(hx:Ext w w'): PerV w' x L B cs:=by
 obtain⟨⟨v,vc,D,C,u⟩,o,j,i⟩:=h;exact⟨⟨v,vc,D,C.ext hx,u.ext hx⟩,o,j,i⟩
theorem Qlp(h:PerV w x L B cs): Ret prog 299 [x] w λx w'=>NatV w' x L.length/\Ext w w':=by
 obtain⟨⟨v,vc,rfl,D,Z⟩,h5,h6,h7⟩:=h;obtain⟨t,y,rfl⟩:=D.form;obtain⟨_,_,_,rfl⟩:=Z.slc;have hs:=D.small;refine enE func299 ntmps299 ?_;refine bxR ?_;intro G b1 i U C;refine ldR (C.at rfl) ?_;refine ρ ?_;obtain⟨f,rv,J,O⟩:=D.len;refine inv J (O G i) ?_;rintro x w2 ⟨hn,o⟩;refine clR (Jbg hn (Kb om)) ?_;rintro x w3 ⟨u,j⟩;refine ρ ?_;exact Jj ⟨u,(i.trans o).trans j⟩
theorem Qlq(h:PerV w x L B cs)(hk:NatV w vk k)(hkb:k<9223372036854775808): Ret prog 298 [x,vk] w λx w'=>AyR w' (L.map (pmR cs)) B k x/\Ext w w':=by
 obtain⟨⟨v,vc,rfl,h2,h3⟩,h5,h6,h7⟩:=h;obtain⟨t,y,rfl⟩:=h2.form;obtain⟨C,cc,rfl,ap,ao,am,aq⟩:=id h3;have hs:=h2.small;have ar:=h2.bd;refine enE func298 ntmps298 ?_;refine bxR ?_;intro w1 b1 a6 au af;refine drR [(0,0),(0,1),(0,2),(0,4),(0,5),(1,3),(1,6),(0,7),(0,8),(0,9),(0,10),(0,11),(0,12),(0,13)] ?_;have G:Ext w1 w1.drew:=(Ext.refl w1).drew;refine Jz ((af.ext G).at (i:=0) rfl) ?_;refine ρd ?_;refine dnci ?_;refine Jh (Jbg ((hk.ext a6).ext G) (Kb om)) ?_;rintro x w2 ⟨ai,U⟩;refine⟨U,?_⟩;obtain⟨f,rv,hm,hf⟩:=h2.at_;refine Jzv hm (hf w2 ((a6.trans G).trans U) k x ai hkb) ?_;rintro y w3 ⟨hA,a5⟩;refine⟨a5,?_⟩;have a1:Ext w w3:=((a6.trans G).trans U).trans a5;have ae:=((af.ext G).ext U).ext a5;unfold AyR at hA;split at hA
 .rename_i hlt;obtain⟨vr,s,rfl,hr,a7⟩:=hA;have a8:(L.getD k []).length=cs.length:=h6 _ (getD_mem' [] L hlt);obtain⟨A,ac,rfl,ax,av,an⟩:=id hr;generalize hrr:L.getD k []=r at *
  refine ρd ?_;refine ldR (ae.at (i:=1) rfl) ?_;refine cfR ?_ ?_
  .exact Jcf om
  refine ρ ?_;refine mkn EV r.length om (by unfold maxLen;omega) ?_;intro w4 O aa ad hO;rw[Jkx]at ad;have ab:Xl w4 w3.heap.size (.slice O r.length r.length) ([]++List.replicate r.length V0):=by
   rw[Xl,List.nil_append,List.length_replicate];exact ad
  refine ldR ((ae.ext aa).at (i:=1) rfl) ?_;refine ρ ?_;refine Qy (fun (i:Nat)=>[(2,.pointer (some ⟨b1,0,none⟩)),(7,.slice A r.length ac),(8,.int .i64 (s:Int)),(10,.slice O r.length r.length),(39,.slice C cs.length cc),(40,.int .i64 (cs.length:Int)),(41,.int .i64 (i:Int))])
   (λi w'=>i<=cs.length/\Ext w3 w'/\Xl w' w3.heap.size (.slice O r.length r.length) ((pmR cs r).take i++List.replicate (r.length-i) V0)) (λi=>cs.length-i) 0 sB
   ⟨Nat.zero_le _,aa,ab⟩ ?_
  rintro i w5 ⟨hi,a4,D⟩;have J:((pmR cs r).take i++List.replicate (r.length-i) V0).length=r.length:=by simp[Qn];omega
  rw[Xl,J]at D;have Z:=a1.trans a4;refine ciR (λh0=>?_) (λh0=>?_)
  .have o:i<cs.length:=by have:=oT h0;omega
   have a2:=am.ext Z;have a3:RdR w5 A r:=Rd.ext an a4;have hc:=h5 _ (getD_mem' 0 cs o);have lc:cs.getD i 0<r.length:=om
   have li:i<r.length:=om
   refine ixR i a2 o ?_;refine ldR (a2.cell (Xg o)) ?_;refine Qp 3 (cs.getD i 0) a3 lc ?_;refine Js (λj u hu=>RdR.cell a3 lc hu) ?_;refine Qp 3 i (Rd.own D) li ?_;refine ρ ?_;refine Jkr (cs:=(r.getD (cs.getD i 0) V0).cells) D li ?_ (V.one _);intro w6 ah ak;have ag:Ext w3 w6:=Qg a4 ak (λk hk=>by
    obtain⟨_,_,e,_,hf⟩:=Jy D;exact(hf k hk).1)
   refine ρ ?_;refine Qw (i+1) sB ⟨om,ag,?_⟩ om;have e:((pmR cs r).take i++List.replicate (r.length-i) V0).set i (r.getD (cs.getD i 0) V0)=(pmR cs r).take (i+1)++List.replicate (r.length-(i+1)) V0:=by
    have hl:((pmR cs r).take i).length=i:=by simp[Qn];omega
    rw[List.set_append_right _ _ om,hl,Nat.sub_self,show r.length-i=(r.length-(i+1))+1 by omega,List.replicate_succ,List.set_cons_zero,List.take_succ_eq_append_getElem (by rw[Qn];omega),List.append_assoc];rw[<-Jfw o,Qv V0 _ (by rw[Qn];omega)];rfl
   have a9:((pmR cs r).take (i+1)++List.replicate (r.length-(i+1)) V0).length=r.length:=by rw[<-e];simp[Qn];omega
   rw[Xl,a9,<-e,Jkz _ _ _ (by rw[J];omega)];exact ah
  have aj:i=cs.length:=by have:=oF h0;omega
  subst aj;have e:(pmR cs r).take cs.length++List.replicate (r.length-cs.length) V0=pmR cs r:=by
   rw[a8,Nat.sub_self,List.replicate_zero,List.append_nil,List.take_of_length_le (by rw[Qn];omega)]
  rw[e]at D;refine ρ ?_;refine Zz ⟨?_,Z⟩;unfold AyR;rw[if_pos (by simpa using hlt)];have e2:(L.map (pmR cs)).getD k []=pmR cs r:=by
   rw[Qv [] _ (by simpa using hlt),List.getElem_map,<-Qv [] L hlt,hrr]
  rw[e2];refine⟨_,s,rfl,⟨O,r.length,by rw[Qn,a8],by rw[Qn];omega,by rw[Qn];omega,?_⟩,a7⟩;have:=Rd.own D;rw[RdR,Qn,<-a8];exact this
 rename_i hlt;obtain⟨s,rfl,a7⟩:=hA;refine ρd ?_;refine ρ ?_;refine Zz ⟨?_,a1⟩;unfold AyR;rw[if_neg (by simpa using hlt)];exact⟨s,rfl,a7⟩
theorem Qln{r:Row}(h:PerV w x L B cs)(hr:RowV w vr r)(hrl:r.length=cs.length)(hi0:i0<L.length)(hre:unR cs r cs.length=L.getD i0 []):
  Ret prog 300 [x,vr] w λx w'=>(∃ vn,∃ s:Nat,x=.tuple #[vn,.bool true,.int .i64 (s:Int),.int .i64 0]/\NatV w' vn i0/\s<=B)/\Ext w w':=by
 obtain⟨⟨v,vc,rfl,h2,h3⟩,h5,h6,h7⟩:=h;obtain⟨t,y,rfl⟩:=h2.form;obtain⟨C,cc,rfl,aj,ai,ag,ak⟩:=id h3;obtain⟨A,ac,rfl,ap,ao,ah⟩:=id hr;have hs:=h2.small;have am:=h2.bd;refine enE func300 ntmps300 ?_;refine bxR ?_;intro w3 b1 a4 an a2;refine ldR (a2.at (i:=1) rfl) ?_;refine cfR ?_ ?_
 .exact Jcf om
 refine ρ ?_;refine mkn EV r.length om (by unfold maxLen;omega) ?_;intro w4 O a3 a6 hO;rw[Jkx]at a6;have a5:Xl w4 w3.heap.size (.slice O r.length r.length) (unR cs r 0):=by
  rw[Xl,unR,List.length_replicate];exact a6
 refine ldR ((a2.ext a3).at (i:=1) rfl) ?_;refine ρ ?_;refine Qy (fun (i:Nat)=>[(1,.slice A r.length ac),(2,.pointer (some ⟨b1,0,none⟩)),(8,.slice O r.length r.length),(25,.slice C cs.length cc),(26,.int .i64 (cs.length:Int)),(27,.int .i64 (i:Int))])
  (λi w'=>i<=cs.length/\Ext w3 w'/\Xl w' w3.heap.size (.slice O r.length r.length) (unR cs r i)) (λi=>cs.length-i) 0 sB
  ⟨Nat.zero_le _,a3,a5⟩ ?_
 rintro i w5 ⟨hi,a1,D⟩;rw[Xl,Iz]at D;have o:=a4.trans a1;refine ciR (λh0=>?_) (λh0=>?_)
 .have G:i<cs.length:=by have:=oT h0;omega
  have J:=ag.ext o;have U:RdR w5 A r:=Rd.ext ah o;have hc:=h5 _ (getD_mem' 0 cs G);have lc:cs.getD i 0<r.length:=om
  have li:i<r.length:=om
  refine ixR i J G ?_;refine ldR (J.cell (Xg G)) ?_;refine Qp 3 i U li ?_;refine Js (λj u hu=>RdR.cell U li hu) ?_;refine Qp 3 (cs.getD i 0) (Rd.own D) lc ?_;refine ρ ?_;refine Jkr (cs:=(r.getD i V0).cells) D lc ?_ (V.one _);intro w6 aa af;have Z:Ext w3 w6:=Qg a1 af (λk hk=>by
   obtain⟨_,_,e,_,hf⟩:=Jy D;exact(hf k hk).1)
  refine ρ ?_;refine Qw (i+1) sB ⟨om,Z,?_⟩ om;rw[Xl,Iz,unR,Jkz _ _ _ (by rw[Iz];omega)];exact aa
 have ae:i=cs.length:=by have:=oF h0;omega
 subst ae;refine ldR ((a2.ext a1).at (i:=0) rfl) ?_;refine ρ ?_;have a9:RowV w5 (.slice O r.length r.length) (unR cs r cs.length):=⟨O,r.length,by rw[Iz],by rw[Iz];omega,by rw[Iz];omega,by rw[RdR,Iz];exact Rd.own D⟩;obtain⟨f,rv,hm,hf⟩:=h2.rank;refine inv hm (hf w5 o i0 _ hi0 (hre ▸ a9)) ?_;rintro y w6 ⟨⟨vn,s,rfl,ad,a8⟩,Z⟩;refine clR (Jbg ad (Kb om)) ?_;rintro x7 w7 ⟨ab,a7⟩;refine ρ ?_;exact Ks ⟨⟨x7,s,rfl,ab,a8⟩,(o.trans Z).trans a7⟩
theorem Qpn(x y:Value): Zo prog (.iface 183 (.agg #[x,y])) "Len" 299 (.agg #[x,y]):=⟨_,_,rfl,λw=>kr,λw=>kr⟩
theorem Qpp(x y:Value): Zo prog (.iface 183 (.agg #[x,y])) "At" 298 (.agg #[x,y]):=⟨_,_,rfl,λw=>kr,λw=>kr⟩
theorem Qpm(x y:Value): Zo prog (.iface 183 (.agg #[x,y])) "Rank" 300 (.agg #[x,y]):=⟨_,_,rfl,λw=>kr,λw=>kr⟩
theorem PerV.aw(h:PerV w x L B cs): ArrW w (.iface 183 x) (L.map (pmR cs)) B:=by
 obtain⟨⟨v,vc,rfl,D,h3⟩,h5,Z,J⟩:=id h;refine⟨⟨_,_,Qpn _ _,λw' o=>by rw[List.length_map];exact Qlp (h.ext o)⟩,⟨_,_,Qpp _ _,λw' o k U G u=>Qlq (h.ext o) G u⟩,⟨_,_,Qpm _ _,λw' o i O hi C=>?_⟩,by simpa using D.small,D.bd⟩;have j:i<L.length:=by simpa using hi
 have e:(L.map (pmR cs)).getD i []=pmR cs (L.getD i []):=by rw[Qv [] _ hi,List.getElem_map,<-Qv [] L j]
 rw[e]at C;exact Qln (h.ext o) C (Qn _ _) j (J _ (getD_mem' [] L j))
theorem Xzq(x y:Value)(t:TypeId)(u:Value)(A:Option Addr)(n c:Nat)(hx:x=.iface t u)(hy:y=.slice A n c)(w:World): (Instr.build 183 #[(0,x),(1,y)]).run prog w=.ok (.agg #[x,y]) w:=by subst hx;subst hy;kernel_rfl
def Gr(n:Nat)(l:List Nat): List Value:=(List.range n).map λc=>.bool (decide (c∈l))
theorem Jdx(n:Nat)(l:List Nat): (Gr n l).length=n:=by simp[Gr]
theorem Jkt(l:List Nat)(h:c<n): (Gr n l)[c]?=some (.bool (decide (c∈l))):=by simp[Gr,h]
theorem Qfj(l:List Nat)(h:c<n): (Gr n l).set c (.bool true)=Gr n (l++[c]):=by
 apply List.ext_getElem?
 intro k;rw[List.getElem?_set,Jdx];by_cases e:c=k
 .subst e;rw[if_pos rfl,if_pos h,Jkt _ h];simp
 rw[if_neg e];by_cases hk:k<n
 .rw[Jkt _ hk,Jkt _ hk];have:(k∈l++[c])↔k∈l:=by simp;intro i;exact absurd i.symm e
  simp[this]
 rw[List.getElem?_eq_none (by rw[Jdx];omega),List.getElem?_eq_none (by rw[Jdx];omega)]
theorem Xws(h:ArrW w v L B)(hc:NtsV w vc cs)(h5:∀ c∈cs,c<cs.length)(hnd:cs.Nodup)(h6:∀ r∈L,r.length=cs.length)(h7:∀ r∈L,unR cs (pmR cs r) cs.length=r):
  Ret prog 47 [v,vc] w λx w'=>(∃ y,x=.tuple #[y,.int .i64 0]/\ArrW w' y (L.map (pmR cs)) B)/\Ext w w':=by
 obtain⟨t,y,rfl⟩:=h.form;obtain⟨C,cc,rfl,ai,af,a9,ab⟩:=id hc;refine enE func47 ntmps47 ?_;refine bxR ?_;intro w1 b1 U aj G;refine ρ ?_;refine inil ifA (.inr ⟨_,_,rfl⟩) ?_;refine ldR (G.at (i:=0) rfl) ?_;refine clR (Xqd (hc.ext U) (pr:=λx=>decide (cs.length<=x)) ⟨_,_,_,rfl,λw' hx x ad=>Xqm (hc.ext (U.trans hx)) (G.ext hx) (ab x ad)⟩) ?_;rintro x w2 ⟨rfl,D⟩;have ac:cs.any (λx=>decide (cs.length<=x))=false:=by
  rw[List.any_eq_false];intro x hx;have:=h5 x hx;simp;omega
 rw[ac];refine ldR ((G.ext D).at (i:=0) rfl) ?_;refine ρ ?_;refine mkn EB cs.length om (by unfold maxLen;omega) ?_;intro w3 O a3 a6 hO;have a5:w3.ownsRow w2.heap.size 4 1 (.slice O cs.length cs.length) cs.length (Gr cs.length (cs.take 0)):=by
  have e:(madeCells (Value.bool false).cells (cs.length*1)).toList=Gr cs.length (cs.take 0):=by
   rw[Nat.mul_one];refine(Ux _ _).trans ?_;simp only[Gr,List.take_zero,List.not_mem_nil,decide_false];rw[List.map_const',List.length_range]
  rw[e]at a6;exact a6
 have ah:=(U.trans D).trans a3;refine ldR (((G.ext D).ext a3).at (i:=0) rfl) ?_;refine ρ ?_;refine Qy (fun (k:Nat)=>[(0,.iface t y),(3,.pointer (some ⟨b1,0,none⟩)),(6,.slice O cs.length cs.length),(17,.slice C cs.length cc),(18,.int .i64 (cs.length:Int)),(19,.int .i64 (k:Int))])
  (λk w'=>k<=cs.length/\Ext w2 w'/\w'.ownsRow w2.heap.size 4 1 (.slice O cs.length cs.length) cs.length (Gr cs.length (cs.take k))) (λk=>cs.length-k) 0 sB ⟨Nat.zero_le _,a3,a5⟩ ?_
 rintro k w4 ⟨hk,a2,Z⟩;have u:=(U.trans D).trans a2;refine ciR (λh0=>?_) (λh0=>?_)
 .have o:k<cs.length:=by have:=oT h0;omega
  have J:=h5 _ (getD_mem' 0 cs o);have a1:=a9.ext u;have a7:¬ cs.getD k 0∈cs.take k:=by
   intro hm;obtain⟨j,hj,he⟩:=List.getElem_of_mem hm;have ae:j<k:=by simp at hj;omega
   rw[List.getElem_take,Qv 0 cs o]at he;exact List.pairwise_iff_getElem.1 hnd j k om o ae he
  refine ixR k a1 o ?_;refine ldR (a1.cell (Xg o)) ?_;refine ixR (cs.getD k 0) (Rd.own Z) J ?_;refine ldR ((Rd.own Z).cell (Jkt _ J)) ?_;rw[decide_eq_false a7];obtain⟨s1,s2,s3,s4,s5⟩:=Zn Z (q:=cs.getD k 0) om (.bool true);refine ixR (cs.getD k 0) (Rd.own Z) J ?_;refine Xv (s1.trans (Jkt _ J)) s2 ?_;refine ρ ?_;refine Qw (k+1) sB ⟨om,a2.setCell s4 _,?_⟩ om;rw[Qfj _ J]at s3;rw[List.take_succ_eq_append_getElem o,<-Qv 0 cs o];exact s3
 refine ldR (((G.ext D).ext a2).at (i:=0) rfl) ?_;refine clR (Xxk (a9.ext u) (Qsd cs) om) ?_;rintro x5 w5 ⟨⟨C',ag,rfl,aa,a8⟩,a4⟩;refine Zj (Xzq _ _ _ _ _ _ _ rfl rfl _) ?_;refine ρ ?_;refine mki underlying183 (λms e=>by cases e) ?_;refine ρ ?_;exact Vc ⟨⟨_,rfl,PerV.aw ⟨⟨_,_,rfl,h.ext (u.trans a4),C',ag,rfl,aa,af,a8,ab⟩,h5,h6,h7⟩⟩,u.trans a4⟩
theorem Jqd(h:n<=9223372036854775807)(w:World): Ret prog 42 [.int .i64 (n:Int)] w λx w'=>NatV w' x n/\Ext w w':=by
 refine enE func42 ntmps42 ?_;refine ρ ?_;rw[if_neg (show¬ (n:Int)<0 by omega),Uu (z:=(n:Int)) om];refine cl (Jzg n om _) ?_;rintro x j ⟨hn,i⟩;refine ρ ?_;exact Jj ⟨hn,i⟩
theorem Jhp(h:ArrW w v L B)(hl:RowsV w vl L): Ret prog 44 [v,vl] w λx w'=>x=.bool true/\Ext w w':=by
 obtain⟨fl,rl,ac,ao⟩:=h.len;obtain⟨fa,ra,O,ad⟩:=h.at_;obtain⟨fr,rr,ab,an⟩:=h.rank;obtain⟨t,y,rfl⟩:∃ t y,v=.iface t y:=by obtain⟨t,y,e,_⟩:=ac;exact⟨t,y,e⟩
 obtain⟨A,c,rfl,hc,hm,cs,J,ap⟩:=hl.parts;have au:=h.bd;refine enE func44 ntmps44 ?_;refine ρ ?_;refine inil ifA (.inr ⟨_,_,rfl⟩) ?_;refine ρ ?_;refine inv ac (ao w (Ext.refl w)) ?_;rintro x w1 ⟨am,af⟩;refine clR (Jqd (n:=L.length) om _) ?_;rintro x2 w2 ⟨ak,a6⟩;refine clR (Gk (am.ext a6) ak) ?_;rintro z w3 ⟨rfl,ae⟩;rw[cmq_eq.2 rfl];have a8:=(af.trans a6).trans ae;refine ρ ?_;refine Qy (fun (k:Nat)=>[(0,.iface t y),(1,.slice A L.length c),(28,.int .i64 (L.length:Int)),(29,.int .i64 (k:Int))])
  (λk w'=>k<=L.length/\Ext w w') (λk=>L.length-k) 0 sB ⟨Nat.zero_le _,a8⟩ ?_
 rintro k w4 ⟨hk,a5⟩;refine ciR (λh0=>?_) (λh0=>?_)
 .have G:k<L.length:=by have:=oT h0;omega
  obtain⟨u,hu,aa⟩:=ap k G;refine drR [(0,0),(0,1),(0,3),(0,4),(0,5),(1,2),(1,6),(0,7),(0,8),(0,9),(0,10),(0,11),(0,12),(0,13)] ?_;have U:Ext w4 w4.drew:=(Ext.refl w4).drew;refine ρd ?_;refine dncm O ?_;refine Jh (Jqd (n:=k) om _) ?_;rintro x5 w5 ⟨a1,D⟩;refine⟨D,?_⟩;have j:=(a5.trans U).trans D;refine Jzv O (ad w5 j k x5 a1 om) ?_;rintro x6 w6 ⟨hA,C⟩;refine⟨C,?_⟩;unfold AyR at hA;rw[if_pos G]at hA;obtain⟨vr,s,rfl,ah,ag⟩:=hA;have a7:=j.trans C;refine ρd ?_;refine drR (scq 18 [8]) ?_;have a2:Ext w6 w6.drew:=(Ext.refl w6).drew;have i:=a7.trans a2;refine Jc k (J.ext i) G ?_;refine Jz ((J.ext i).cell hu) ?_;refine ρd ?_;refine dncm ab ?_;refine ρd ?_;refine Jzv ab (an w6.drew i k u G (aa.ext i)) ?_;rintro x7 w7 ⟨⟨vn,s2,rfl,aj,ar⟩,Z⟩;refine⟨Z,?_⟩;have o:=i.trans Z;refine ρd ?_;refine kfR 67 ?_ ?_
  .exact dF om
  refine kfR 71 ?_ ?_
  .exact dF om
  refine ixR k (J.ext o) G ?_;refine ldR ((J.ext o).cell hu) ?_;refine clR (Jyp (ah.ext (a2.trans Z)) (aa.ext o)) ?_;rintro x8 w8 ⟨rfl,a4⟩;rw[decide_eq_true (rfl:L.getD k []=L.getD k [])];refine clR (Jqd (n:=k) om _) ?_;rintro x9 w9 ⟨ai,a3⟩;refine clR (Gk ((aj.ext a4).ext a3) ai) ?_;rintro z aq ⟨rfl,a9⟩;rw[cmq_eq.2 rfl];refine ρ ?_;exact Qw (k+1) sB ⟨om,((o.trans a4).trans a3).trans a9⟩ om
 refine drR [(0,0),(0,1),(0,2),(0,4),(0,5),(0,6),(1,3),(1,7),(0,8),(0,9),(0,10),(0,11),(0,12),(0,13),(0,14)] ?_;have U:Ext w4 w4.drew:=(Ext.refl w4).drew;refine ρd ?_;refine dncm O ?_;refine Jh (Jqd (n:=L.length) om _) ?_;rintro x5 w5 ⟨a1,D⟩;refine⟨D,?_⟩;have j:=(a5.trans U).trans D;refine Jzv O (ad w5 j L.length x5 a1 om) ?_;rintro x6 w6 ⟨hA,C⟩;refine⟨C,?_⟩;unfold AyR at hA;rw[if_neg om]at hA;obtain⟨s,rfl,ag⟩:=hA;refine ρd ?_;refine ρ ?_;exact Jj ⟨rfl,j.trans C⟩
open Go.RowKit Pl Go.Wk _root_.Go.Proofs.Tryz
def ayV(n:Int): V:=⟨1,n,⟨#[]⟩⟩
theorem ayBld(n:Int)(w:World): (Instr.build 147 #[(0,.int .i64 1),(1,.int .i64 n)]).run prog w=.ok (ayV n).val w:=kr
theorem Zb(n:Int)(w:World): Ret prog 91 [.int .i64 n] w λx w'=>x=(ayV n).val/\Ext w w':=by
 refine enE func91 ntmps91 ?_;refine Jv (cs:=[.int .i64 0,.int .i64 0,.string ⟨#[]⟩]) Uv ?_;intro J b j C u;refine Zj (ayBld n _) ?_;refine Qb u (cs':=(ayV n).cells) ?_ (V.one _);intro G o D i;refine ρ ?_;exact Gu o ⟨rfl,i w j C⟩
theorem Ze(a b:V)(w:World): (Instr.buildSlice 59 2 #[(0,a.val),(1,b.val)]).run prog w=.ok (.slice (some ⟨w.heap.size,0,none⟩) 2 2) (w.alloc (.cells (Jp [a,b]).toArray 147)):=kr
theorem ay3R(v1 v2 v3:Value)(A1 A2 A3:Option Addr)(n1 n2 n3 c1 c2 c3:Nat)(h1:v1=.slice A1 n1 c1)(h2:v2=.slice A2 n2 c2)(h3:v3=.slice A3 n3 c3)(w:World): (Instr.buildSlice 95 3 #[(0,v1),(1,v2),(2,v3)]).run prog w=.ok (.slice (some ⟨w.heap.size,0,none⟩) 3 3) (w.alloc (.cells [v1,v2,v3].toArray 59)):=by
 subst h1;subst h2;subst h3;kernel_rfl
theorem ay2R(v1 v2:Value)(A1 A2:Option Addr)(n1 n2 c1 c2:Nat)(h1:v1=.slice A1 n1 c1)(h2:v2=.slice A2 n2 c2)(w:World): (Instr.buildSlice 95 2 #[(0,v1),(1,v2)]).run prog w=.ok (.slice (some ⟨w.heap.size,0,none⟩) 2 2) (w.alloc (.cells [v1,v2].toArray 59)):=by
 subst h1;subst h2;kernel_rfl
theorem ay2I(a b:Int)(w:World): (Instr.buildSlice 26 2 #[(0,.int .i64 a),(1,.int .i64 b)]).run prog w=.ok (.slice (some ⟨w.heap.size,0,none⟩) 2 2) (w.alloc (.cells [Value.int .i64 a,.int .i64 b].toArray 3)):=kr
theorem RowsA.cells{w:World}{v:Value}{ds:List Bool}{m:List Row}(h:RowsA w v ds m): ∃ v1 v2,v=.agg #[v1,v2]/\(∀ u∈[v1,v2],u.oneCell'=true):=by
 obtain⟨v1,v2,rfl,o,j⟩:=h;obtain⟨_,_,_,rfl⟩:=o.slc;obtain⟨_,_,_,rfl⟩:=j.slc;exact⟨_,_,rfl,λu i=>by simp at i;rcases i with rfl|rfl<;>rfl⟩
def ay1: Row:=[ayV 2,ayV 1]
def ay2: Row:=[ayV 1,ayV 5]
theorem aySet: IsSet [] [ay1,ay2,ay1] [ay2,ay1]:=by
 refine⟨?_,λx=>by simp;exactλh=>.inr h⟩;unfold Lt;rw[List.pairwise_cons];exact⟨λa i=>by simp at i;subst i;decide,List.pairwise_singleton _ _⟩
theorem Jmg(w:World): Ret prog 38 [] w λx w'=>x=.bool true/\Ext w w':=by
 refine enE func38 ntmps38 ?_;refine clR (Zb 2 _) ?_;rintro _ w1 ⟨rfl,ck⟩;refine clR (Zb 1 _) ?_;rintro _ w2 ⟨rfl,cj⟩;refine Qk (Ze _ _) ?_;intro w3 b3 ch dh co;refine clR (Zb 1 _) ?_;rintro _ w4 ⟨rfl,br⟩;refine clR (Zb 5 _) ?_;rintro _ w5 ⟨rfl,bq⟩;refine Qk (Ze _ _) ?_;intro w6 b6 bp dg cn;refine clR (Zb 2 _) ?_;rintro _ w7 ⟨rfl,bd⟩;refine clR (Zb 1 _) ?_;rintro _ w8 ⟨rfl,bc⟩;refine Qk (Ze _ _) ?_;intro w9 b9 bb df cm;refine Qk (ay3R _ _ _ _ _ _ _ _ _ _ _ _ rfl rfl rfl) ?_;intro ak cw a9 d3 c8;have bf:RowsV ak (.slice (some ⟨cw,0,none⟩) 3 3) [ay1,ay2,ay1]:=by
  have h3:Ext w3 ak:=(((((br.trans bq).trans bp).trans bd).trans bc).trans bb).trans a9;have h6:Ext w6 ak:=((bd.trans bc).trans bb).trans a9;refine Jgr [(.slice (some ⟨b3,0,none⟩) 2 2,ay1),(.slice (some ⟨b6,0,none⟩) 2 2,ay2),(.slice (some ⟨b9,0,none⟩) 2 2,ay1)] c8 (λp hp=>?_) (by simp);simp only[List.mem_cons,List.not_mem_nil,or_false]at hp;rcases hp with rfl|rfl|rfl
  .exact Il (r:=ay1) (co.ext h3) (by decide)
  .exact Il (r:=ay2) (cn.ext h6) (by decide)
  exact Il (r:=ay1) (cm.ext a9) (by decide)
 refine clR (Qmv bf (BoolsV.nil ak none 0) (by decide)) ?_;rintro va bo ⟨⟨m,hA,bw,_⟩,bv⟩;have hm:m=[ay2,ay1]:=bw.uniq aySet;subst hm;obtain⟨u1,u2,rfl,bz⟩:=hA.cells;refine Jv (cs:=[.slice none 0 0,.slice none 0 0]) Jmw ?_;intro de dj bu c9 c7;refine Qb c7 (cs':=[u1,u2]) ?_ bz;intro bn ag cy bt;have a8:Ext bo bn:=bt bo bu c9;have be:Ext w bn:=(((((((((((ck.trans cj).trans ch).trans br).trans bq).trans bp).trans bd).trans bc).trans bb).trans a9).trans bv).trans a8);have ah:=rowsW (hA.ext a8) aySet.1 (by decide);refine Js (λj u hu=>ag.at hu) ?_;refine ρ ?_;refine mki underlying125 (λms e=>by cases e) ?_;refine clR (Xwr ah) ?_;rintro vb aj ⟨hB,rfl⟩;obtain⟨tb,yb,rfl⟩:=hB.form;refine ρ ?_;refine inil ifA (.inr ⟨_,_,rfl⟩) ?_;refine drR [(0,0),(0,4),(0,5),(0,6),(1,1),(1,2),(1,3),(1,7),(0,8),(0,9),(0,10),(0,11),(0,12),(0,13),(0,14),(0,15),(0,16)] ?_;have cg:Ext aj aj.drew:=(Ext.refl aj).drew
 obtain⟨fr,rr,c2,cp⟩:=hB.rank;refine ρd ?_;refine dncm c2 ?_;refine Jh (Zb 1 _) ?_;rintro _ dd ⟨rfl,b8⟩;refine⟨b8,?_⟩;refine dcl (Zb 5 _) ?_;rintro _ dc ⟨rfl,b5⟩;refine⟨b5,?_⟩;refine Un (Ze _ _) ?_;intro bm di bs d2 c6;have a7:Ext aj bm:=((cg.trans b8).trans b5).trans bs;refine Jzv c2 (cp bm a7 1 _ (by decide) (Il (r:=ay2) c6 (by decide))) ?_;rintro _ ce ⟨⟨vn,s,rfl,c1,cx⟩,az⟩;refine⟨az,?_⟩;have a6:=a7.trans az;refine ρd ?_;refine Js (λj u hu=>(ag.ext a6).at hu) ?_;refine ρ ?_;refine mki underlying125 (λms e=>by cases e) ?_;refine Qk (ay2I _ _) ?_;intro db cv ay d1 c5;have a5:=a6.trans ay;refine clR (Xws (cs:=[1,0]) (ah.ext a5) ⟨some ⟨cv,0,none⟩,2,rfl,by decide,by decide,c5.rd rfl,by decide⟩ (by decide) (by decide) (by decide) (by decide)) ?_;rintro _ ai ⟨⟨vc,rfl,hC⟩,ax⟩;have a4:=a5.trans ax;refine ρ ?_;refine drG kr ?_;have ba:Ext ai ai.drew:=(Ext.refl ai).drew
 have ad:=a4.trans ba;refine Vq (fuel':=35) [(0,0),(0,1),(1,2),(1,3)] (lst 39 4) kr kr rfl ?_;refine dlds (λj u hu=>(ag.ext ad).at hu) ?_;refine dmki underlying125 (λms e=>by cases e) ?_;refine dcl (Zb 1 _) ?_;rintro _ da ⟨rfl,a2⟩;refine⟨a2,?_⟩;refine dcl (Zb 5 _) ?_;rintro _ cd ⟨rfl,a1⟩;refine⟨a1,?_⟩;refine Zc (Vx ?_);have ao:=(ad.trans a2).trans a1;refine gcut 31 (lst 39 8) (fun (x:Nat×Nat)=>[(3,vn),(4,.bool true),(6,.int .i64 0),(7,vc),(8,.int .i64 0),(46,.iface 125 (.agg #[u1,u2])),(49,.slice (some ⟨x.1,0,none⟩) 2 2),(52,.slice (some ⟨x.2,0,none⟩) 2 2)])
  (λx w'=>Ext cd w'/\Blk w' x.1 147 (Jp ay2)/\Blk w' x.2 147 (Jp ay1)) ?_ ?_
 .rintro⟨J,b7⟩ d9 ⟨ac,bj,bi⟩;refine Vq (fuel':=8) [(1,8),(1,9),(0,10),(0,11),(0,12),(0,13),(0,14),(0,15),(0,16),(0,17),(0,18),(1,19),(1,20),(0,21),(0,22),(0,23),(0,24),(0,25),(0,26),(0,27),(0,28),(1,29),(1,30)] (lst 39 31) kr kr rfl ?_;refine Un (ay2R _ _ _ _ _ _ _ _ rfl rfl) ?_;intro cc cr O d0 c4;have af:RowsV cc (.slice (some ⟨cr,0,none⟩) 2 2) [ay2,ay1]:=by
   refine Jgr [(.slice (some ⟨J,0,none⟩) 2 2,ay2),(.slice (some ⟨b7,0,none⟩) 2 2,ay1)] c4 (λp hp=>?_) (by simp);simp only[List.mem_cons,List.not_mem_nil,or_false]at hp;rcases hp with rfl|rfl
   .exact Il (r:=ay2) (bj.ext O) (by decide)
   exact Il (r:=ay1) (bi.ext O) (by decide)
  have an:=(ao.trans ac).trans O;refine dcl (Jhp (ah.ext an) af) ?_;rintro _ d8 ⟨rfl,ab⟩;refine⟨ab,?_⟩;refine Jh (Jqd (n:=1) om _) ?_;rintro _ cb ⟨c0,aa⟩;refine⟨aa,?_⟩;have am:Ext ce cb:=(((((((ay.trans ax).trans ba).trans a2).trans a1).trans ac).trans O).trans ab).trans aa;refine Jh (Gk (c1.ext am) c0) ?_;rintro _ d7 ⟨rfl,av⟩;refine⟨av,?_⟩;rw[cmq_eq.2 rfl];refine Jh (Zb 5 _) ?_;rintro _ d6 ⟨rfl,au⟩;refine⟨au,?_⟩;refine Jh (Zb 1 _) ?_;rintro _ bl ⟨rfl,ar⟩;refine⟨ar,?_⟩;refine Zc (Vx ?_);have a3:Ext ai bl:=((((((((ba.trans a2).trans a1).trans ac).trans O).trans ab).trans aa).trans av).trans au).trans ar;refine gcut 4 (lst 39 35) (fun (x:Nat×Nat)=>[(7,vc),(72,.bool true),(73,vc),(76,.slice (some ⟨x.1,0,none⟩) 2 2),(79,.slice (some ⟨x.2,0,none⟩) 2 2)])
   (λx w'=>Ext bl w'/\Blk w' x.1 147 (Jp [ayV 5,ayV 1])/\Blk w' x.2 147 (Jp [ayV 1,ayV 2])) ?_ ?_
  .rintro⟨J,b7⟩ d5 ⟨aq,bj,bi⟩;refine Vq (fuel':=0) [(1,35),(1,36),(0,37),(0,38)] (lst 39 39) kr kr rfl ?_;refine ρd ?_;refine Un (ay2R _ _ _ _ _ _ _ _ rfl rfl) ?_;intro ca cq Z cz c3;have ae:RowsV ca (.slice (some ⟨cq,0,none⟩) 2 2) ([ay2,ay1].map (pmR [1,0])):=by
    refine Jgr [(.slice (some ⟨J,0,none⟩) 2 2,[ayV 5,ayV 1]),(.slice (some ⟨b7,0,none⟩) 2 2,[ayV 1,ayV 2])] c3 (λp hp=>?_) (by simp);simp only[List.mem_cons,List.not_mem_nil,or_false]at hp;rcases hp with rfl|rfl
    .exact Il (r:=[ayV 5,ayV 1]) (bj.ext Z) (by decide)
    exact Il (r:=[ayV 1,ayV 2]) (bi.ext Z) (by decide)
   refine Jh (Jhp (hC.ext ((a3.trans aq).trans Z)) ae) ?_;rintro _ d4 ⟨rfl,ap⟩;refine⟨ap,?_⟩;refine ρd ?_;refine Vx ?_;refine gend kr ?_;refine ρ ?_;exact Jj ⟨rfl,(((be.trans a4).trans a3).trans aq).trans (Z.trans ap)⟩
  intro rest;refine Io 31 32 kr rfl rfl rfl ?_ ?_
  .refine Qk (Ze _ _) ?_;intro v1 b1 D _ bh;refine Jd (Yq D ?_);refine Vq (fuel':=4) [(1,32),(1,33),(1,34)] (lst 39 35) kr kr rfl ?_;refine Jh (Zb 1 _) ?_;rintro _ v2 ⟨rfl,C⟩;refine⟨C,?_⟩;refine Jh (Zb 2 _) ?_;rintro _ v3 ⟨rfl,i⟩;refine⟨i,?_⟩;refine ρd ?_;refine Un (Ze _ _) ?_;intro v4 J o _ G;refine Zc (Vx ?_);exact rest (b1,J) _ _ ⟨((D.trans C).trans i).trans o,((bh.ext C).ext i).ext o,G⟩ sB
  refine clR (Zb 1 _) ?_;rintro _ v1 ⟨rfl,D⟩;refine Jd (Yq D ?_);refine Io 31 33 kr rfl rfl rfl ?_ ?_
  .refine Qk (Ze _ _) ?_;intro v2 b2 C _ bg;refine Jd (Yq C ?_);refine Vq (fuel':=4) [(1,33),(1,34)] (lst 39 35) kr kr rfl ?_;refine Jh (Zb 2 _) ?_;rintro _ v3 ⟨rfl,i⟩;refine⟨i,?_⟩;refine ρd ?_;refine Un (Ze _ _) ?_;intro v4 J o _ G;refine Zc (Vx ?_);exact rest (b2,J) _ _ ⟨((D.trans C).trans i).trans o,(bg.ext i).ext o,G⟩ sB
  refine clR (Zb 2 _) ?_;rintro _ v2 ⟨rfl,C⟩;refine Jd (Yq C ?_);refine Io 31 34 kr rfl rfl rfl ?_ ?_
  .refine Qk (Ze _ _) ?_;intro v3 b3 i _ U;refine Jd (Yq i ?_);refine Vq (fuel':=4) [(1,34)] (lst 39 35) kr kr rfl ?_;refine ρd ?_;refine Un (Ze _ _) ?_;intro v4 J o _ G;refine Zc (Vx ?_);exact rest (b3,J) _ _ ⟨((D.trans C).trans i).trans o,U.ext o,G⟩ sB
  refine Qk (Ze _ _) ?_;intro v3 b3 i _ U;refine Jd (Yq i ?_);refine Vq (fuel':=4) [(1,31)] (lst 39 35) kr kr rfl ?_;refine ρd ?_;refine Un (Ze _ _) ?_;intro v4 J o _ G;refine Zc (Vx ?_);exact rest (J,b3) _ _ ⟨((D.trans C).trans i).trans o,G,U.ext o⟩ sB
 intro rest;refine Io 4 5 kr rfl rfl rfl ?_ ?_
 .refine Qk (Ze _ _) ?_;intro v1 b1 D _ bh;refine Jd (Yq D ?_);refine Vq (fuel':=31) [(1,5),(1,6),(1,7)] (lst 39 8) kr kr rfl ?_;refine Jh (Zb 2 _) ?_;rintro _ v2 ⟨rfl,C⟩;refine⟨C,?_⟩;refine Jh (Zb 1 _) ?_;rintro _ v3 ⟨rfl,i⟩;refine⟨i,?_⟩;refine ρd ?_;refine Un (Ze _ _) ?_;intro v4 J o _ G;refine Zc (Vx ?_);exact rest (b1,J) _ _ ⟨((D.trans C).trans i).trans o,((bh.ext C).ext i).ext o,G⟩ sB
 refine clR (Zb 2 _) ?_;rintro _ v1 ⟨rfl,D⟩;refine Jd (Yq D ?_);refine Io 4 6 kr rfl rfl rfl ?_ ?_
 .refine Qk (Ze _ _) ?_;intro v2 b2 C _ bg;refine Jd (Yq C ?_);refine Vq (fuel':=31) [(1,6),(1,7)] (lst 39 8) kr kr rfl ?_;refine Jh (Zb 1 _) ?_;rintro _ v3 ⟨rfl,i⟩;refine⟨i,?_⟩;refine ρd ?_;refine Un (Ze _ _) ?_;intro v4 J o _ G;refine Zc (Vx ?_);exact rest (b2,J) _ _ ⟨((D.trans C).trans i).trans o,(bg.ext i).ext o,G⟩ sB
 refine clR (Zb 1 _) ?_;rintro _ v2 ⟨rfl,C⟩;refine Jd (Yq C ?_);refine Io 4 7 kr rfl rfl rfl ?_ ?_
 .refine Qk (Ze _ _) ?_;intro v3 b3 i _ U;refine Jd (Yq i ?_);refine Vq (fuel':=31) [(1,7)] (lst 39 8) kr kr rfl ?_;refine ρd ?_;refine Un (Ze _ _) ?_;intro v4 J o _ G;refine Zc (Vx ?_);exact rest (b3,J) _ _ ⟨((D.trans C).trans i).trans o,U.ext o,G⟩ sB
 refine Qk (Ze _ _) ?_;intro v3 b3 i _ U;refine Jd (Yq i ?_);refine Vq (fuel':=31) [(1,4)] (lst 39 8) kr kr rfl ?_;refine ρd ?_;refine Un (Ze _ _) ?_;intro v4 J o _ G;refine Zc (Vx ?_);exact rest (J,b3) _ _ ⟨((D.trans C).trans i).trans o,G,U.ext o⟩ sB
open Go.RowKit Pl Go.Wk
variable {B0 k pc:Nat}
theorem Qpr(A B C D E:Option Addr)(a b c d e a' b' c' d' e':Nat): Zo Tryz.prog (.iface 100 (.agg #[.slice A a a',.slice B b b',.slice C c c',.slice D d d',.slice E e e'])) "Len" 281 (.agg #[.slice A a a',.slice B b b',.slice C c c',.slice D d d',.slice E e e']):=⟨_,_,rfl,λw=>kr,λw=>kr⟩
theorem mIxAt(A B C D E:Option Addr)(a b c d e a' b' c' d' e':Nat): Zo Tryz.prog (.iface 100 (.agg #[.slice A a a',.slice B b b',.slice C c c',.slice D d d',.slice E e e'])) "At" 41 (.agg #[.slice A a a',.slice B b b',.slice C c c',.slice D d d',.slice E e e']):=⟨_,_,rfl,λw=>kr,λw=>kr⟩
theorem Qpq(A B C D E:Option Addr)(a b c d e a' b' c' d' e':Nat): Zo Tryz.prog (.iface 100 (.agg #[.slice A a a',.slice B b b',.slice C c c',.slice D d d',.slice E e e'])) "Rank" 39 (.agg #[.slice A a a',.slice B b b',.slice C c c',.slice D d d',.slice E e e']):=⟨_,_,rfl,λw=>kr,λw=>kr⟩
section
variable {w:World} {x:Value} {f:Nat} {ds:List Bool} {kf:Nat->Nat} {pf:Nat->Int} {BB:Nat->List BkT} {tot:Nat} {L:List Row}
theorem IxA.five(h:IxA w x f ds kf pf BB tot L): ∃ A B C D E a b c d e a' b' c' d' e',x=.agg #[.slice A a a',.slice B b b',.slice C c c',.slice D d d',.slice E e e']:=by
 obtain⟨DA,O,BA,cb,KA,Z,u,U,G,o,j,rfl,_,_,_,_,_,_,i,_⟩:=h.ix.ex;obtain⟨TA,J,rfl,_⟩:=i;exact⟨_,_,_,_,_,_,_,_,_,_,_,_,_,_,_,rfl⟩
theorem Qsr(h:IxA w x f ds kf pf BB tot L): Ret Tryz.prog 281 [x] w λu w'=>NatV w' u L.length/\Ext w w':=by
 obtain⟨A,B,C,D,E,a,b,c,d,e,a',b',c',d',Z,rfl⟩:=h.five;refine enE Tryz.func281 Tryz.ntmps281 ?_;refine bxR ?_;intro U b1 i J o;refine Qq o ?_;refine clR (Jhd (h.ix.ext i) h.ip.nbT) ?_;rintro u O ⟨G,_,j⟩;refine ρ ?_;rw[h.ip.len]at G;exact Jj ⟨G,i.trans j⟩
theorem Qss(h:IxA w x f ds kf pf BB tot L){kv:Value}(hk:NatV w kv k): Ret Tryz.prog 41 [x,kv] w λu w'=>Ut w f BB L k u w'/\Ext w w':=by
 obtain⟨A,B,C,D,E,a,b,c,d,e,a',b',c',d',e',rfl⟩:=h.five;refine enE Tryz.func41 Tryz.ntmps41 ?_;refine bxR ?_;intro w1 b1 i O J;refine Qq J ?_;refine clR (Xkw (h.ext i) (hk.ext i)) ?_;rintro u w2 ⟨o,j⟩;have G:=i.size;unfold Ut at j ⊢;cases hL:L[k]? with
 | none=>
  rw[hL]at j;simp only at j;subst j;refine ρ ?_;exact Zz ⟨rfl,i.trans o⟩
 | some r=>
  rw[hL]at j;obtain⟨RA,rc,st,rfl,h1,h2,h3,Z,U⟩:=j;refine ρ ?_;exact Zz ⟨⟨RA,rc,st,rfl,h1,h2,h3,Z,λh0 ad e=>nL G (U h0 ad e)⟩,i.trans o⟩
theorem Qsp(tb:TB B0 w)(h:IxA w x f ds kf pf BB tot L){PA:Option Addr}{q:Row}(hq:RdR w PA q)(hqc:q.length<=pc):
  Ret Tryz.prog 39 [x,.slice PA q.length pc] w λu w'=>Ext w w'/\(q.length≠f->u=.tuple #[.slice none 0 0,.bool false,.int .i64 0,.int .i64 6]) /\
   (q.length=f->∃(kv:Value) (st:Nat),u=.tuple #[kv,.bool (decide (0<(wiL L q).length)),.int .i64 (st:Int),.int .i64 0]/\NatV w' kv (Xt ds L q)/\st<=Qc f λv=>hmB (BB v)):=by
 obtain⟨A,B,C,D,E,a,b,c,d,e,a',b',c',d',e',rfl⟩:=h.five;refine enE Tryz.func39 Tryz.ntmps39 ?_;refine bxR ?_;intro w1 b1 i U G;refine Qq G ?_;refine clR (Qgt (tb.ext i) (h.ext i) (Rd.ext hq i) hqc) ?_;rintro u w2 ⟨j,o,J⟩;by_cases e:q.length=f
 .obtain⟨kv,st,rfl,h1,Z⟩:=J e;refine ρ ?_;exact Ks ⟨i.trans j,λO=>absurd e O,λ_=>⟨kv,st,rfl,h1,Z⟩⟩
 obtain rfl:=o e;refine ρ ?_;exact Ks ⟨i.trans j,λ_=>rfl,λO=>absurd O e⟩
theorem IxA.arr(h:IxA w x f ds kf pf BB tot L)(hs:Lt ds L)(hrow:∀ y∈L,y.length=f)(hl:L.length<=1100000)(hb:Qc f (λv=>hmB (BB v))<=100000000): ArrW w (.iface 100 x) L (Qc f λv=>hmB (BB v)):=by
 obtain⟨A,B,C,D,E,a,b,c,d,e,a',b',c',d',e',rfl⟩:=h.five;refine⟨⟨_,_,Qpr _ _ _ _ _ _ _ _ _ _ _ _ _ _ _,λw' G=>Qsr (h.ext G)⟩,⟨_,_,mIxAt _ _ _ _ _ _ _ _ _ _ _ _ _ _ _,λw' G k vk hk a3=>(Qss (h.ext G) hk).mono ?_⟩,⟨_,_,Qpq _ _ _ _ _ _ _ _ _ _ _ _ _ _ _,λw' G i vr hi hr=>?_⟩,hl,hb⟩
 .rintro u w2 ⟨J,o⟩;refine⟨?_,o⟩;unfold Ut at J;unfold AyR;by_cases hk':k<L.length
  .rw[if_pos hk'];rw[getD_some hk']at J;obtain⟨RA,rc,st,rfl,O,h2,h3,h4,_⟩:=J;exact⟨_,st,rfl,⟨RA,rc,rfl,h2,by have:=h.ip.f32;omega,O⟩,h4⟩
  rw[if_neg hk'];rw[List.getElem?_eq_none om]at J;exact⟨0,J,Nat.zero_le _⟩
 obtain⟨RA,rc,rfl,U,a2,Z⟩:=hr;obtain⟨B0,tb⟩:=h.tb;have j:=getD_mem' [] L hi;refine(Qsp (tb.ext G) (h.ext G) Z U).mono ?_;rintro u w2 ⟨o,_,a1⟩;obtain⟨kv,st,rfl,O,h2⟩:=a1 (hrow _ j);rw[Xqs hrow (hrow _ j)]at O;have hc:(L.filter λy=>decide (Jw y (L.getD i []) ds<0)).length=i:=Qkb hs hi;rw[hc]at O;refine⟨⟨kv,st,?_,O,h2⟩,o⟩;have hp:0<(wiL L (L.getD i [])).length:=List.length_pos_of_mem (List.mem_filter.2 ⟨j,by simp⟩);rw[decide_eq_true hp]
end
open Go.RowKit Pl Go.Wk
theorem Qtb{bs:List BkT}{B:Nat}(h:∀ b∈bs,b.2.ht<=B): hmB bs<=B:=by
 have key:∀(l:List BkT) (m:Nat),m<=B->(∀ b∈l,b.2.ht<=B)->l.foldl (λm b=>max m b.2.ht) m<=B:=by
  intro l;induction l with
  | nil=>intro m i _;exact i
  | cons b l ih=>intro m i j;exact ih _ (Nat.max_le.2 ⟨i,j b mC⟩) λc o=>j c (List.mem_cons_of_mem _ o)
 exact key bs 0 (Nat.zero_le _) h
theorem bldIn(A B C D E:Option Addr)(a b c d e a' b' c' d' e':Nat)(w:World): (Instr.build 100 #[(0,.agg #[.slice A a a',.slice B b b',.slice C c c',.slice D d d',.slice E e e'])]).run Tryz.prog w=.ok (.agg #[.slice A a a',.slice B b b',.slice C c c',.slice D d d',.slice E e e']) w:=kr
open Go.RowKit Pl Go.Wk
variable {L ls:List Row}{B0 f k pc qc:Nat}{pf:Nat->Int}{BB:Nat->List BkT}{PA QA:Option Addr}{q:Row}{u u' v:Value}{w w':World}
theorem Qtk(h:RowsV w v ls): Ret Tryz.prog 37 [v] w λx w'=>(∃ b,x=.bool b)/\Ext w w':=by
 obtain⟨ps,A,c,rfl,rfl,h3,h4,h5,h6⟩:=h;refine enE Tryz.func37 Tryz.ntmps37 ?_;refine ρ ?_;refine Qy (fun (k:Nat)=>[(0,.slice A ps.length c),(7,.slice A ps.length c),(8,.int .i64 (ps.length:Int)),(9,.int .i64 (k:Int))])
  (λk w'=>k<=ps.length/\Ext w w') (λk=>ps.length-k) 0 sB ⟨Nat.zero_le _,Ext.refl w⟩ ?_
 rintro k w1 ⟨hk,o⟩;refine ciR (λh=>?_) (λh=>?_)
 .have O:k<ps.length:=by have:=oT h;omega
  obtain⟨B,bc,a2,a8,a7,a5⟩:=h6 _ (getD_mem' z0 ps O);have C:=(h5.ext o).cell (Gs O);rw[a2]at C;generalize hr:(ps.getD k z0).2=r at *
  refine ixR k (h5.ext o) O ?_;refine ldR C ?_;refine ciR (λh=>?_) (λh=>?_)
  .refine ρ ?_;exact Jj ⟨⟨_,rfl⟩,o⟩
  refine ρ ?_;refine Qy (fun (j:Nat)=>[(0,.slice A ps.length c),(7,.slice A ps.length c),(8,.int .i64 (ps.length:Int)),(9,.int .i64 (k:Int)),(16,.slice B r.length bc),(17,.int .i64 (r.length:Int)),(18,.int .i64 (j:Int))])
   (λj w'=>j<=r.length/\Ext w w') (λj=>r.length-j) 0 sB ⟨Nat.zero_le _,o⟩ ?_
  rintro j w2 ⟨hj,D⟩;refine ciR (λh=>?_) (λh=>?_)
  .have U:j<r.length:=by have:=oT h;omega
   have J:RdR w2 B r:=Rd.ext a5 D;refine Qp 3 j J U ?_;refine Js (λi u hu=>RdR.cell J U hu) ?_;refine Jv (cs:=[.int .i64 0,.int .i64 0,.string ⟨#[]⟩]) Uv ?_;intro w3 b a1 a9 a4;refine Qb a4 (cs':=(r.getD j V0).cells) ?_ (V.one _);intro w4 a3 a6 Z;have G:Ext w w4:=Z w (D.trans a1) (by have:=D.size;omega);refine ldR (a3.at (i:=2) rfl) ?_;refine ciR (λh=>?_) (λh=>?_)
   .refine ρ ?_;exact Jj ⟨⟨_,rfl⟩,G⟩
   refine ρ ?_;exact Qw (j+1) sB ⟨om,G⟩ om
  refine ρ ?_;exact Qw (k+1) sB ⟨om,D⟩ om
 refine ρ ?_;exact Jj ⟨⟨_,rfl⟩,o⟩
def RkX(f:Nat)(ds:List Bool)(kf:Nat->Nat)(pf:Nat->Int)(BB:Nat->List BkT)(tot:Nat)(L:List Row)(q:Row)(u:Value)(w:World): Prop:=(q.length≠f->u=.tuple #[.slice none 0 0,.bool false,.int .i64 0,.int .i64 6]) /\
 (q.length=f->∃(kv:Value) (st:Nat),u=.tuple #[kv,.bool (decide (0<(wiL L q).length)),.int .i64 (st:Int),.int .i64 0]/\NatV w kv (Xt ds L q)/\(st<=Qc f λv=>hmB (BB v))/\(tot=0->st=0)/\(tot≠0->DsN (Qs f kf pf BB).Gp ds (kT kf BB) q st))
theorem RkX.two{ds:List Bool}{kf:Nat->Nat}{tot:Nat}(h:RkX f ds kf pf BB tot L q u w)(h':RkX f ds kf pf BB tot L q u' w'):
  ∃(A A':Option Addr) (a a' c c' n:Nat) (b:Bool) (st e:Int),u=.tuple #[.slice A a c,.bool b,.int .i64 st,.int .i64 e]/\u'=.tuple #[.slice A' a' c',.bool b,.int .i64 st,.int .i64 e]/\NatV w (.slice A a c) n/\NatV w' (.slice A' a' c') n:=by
 by_cases e:q.length=f
 .obtain⟨kv,st,rfl,o,_,Z,U⟩:=h.2 e;obtain⟨C,i,rfl,j,_,G,D⟩:=h'.2 e;have J:st=i:=by
   by_cases h0:tot=0
   .rw[Z h0,G h0]
   exact(U h0).uniq (λy m O=>O.pre m) (D h0)
  subst J;obtain⟨A,c,rfl,_⟩:=id o;obtain⟨A',c',rfl,_⟩:=id j;exact⟨A,A',_,_,c,c',_,_,st,0,rfl,rfl,o,j⟩
 rw[h.1 e,h'.1 e];exact⟨none,none,0,0,0,0,0,false,0,6,rfl,rfl,NatV.nil _,NatV.nil _⟩
theorem Qvh{kf:Nat->Nat}{w0 w0':World}(h:Ut w0 f BB L k u w)(hn:AtN f kf pf BB L k u)(h':Ut w0' f BB L k u' w')(hn':AtN f kf pf BB L k u')(hf:f<=1100000):
  ∃(A A':Option Addr) (a a' c c':Nat) (r:Row) (st e:Int),u=.tuple #[.slice A a c,.int .i64 st,.int .i64 e]/\u'=.tuple #[.slice A' a' c',.int .i64 st,.int .i64 e]/\RowV w (.slice A a c) r/\RowV w' (.slice A' a' c') r:=by
 unfold Ut at h h';cases hL:L[k]? with
 | none=>
  rw[hL]at h h';simp only at h h';subst h;subst h';exact⟨none,none,0,0,0,0,[],0,3,rfl,rfl,⟨none,0,rfl,by simp,by simp,Rd.nil⟩,⟨none,0,rfl,by simp,by simp,Rd.nil⟩⟩
 | some r=>
  rw[hL]at h h';obtain⟨A,c,st,rfl,O,J,h3,_⟩:=h;obtain⟨A',c',i,rfl,D,C,k3,_⟩:=h';obtain⟨v,e,Z⟩:=hn r hL;obtain⟨v',e',U⟩:=hn' r hL;have o:st=acN (Qs f kf pf BB) (kT kf BB) f [] k:=by simp at Z;omega
  have j:i=acN (Qs f kf pf BB) (kT kf BB) f [] k:=by simp at U;omega
  have G:st=i:=by rw[o,j]
  subst G;exact⟨A,A',_,_,c,c',r,st,0,rfl,rfl,⟨A,c,rfl,J,om,O⟩,⟨A',c',rfl,C,om,D⟩⟩
section
variable {w:World} {x:Value} {f:Nat} {ds:List Bool} {kf:Nat->Nat} {pf:Nat->Int} {BB:Nat->List BkT} {tot:Nat} {L:List Row}
theorem Qst(h:IxA w x f ds kf pf BB tot L){kv:Value}(hk:NatV w kv k): Ret Tryz.prog 41 [x,kv] w λu w'=>(∃ w0,Ut w0 f BB L k u w')/\AtN f kf pf BB L k u/\Ext w w':=by
 obtain⟨A,B,C,D,E,a,b,c,d,e,a',b',c',d',e',rfl⟩:=h.five;refine enE Tryz.func41 Tryz.ntmps41 ?_;refine bxR ?_;intro Z b1 j O J;refine Qq J ?_;refine clR (Jmk (h.ext j) (hk.ext j)) ?_;rintro u U ⟨o,G,hn⟩;have i:=G;unfold Ut at i;cases hL:L[k]? with
 | none=>
  rw[hL]at i;simp only at i;subst i;refine ρ ?_;exact Zz ⟨⟨_,G⟩,hn,j.trans o⟩
 | some r=>
  rw[hL]at i;obtain⟨RA,rc,st,rfl,h1,h2,h3,h4,h5⟩:=i;refine ρ ?_;exact Zz ⟨⟨_,G⟩,hn,j.trans o⟩
theorem Qsq(tb:TB B0 w)(h:IxA w x f ds kf pf BB tot L)(hq:RdR w PA q)(hqc:q.length<=pc):
  Ret Tryz.prog 39 [x,.slice PA q.length pc] w λu w'=>Ext w w'/\RkX f ds kf pf BB tot L q u w':=by
 obtain⟨A,B,C,D,E,a,b,c,d,e,a',b',c',d',e',rfl⟩:=h.five;refine enE Tryz.func39 Tryz.ntmps39 ?_;refine bxR ?_;intro U b1 i J o;refine Qq o ?_;refine clR (Jfm (tb.ext i) (h.ext i) (Rd.ext hq i) hqc) ?_;rintro u O ⟨j,G⟩;obtain⟨A1,_,a1,_,c1,_,Z,b2,st,e2,rfl,_,_,_⟩:=RkX.two G G;refine ρ ?_;exact Ks ⟨i.trans j,G⟩
end
theorem zInd: Qa Tryz.prog 100=some (.agg #[.slice none 0 0,.slice none 0 0,.slice none 0 0,.slice none 0 0,.slice none 0 0]):=kr
theorem Xwf{cs:List Value}{c:Cse}{k:Int}(hTB:TB B0 w)(hC:CseV w cs c)(hfit:∀ i,i<c.rss.length->∀ r∈c.rss.getD i [],∀ u∈r,Zl u)(hq:RowV w (.slice QA q.length qc) q)(hk:0<=k/\k<=65535):
  Ret Tryz.prog 6 [.agg cs.toArray,.slice QA q.length qc,.int .u16 k] w λu w'=>u=.bool true/\Ext w w':=by
 obtain⟨dA,dc,pA,pc,vA,vc,rA,rc,rfl,hD,hP,hV,hR,hn,hf⟩:=id hC;obtain⟨kn,rfl⟩:=Int.eq_ofNat_of_zero_le hk.1;refine enE Tryz.func6 Tryz.ntmps6 ?_;refine bxR ?_;intro w1 b3 bb dl cr;refine Qq cr ?_;refine clR (Xxp (hTB.ext bb) (hC.ext bb) hfit) ?_;rintro u w2 ⟨cd,cm⟩;have ar:=bb.trans cd;rcases cm with⟨rfl,_⟩|⟨ats,x,av,kf,pf,BB,tot,hok,rfl,hIx,hav⟩
 .refine Jv Jqz ?_;intro w3 b7 ba bc bg;refine Xn bg ?_;intro w4 ay cj b9;have J:Ext w2 w4:=b9 w2 ba bc;refine clR (Jmg _) ?_;rintro _ w5 ⟨rfl,a9⟩;refine ρ ?_;exact Jj ⟨rfl,(ar.trans J).trans a9⟩
 obtain⟨IA,IB,IC,ID,IE,ia,ib,ic,bj,ie,bn,bm,bl,bi,bh,rfl⟩:=hIx.five;obtain⟨AA,ac,du,rfl⟩:∃ A n k,av=.slice A n k:=by obtain⟨_,A,k,_,e,_⟩:=id hav;exact⟨A,_,k,e⟩
 have co:=hok.fF;have dm:=hok.nN;have c6:=hok.ans.1;have cn:=hok.anl;have be:∀ y∈c.ans,y.length=c.F:=λy hy=>hok.arow hy;obtain⟨f,ck⟩:∃ f,f=c.F:=⟨_,rfl⟩;obtain⟨L,hL⟩:∃ L,L=c.ans:=⟨_,rfl⟩;rw[<-ck]at co be hIx;rw[<-hL]at c6 cn be hIx hav;refine Jv Jqz ?_;intro w3 b7 ba bc bg;refine Xn bg ?_;intro w4 ay cj b9;have J:Ext w2 w4:=b9 w2 ba bc;have bs:=ar.trans J;refine Qk (λw=>Jkd _ w QA _ qc rfl) ?_;intro w5 b5 a9 dk cq;have aq:=bs.trans a9;refine clR (Qtk (ls:=[q]) ⟨[(.slice QA q.length qc,q)],some ⟨b5,0,none⟩,1,rfl,rfl,Nat.le_refl _,by simp,cq.rd rfl,λp hp=>by rw[List.mem_singleton.1 hp];exact hq.ext aq⟩) ?_;rintro _ w6 ⟨⟨gb,rfl⟩,b8⟩;have ap:=aq.trans b8;refine ciR (λh=>?_) (λh=>?_)
 .clear h;refine clR (Jmg _) ?_;rintro _ w7 ⟨rfl,b6⟩;refine ρ ?_;exact Jj ⟨rfl,ap.trans b6⟩
 clear h;have bo:=(J.trans a9).trans b8;have ax:=(ay.ext a9).ext b8;refine Qq ax ?_;refine Zj (bldIn _ _ _ _ _ _ _ _ _ _ _ _ _ _ _ _) ?_;refine Jv zInd ?_;intro w7 dt b6 c3 c7;refine Xn c7 ?_;intro w8 bf di cc;have a8:Ext w6 w8:=cc w6 b6 c3;have an:=bo.trans a8;have o:=ap.trans a8;have au:=ax.ext a8;obtain⟨dz,de,e,bw,dh,bv⟩:=id hq;injection e with e1 _ e3
 subst e1;subst e3;have ag:=hIx.ext an;refine Qq bf ?_;refine clR (Qsq (hTB.ext o) ag (Rd.ext bv o) bw) ?_;rintro u9 w9 ⟨cb,bd⟩;obtain⟨A1,_,a1,_,c1,_,_,rb,da,re,aj,_,_,_⟩:=RkX.two bd bd;subst aj;have D:=cb;refine Qq (au.ext D) ?_;refine clR (Jfm (hTB.ext (o.trans D)) (ag.ext D) (Rd.ext bv (o.trans D)) bw) ?_;rintro d9 b1 ⟨ao,c4⟩;obtain⟨e2,A2,dx,a2,dq,c2,n1,dd,cv,db,aj,ca,ch,c0⟩:=RkX.two bd c4;simp at aj;obtain⟨⟨rfl,rfl,rfl⟩,rfl,rfl,rfl⟩:=aj;subst ca;have b4:=D.trans ao;refine ρ ?_;have a4:Ext b1 b1.drew:=(Ext.refl b1).drew;have am:=b4.trans a4;refine dr (scq 12 [3,4]) kr ?_;refine Qh (cs:=[.slice IA ia bn,.slice IB ib bm,.slice IC ic bl,.slice ID bj bi,.slice IE ie bh]) (λj u hu=>(bf.ext am).at hu) ?_;refine ρd ?_;rw[Kr (z:=(kn:Int)) om];refine dcl (Jqd (n:=kn) om _) ?_;rintro nk d5 ⟨cg,ad⟩;refine⟨ad,?_⟩;have a7:=am.trans ad;refine Jh (Qst (ag.ext a7) cg) ?_
 rintro d8 az ⟨⟨d6,ah⟩,af,ab⟩;refine⟨ab,?_⟩;have dj:f<=6:=om
 obtain⟨B1,_,p1,_,d1,_,_,dv,ae,a3,_,_,_⟩:=Qvh ah af ah af om;subst a3;have b2:=a7.trans ab;refine ρd ?_;refine ρ ?_;have G:Ext az az.drew:=(Ext.refl az).drew;have ak:=b2.trans G;refine dr (scq 12 [3,4]) kr ?_;refine Qh (cs:=[.slice IA ia bn,.slice IB ib bm,.slice IC ic bl,.slice ID bj bi,.slice IE ie bh]) (λj u hu=>(au.ext ak).at hu) ?_;refine ρd ?_;rw[Kr (z:=(kn:Int)) om];refine dcl (Jqd (n:=kn) om _) ?_;rintro dg d4 ⟨bz,U⟩;refine⟨U,?_⟩;have a6:=ak.trans U;refine Jh (Jmk (ag.ext a6) bz) ?_;rintro d7 d3 ⟨O,c8,c5⟩;refine⟨O,?_⟩;obtain⟨e0,B2,df,p2,dn,d2,r,cw,dw,a3,c9,bu,bt⟩:=Qvh ah af c8 c5 om;simp at a3;obtain⟨⟨rfl,rfl,rfl⟩,rfl,rfl⟩:=a3;subst c9;have a5:=a6.trans O;have Z:=((((a4.trans ad).trans ab).trans G).trans U).trans O;have ai:=(G.trans U).trans O;have ce:=o.trans a5;refine ρd ?_;refine clR (Gk (ch.ext (ao.trans Z)) (c0.ext Z)) ?_
 rintro _ d0 ⟨rfl,aa⟩;rw[cmq_eq.2 rfl];refine ρ ?_;refine eqb ?_;refine ρ ?_;refine Go.Wk.kt 92 ?_ ?_
 .exact beq_self_eq_true _
 refine ρ ?_;refine Go.Wk.kt 97 ?_ ?_
 .exact beq_self_eq_true _
 refine ρ ?_;refine Go.Wk.kt 102 ?_ ?_
 .exact beq_self_eq_true _
 refine clR (Jyp (bu.ext (ai.trans aa)) (bt.ext aa)) ?_;rintro _ cz ⟨rfl,br⟩;rw[decide_eq_true rfl];refine ρ ?_;refine Go.Wk.kt 112 ?_ ?_
 .exact beq_self_eq_true _
 refine ρ ?_;refine Go.Wk.kt 117 ?_ ?_
 .exact beq_self_eq_true _
 have C:=(a5.trans aa).trans br;refine Qq (bf.ext C) ?_;refine ρ ?_;refine mki Tryz.underlying100 (λms e=>by cases e) ?_;have cp:Qc f (λv=>hmB (BB v))<=100000000:=by
  have h1:∀ n,Qc n (λv=>hmB (BB v))<=n*65536:=by
   intro n;induction n with
   | zero=>exact Nat.zero_le _
   | succ n ih=>
    rw[Qc,Nat.succ_mul];have:hmB (BB n)<=65536:=Qtb λb hb=>hIx.hb n b hb;omega
  have:=h1 f;omega
 refine clR (Jhp ((ag.ext C).arr c6 be om cp) (hav.ext (an.trans C))) ?_;rintro _ cy ⟨rfl,bq⟩;refine clR (Jmg _) ?_;rintro _ cx ⟨rfl,bp⟩;refine ρ ?_;exact Jj ⟨rfl,((o.trans C).trans bq).trans bp⟩
end Go.Proofs.YtgobkbeokaaplaaGreatDoor
namespace Go.Proofs.YtgobkbeokaaplaaGreatDoor
open Go.RowKit Pl Go.Wk Go.ChangeShapes Go.WideShapes
theorem Xwd{B0:Nat}{w:World}{v vy:Value}{k:Int}(hTB:TB B0 w)(h:Qyj w v)(hy:∃ r,RowE w vy r)(hk:0<=k/\k<=65535): Ret Tryz.prog 6 [v,vy,.int .u16 k] w λu w'=>u=.bool true/\Ext w w':=by
 obtain⟨cs,c,rfl,o,j⟩:=h;obtain⟨r,i,_⟩:=hy;obtain⟨D,C,rfl,_⟩:=id i;exact Xwf hTB o j i hk
end Go.Proofs.YtgobkbeokaaplaaGreatDoor
