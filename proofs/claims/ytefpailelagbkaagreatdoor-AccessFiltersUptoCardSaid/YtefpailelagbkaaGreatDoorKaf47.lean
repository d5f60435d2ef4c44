/- Part 2 of the proof: Mkr, MkS, LwE, Qe. -/
import Derived.Test.YtefpailelagbkaaGreatDoorKaf46
set_option linter.unusedVariables false
set_option maxRecDepth 100000
set_option maxHeartbeats 40000000
namespace Go.Wk
open Go.RowKit
structure SF where
 p: Value->World->Prop
 st:∀ {v:Value} {w w':World},p v w->Ext w w'->p v w'
def depB(o:Oper)(k:Nat): Bool:=o.after.any λe=>Region.binds .any e && e.on == k
def accB(l:List Oper): Bool:=(List.range l.length).all λi=>match nth l i with
 | some o=>o.after.all λe=>!Region.binds .any e || Nat.blt e.on i
 | none=>true
def slM(vs:Nat->Value)(al:AL): List Nat->Nat->AL
 | [],_=>al
 | d::r,i=>(d,vs i)::slM vs al r (i+1)
theorem lk_slM_no{vs:Nat->Value}{al:AL}{t:Nat}: ∀ {ds:List Nat} {i:Nat},t ∉ ds->lk (slM vs al ds i) t=lk al t
 | [],_,_=>rfl
 | d::r,i,h=>by
  unfold slM;rw [Jfn _ _ (λe=>h (by rw [e];exact mC ..))];exact lk_slM_no λh'=>h (List.mem_cons_of_mem _ h')
theorem lk_slM_at{vs:Nat->Value}{al:AL}: ∀ {ds:List Nat} {i j:Nat},ds.Nodup->j<ds.length->lk (slM vs al ds i) (ds.getD j 0)=some (vs (i+j))
 | [],_,_,_,h=>by simp at h
 | d::r,i,0,_,_=>by unfold slM;simp [Jfp]
 | d::r,i,j+1,hn,hj=>by
  have hn':=List.nodup_cons.1 hn;have hj':j<r.length:=by simpa using hj
  unfold slM;have e:(d::r).getD (j+1) 0=r.getD j 0:=by simp
  rw [e];have hm:r.getD j 0∈r:=by rw [List.getD_eq_getElem?_getD,List.getElem?_eq_getElem hj'];exact List.getElem_mem hj'
  rw [Jfn _ _ (λe=>hn'.1 (by rw [e];exact hm)),lk_slM_at hn'.2 hj'];congr 2;omega
theorem mem_getD{ds:List Nat}{t:Nat}(h:t∈ds): ∃ j,j<ds.length/\ds.getD j 0=t:=by
 obtain ⟨j,i,e⟩:=List.getElem_of_mem h;exact ⟨j,i,by rw [List.getD_eq_getElem?_getD,List.getElem?_eq_getElem i];exact e⟩
section
variable {P:Program} {n:Nat} {al:AL} {w:World} {Q:Exit->Act->World->Prop} {ops:Array Oper}
def toM(G:Act->World->Prop): Exit->Act->World->Prop
 | .normal,a,w=>G a w
 | _,_,_=>False
theorem wpOp_of_M{i:Nat}{o:Oper}{G:Act->World->Prop}(ho:ops[i]?=some o)(h:WL P n ops (toM G) [o] al w): ∀ a,Fr n al a->wpOp P ops (QF Q) i G a w:=λa J=>by
 have j:=h a J;unfold wpList at j;unfold wpOp;simp only [ho];have u:¬ LetsOut (toM G):=by rintro ⟨a,w,h⟩;exact h
 split
 ·rename_i hw;simp only [hw,if_true]at j;rcases j with j|⟨_,j⟩
  ·left
   refine Oper.wp_mono (K:=wpList P ops (toM G) []) (λU w' O=>O) ?_;unfold Oper.wp at j ⊢;exact Jxf (Q:=toM G) (λc a w C=>C.elim) (λC=>absurd C u) j
  ·exact absurd j u
 ·rename_i hw;simp only [hw]at j;exact j
def PM(n:Nat)(al:AL)(w:World)(d:Nat)(F:SF)(a:Act)(w':World): Prop:=∃ v,Fr n ((d,v)::al) a/\Ext w w'/\F.p v w'
theorem mdone{w':World}{d:Nat}{v:Value}{F:SF}(hx:Ext w w')(h:F.p v w'): QX n (toM (PM n al w d F)) .normal ((d,v)::al) w':=λa i=>⟨v,i,hx,h⟩
def fiM(Fs:List SF)(k:Nat)(v:Value)(w:World): Prop:=(Fs.getD k ⟨λ_ _=>True,λ_ _=>trivial⟩).p v w
theorem fiM.ext{Fs:List SF}{k:Nat}{v:Value}{w w':World}(h:fiM Fs k v w)(hx:Ext w w'): fiM Fs k v w':=SF.st _ h hx
def OpM(P:Program)(n:Nat)(ops:Array Oper)(al:AL)(w0:World)(ds:List Nat)(Fs:List SF)(i:Nat)(o:Oper): Prop :=
 ∀ vs w1,Ext w0 w1->(∀ k,depB o k=true->fiM Fs k (vs k) w1)->WL P n ops (toM (PM n (slM vs al ds 0) w1 (ds.getD i 0) (Fs.getD i ⟨λ_ _=>True,λ_ _=>trivial⟩))) [o] (slM vs al ds 0) w1
def GoM(P:Program)(n:Nat)(ops:Array Oper)(al:AL)(w0:World)(ds:List Nat)(Fs:List SF): Nat->Nat->List Oper->Prop
 | 0,_,_=>True
 | _+1,_,[]=>True
 | m+1,i,o::r=>OpM P n ops al w0 ds Fs i o/\GoM P n ops al w0 ds Fs m (i+1) r
theorem GoM.get{w0:World}{ds:List Nat}{Fs:List SF}: ∀ {l:List Oper} {m s i:Nat} {o:Oper},GoM P n ops al w0 ds Fs m s l->i<m->l[i]?=some o->OpM P n ops al w0 ds Fs (s+i) o
 | [],_,_,_,_,_,_,h=>by simp at h
 | x::r,0,_,_,_,_,h0,_=>by omega
 | x::r,m+1,s,0,o,h,_,e=>by
  simp only [List.getElem?_cons_zero,Option.some.injEq]at e;subst e;exact h.1
 | x::r,m+1,s,i+1,o,h,h0,e=>by
  have:=GoM.get h.2 (by omega:i<m) (by simpa using e);rwa [show s+(i+1)=s+1+i by omega]
def ndB: List Nat->Bool
 | []=>true
 | d::r=>!(r.any λx=>Nat.beq d x) && ndB r
theorem ndB_spec: ∀ {ds:List Nat},ndB ds=true->ds.Nodup
 | [],_=>List.nodup_nil
 | d::r,h=>by
  simp only [ndB,Bool.and_eq_true,Bool.not_eq_true']at h;refine List.nodup_cons.2 ⟨λhm=>?_,ndB_spec h.2⟩;have:=List.any_eq_false.1 h.1 d hm;simp at this
def behB(ops:Array Oper)(F m q:Nat): Bool:=(List.range ops.size).all λi=>Nat.blt i m || (List.range m).all λj=>Nat.beq j q || Jnw ops F i j
theorem lst_get(m k i:Nat): (lst m k)[i]?=if i<m then some (Nat.blt i k) else none:=by
 unfold lst;by_cases h:i<m
 ·simp [h]
 ·simp [h]
theorem wpAnyC_M{T:Nat->Bool}{l:List Oper}{w0:World}{m q F fuel':Nat}{ds:List Nat}{Fs:List SF}(hml:m<=l.length)(hacc:accB l=true)(hbeh:behB l.toArray F m q=true)(hnd:ndB ds=true)(hlen:ds.length=m)(hfree:∀ d∈ds,lk al d=none)(hop:GoM P n l.toArray al w0 ds Fs m 0 l)(hend:∀ vs w1,Ext w0 w1->(∀ k,k<m->fiM Fs k (vs k) w1)->WH P n l.toArray Q T fuel' (lst l.length m) (slM vs al ds 0) w1)(hend2:q<m->∀ vs w1,Ext w0 w1->(∀ k,k<m->k≠q->fiM Fs k (vs k) w1)->WH P n l.toArray Q T (fuel'+1) ((lst l.length m).setIfInBounds q false) (slM vs al ds 0) w1):
  ∀ (us:List Nat) (listed:Array Bool) (a:Act) (w:World),us.Nodup->(∀ k,k<m->(listed.getD k true=false↔k∈us))->(∀ k,m<=k->k<l.length->listed.getD k true=false)->(∀ k∈us,k<m)->listed.size=l.length->Closed l.toArray listed->Fr n al a->Ext w0 w ->
   (∀ k,k<m->k ∉ us->fiM Fs k (a.tmps.getD (ds.getD k 0) undef) w)->Jwj P l.toArray Q T (us.length+fuel') listed a w:=by
 have hN:=ndB_spec hnd;have Z:∀ a:Act,Fr n al a->Fr n (slM (λj=>a.tmps.getD (ds.getD j 0) undef) al ds 0) a:=λa ha=>⟨ha.size,ha.defers,λt v h=>by
  by_cases hm:t∈ds
  ·obtain ⟨j,hj,e⟩:=mem_getD hm;rw [<-e,lk_slM_at hN hj]at h;simp only [Nat.zero_add,Option.some.injEq]at h;rw [<-e];exact h
  ·rw [lk_slM_no hm]at h;exact ha.has t v h⟩
 intro us;generalize hL:us.length=L
 induction L generalizing us with
 | zero=>
  intro listed a w hu J a6 a1 ag a2 ha hx hf;have aj:us=[]:=List.length_eq_zero_iff.1 hL;subst aj;have e:listed=lst l.length m:=by
   refine Array.ext_getElem? λi=>?_;rw [lst_get];by_cases hi:i<l.length
   ·rw [if_pos hi];have O:i<listed.size:=by omega
    by_cases a5:i<m
    ·have G:=J i a5;have C:listed.getD i true=true:=by
      cases hh:listed.getD i true with
      | true=>rfl
      | false=>exact absurd (G.1 hh) (by simp)
     simp [O]at C;simp [O,C,Nat.blt];omega
    ·have C:=a6 i (by omega) hi;simp [O]at C;have h3:Nat.blt i m=false:=by
      cases hh:Nat.blt i m with
      | false=>rfl
      | true=>exact absurd (show i+1<=m by simpa [Nat.blt] using hh) (by omega)
     simp [O,C,h3]
   ·rw [if_neg hi];simp;omega
  rw [Nat.zero_add,e];rw [e]at a2;exact hend _ w hx (λk U=>hf k U (by simp)) a2 a (Z a ha)
 | succ L ih=>
  intro listed a w hu J a6 a1 ag a2 ha hx hf;rw [show L+1+fuel'=(L+fuel')+1 by omega];have ac:us≠[]:=λe=>by rw [e]at hL;cases hL
  by_cases hq:us=[q]
  ·have ai:q<m:=a1 q (by rw [hq];simp);have b1:L=0:=by rw [hq]at hL;simpa using hL.symm
   have e:listed=(lst l.length m).setIfInBounds q false:=by
    refine Array.ext_getElem? λi=>?_;by_cases hqi:q=i
    ·subst hqi;have G:=(J q ai).2 (by rw [hq];simp);have C:q<listed.size:=by omega
     simp [C]at G;rw [Array.getElem?_setIfInBounds_self_of_lt (by unfold lst;simp;omega)];simp [C,G]
    ·rw [Array.getElem?_setIfInBounds_ne hqi,lst_get];by_cases hi:i<l.length
     ·rw [if_pos hi];have O:i<listed.size:=by omega
      by_cases a5:i<m
      ·have G:=J i a5;have C:listed.getD i true=true:=by
        cases hh:listed.getD i true with
        | true=>rfl
        | false=>exact absurd (G.1 hh) (by rw [hq];simp;omega)
       simp [O]at C;simp [O,C,Nat.blt];omega
      ·have C:=a6 i (by omega) hi;simp [O]at C;have h3:Nat.blt i m=false:=by
        cases hh:Nat.blt i m with
        | false=>rfl
        | true=>exact absurd (show i+1<=m by simpa [Nat.blt] using hh) (by omega)
       simp [O,C,h3]
     ·rw [if_neg hi];simp;omega
   rw [b1,e,show 0+fuel'+1=fuel'+1 by omega];rw [e]at a2;exact hend2 ai _ w hx (λk U ar=>hf k U (by rw [hq];simpa using ar)) a2 a (Z a ha)
  obtain ⟨k0,a4,am⟩:∃ k,k∈us/\k≠q:=by
   refine Classical.byContradiction λaq=>?_;have Z:∀ k∈us,k=q:=λk U=>Classical.byContradiction λh=>aq ⟨k,U,h⟩;apply hq
   match us,hu,ac,Z with
   | [x],_,_,h=>rw [h x (by simp)]
   | x::y::r,hu,_,h=>
    have G:=h x (by simp);have C:=h y (by simp);rw [G,C]at hu;simp at hu
  refine ⟨λhr=>?_,λi hi=>?_⟩
  ·exfalso
   obtain ⟨k,U,ak⟩:∃ k,k∈us/\∀ j,j<k->j ∉ us:=by
    have:∀ s k,k∈us->k<s->∃ k,k∈us/\∀ j,j<k->j ∉ us:=by
     intro s;induction s with
     | zero=>intro k _ h;omega
     | succ s ihs=>
      intro k U b2;by_cases h:∃ j,j<k/\j∈us
      ·obtain ⟨j,hj,af⟩:=h;exact ihs j af (by omega)
      ·exact ⟨k,U,λj hj af=>h ⟨j,hj,af⟩⟩
    exact this (k0+1) k0 a4 (by omega)
   have a3:=a1 k U;have av:=(J k a3).2 U;have ad:k<l.length:=by omega
   have ah:k∈Region.ready .any l.toArray listed:=by
    refine mem_ready.2 ⟨av,l[k],by simp [ad],λe he hb=>?_⟩;have G:=List.all_eq_true.1 hacc k (List.mem_range.2 ad);have hn:nth l k=some l[k]:=by rw [Jxl];simp [ad]
    rw [hn]at G;simp only [Array.all_eq_true_iff_forall_mem,Bool.or_eq_true,Bool.not_eq_true']at G;have C:=(G e he).resolve_left (by rw [hb];simp);have h3:e.on<k:=by (have:e.on+1<=k:=by simpa [Nat.blt] using C);(omega)
    have h4:=ak _ h3;have h5:listed.getD e.on true=true:=by
     cases hh:listed.getD e.on true with
     | true=>rfl
     | false=>exact absurd ((J _ (by omega)).1 hh) h4
    have h6:e.on<listed.size:=by omega
    simp [h6]at h5 ⊢;exact h5
   rw [hr]at ah;cases ah
  ·obtain ⟨ap,o,ho,an⟩:=mem_ready.1 hi;have ab:l[i]?=some o:=by simpa using ho
   have ax:i<l.length:=(List.getElem?_eq_some_iff.1 ab).1;have a8:i<m:=by
    rcases Nat.lt_or_ge i m with h|h
    ·exact h
    ·exfalso
     have G:=List.all_eq_true.1 hbeh i (List.mem_range.2 (by simpa using ax));simp only [Bool.or_eq_true]at G;have C:=G.resolve_left (by
      intro hh;have:i+1<=m:=by simpa [Nat.blt] using hh
      omega)
     have ao:=List.all_eq_true.1 C k0 (List.mem_range.2 (a1 k0 a4));simp only [Bool.or_eq_true]at ao;have h3:=ao.resolve_left λhh=>am (Nat.eq_of_beq_eq_true hh);have h4:=Jwz a2 F i k0 o ho (Jwx ho hi) h3;have h5:=(J k0 (a1 k0 a4)).2 a4;have h6:k0<listed.size:=by have:=a1 k0 a4;omega
     simp [h6]at h4 h5;rw [h4]at h5;cases h5
   have a5:=(J i a8).1 ap;have hO:=GoM.get hop a8 ab;rw [Nat.zero_add]at hO;have hW:=hO (λj=>a.tmps.getD (ds.getD j 0) undef) w hx λk U=>by
    unfold depB at U;rw [Array.any_eq_true']at U;obtain ⟨e,he,G⟩:=U;simp only [Bool.and_eq_true,beq_iff_eq]at G;have C:=an e he G.1;rw [G.2]at C;have h3:k<listed.size:=by
     rcases Nat.lt_or_ge k listed.size with h'|h'
     ·exact h'
     ·simp [Array.getElem?_eq_none h']at C
    have a3:k<m:=by
     rcases Nat.lt_or_ge k m with h|h
     ·exact h
     ·have h4:=a6 k h (by omega);simp [h3]at C h4;rw [C]at h4;cases h4
    refine hf k a3 λae=>?_;have h4:=(J k a3).2 ae;simp [h3]at C h4;rw [C]at h4;cases h4
   have G:=wpOp_of_M (Q:=Q) (ops:=l.toArray) (by simpa using ab) hW a (Z a ha);refine wpOp_mono (λa' w' h=>?_) G;obtain ⟨v,a7,a9,hF⟩:=h;have ay:lk ((ds.getD i 0,v)::slM (λj=>a.tmps.getD (ds.getD j 0) undef) al ds 0) (ds.getD i 0)=some v:=Jfp _ _ _;have aw:ds.getD i 0∈ds:=by rw [List.getD_eq_getElem?_getD,List.getElem?_eq_getElem (by omega)];exact List.getElem_mem _
   refine ⟨λ_=>a9,ih (us.erase i) (by rw [List.length_erase_of_mem a5,hL];omega) _ a' w' (hu.erase i) (λk a3=>?_) (λk G C=>?_) (λk U=>a1 k (hu.mem_erase_iff.1 U).2) (by simp [ag]) (a2.step hi) ?_ (hx.trans a9) λk U ae=>?_⟩
   ·by_cases e:i=k
    ·subst e;have:i<listed.size:=by omega
     simp only [hu.mem_erase_iff];simp [this]
    ·rw [getD_set_ne true e,J k a3,hu.mem_erase_iff];exact ⟨λh=>⟨λh'=>e h'.symm,h⟩,λh=>h.2⟩
   ·rw [getD_set_ne true (by omega)];exact a6 k G C
   ·refine ⟨a7.size,a7.defers,λt u aa=>?_⟩;have hm:t ∉ ds:=λhm=>by rw [hfree t hm]at aa;cases aa
    exact a7.has t u (by rw [Jfn _ _ (λe=>hm (by rw [<-e];exact aw)),lk_slM_no hm];exact aa)
   ·by_cases e:k=i
    ·subst e;rw [a7.has _ _ ay];exact hF
    ·have au:k ∉ us:=λh=>ae (hu.mem_erase_iff.2 ⟨e,h⟩);have ac:ds.getD i 0≠ds.getD k 0:=λh=>by
      have G:=lk_slM_at (vs:=λj=>Value.int .i64 (j:Int)) (al:=[]) (i:=0) hN (j:=i) (by omega);have C:=lk_slM_at (vs:=λj=>Value.int .i64 (j:Int)) (al:=[]) (i:=0) hN (j:=k) (by omega);rw [h,C]at G;simp only [Nat.zero_add,Option.some.injEq,Value.int.injEq,true_and]at G;omega
     have h3:=a7.has (ds.getD k 0) _ (by rw [Jfn _ _ ac];exact lk_slM_at hN (by omega));simp only [Nat.zero_add]at h3;rw [h3];exact (hf k U au).ext a9
theorem hmkq{T:Nat->Bool}{l:List Oper}(m q F fuel':Nat)(ds:List Nat)(Fs:List SF)(hc:(accB l && behB l.toArray F m q && ndB ds && Nat.beq ds.length m && Nat.beq (m+fuel') l.length)=true)(hfree:(ds.all λd=>(lk al d).isNone)=true)(hop:GoM P n l.toArray al w ds Fs m 0 l)(hend:∀ vs w1,Ext w w1->(∀ k,(hk:k<m:=by decide)->fiM Fs k (vs k) w1)->WH P n l.toArray Q T fuel' (lst l.length m) (slM vs al ds 0) w1)(hend2:q<m->∀ vs w1,Ext w w1->(∀ k,(hk:k<m:=by decide)->(hq:k≠q:=by decide)->fiM Fs k (vs k) w1)->WH P n l.toArray Q T (fuel'+1) ((lst l.length m).setIfInBounds q false) (slM vs al ds 0) w1): WH P n l.toArray Q T l.toArray.size (Array.replicate l.toArray.size false) al w:=λo a G=>by
 simp only [Bool.and_eq_true]at hc;obtain ⟨⟨⟨⟨h2,Z⟩,U⟩,O⟩,J⟩:=hc;have u:ds.length=m:=Nat.eq_of_beq_eq_true O;have i:m+fuel'=l.length:=Nat.eq_of_beq_eq_true J;have:=wpAnyC_M (Q:=Q) (T:=T) (F:=F) (q:=q) (fuel':=fuel') (by omega) h2 Z U u (λd C=>by simpa using List.all_eq_true.1 hfree d C) hop hend hend2 (List.range m) (Array.replicate l.length false) a w List.nodup_range (λk hk=>?_) (λk _ h=>by simp [h]) (λk hk=>List.mem_range.1 hk) (by simp) (by simpa using o) G (Ext.refl w) λk hk j=>absurd (List.mem_range.2 hk) j
 ·rw [List.length_range,i]at this;simpa using this
 ·have:k<l.length:=by omega
  simp [this,hk]
theorem hmk{T:Nat->Bool}{l:List Oper}(m F fuel':Nat)(ds:List Nat)(Fs:List SF)(hc:(accB l && behB l.toArray F m m && ndB ds && Nat.beq ds.length m && Nat.beq (m+fuel') l.length)=true)(hfree:(ds.all λd=>(lk al d).isNone)=true)(hop:GoM P n l.toArray al w ds Fs m 0 l)(hend:∀ vs w1,Ext w w1->(∀ k,(hk:k<m:=by decide)->fiM Fs k (vs k) w1)->WH P n l.toArray Q T fuel' (lst l.length m) (slM vs al ds 0) w1): WH P n l.toArray Q T l.toArray.size (Array.replicate l.toArray.size false) al w :=
 hmkq m m F fuel' ds Fs hc hfree hop hend λh=>absurd h (Nat.lt_irrefl m)
end
end Go.Wk
namespace Go.Wk
open Go.RowKit
section
variable {P:Program} {n:Nat} {al:AL} {w:World} {Q:Exit->Act->World->Prop} {ops:Array Oper}
def stgB(l:List Oper)(F:Nat)(st st':Array Bool)(us:List Nat): Bool :=
 Nat.beq st.size l.length && Nat.beq st'.size l.length && ndB us && (us.all λk=>Nat.blt k l.length && !(st.getD k true)) &&
 (us.all λi=>match nth l i with
  | some o=>o.after.all λe=>!Region.binds .any e || (Nat.blt e.on l.length && st.getD e.on true) || (us.any (λj=>Nat.beq j e.on) && Nat.blt e.on i)
  | none=>false) &&
 ((List.range l.length).all λi=>st.getD i true || us.any (λj=>Nat.beq j i) || us.all λj=>Jnw l.toArray F i j) &&
 ((List.range l.length).all λi=>st'.getD i true == (st.getD i true || us.any λj=>Nat.beq j i))
def OpS(P:Program)(n:Nat)(ops:Array Oper)(al:AL)(w0:World)(us ds:List Nat)(Fs:List SF)(i:Nat)(o:Oper): Prop :=
 ∀ vs w1,Ext w0 w1->(∀ j,j<us.length->depB o (us.getD j 0)=true->fiM Fs j (vs j) w1)->WL P n ops (toM (PM n (slM vs al ds 0) w1 (ds.getD i 0) (Fs.getD i ⟨λ_ _=>True,λ_ _=>trivial⟩))) [o] (slM vs al ds 0) w1
def GoS(P:Program)(n:Nat)(l:List Oper)(al:AL)(w0:World)(us ds:List Nat)(Fs:List SF): Nat->List Nat->Prop
 | _,[]=>True
 | i,k::r=>(∀ o,nth l k=some o->OpS P n l.toArray al w0 us ds Fs i o)/\GoS P n l al w0 us ds Fs (i+1) r
theorem GoS.get{w0:World}{l:List Oper}{us ds:List Nat}{Fs:List SF}: ∀ {r:List Nat} {s i:Nat} {o:Oper},GoS P n l al w0 us ds Fs s r->i<r.length->nth l (r.getD i 0)=some o->OpS P n l.toArray al w0 us ds Fs (s+i) o
 | [],_,_,_,_,h,_=>by simp at h
 | x::r,s,0,o,h,_,e=>h.1 o e
 | x::r,s,i+1,o,h,h0,e=>by
  have:=GoS.get h.2 (by simpa using h0:i<r.length) (by simpa using e);rwa [show s+(i+1)=s+1+i by omega]
theorem gsc{w0:World}{l:List Oper}{us ds:List Nat}{Fs:List SF}{i k:Nat}{r:List Nat}{o:Oper}(h:∀ vs w1,Ext w0 w1->(∀ j,(hj:j<us.length:=by decide)->(hk:depB o (us.getD j 0)=true:=by kernel_rfl)->fiM Fs j (vs j) w1)->WL P n l.toArray (toM (PM n (slM vs al ds 0) w1 (ds.getD i 0) (Fs.getD i ⟨λ_ _=>True,λ_ _=>trivial⟩))) [o] (slM vs al ds 0) w1)(h2:GoS P n l al w0 us ds Fs (i+1) r)(ho:nth l k=some o:=by rfl): GoS P n l al w0 us ds Fs i (k::r):=⟨λC u=>by rw [ho]at u;injection u with u;subst u;exact h,h2⟩
theorem gse{w0:World}{l:List Oper}{us ds:List Nat}{Fs:List SF}{i:Nat}: GoS P n l al w0 us ds Fs i []:=trivial
theorem ndB_inj{us:List Nat}(h:us.Nodup){i j:Nat}(hi:i<us.length)(hj:j<us.length)(e:us.getD i 0=us.getD j 0): i=j:=by
 rw [List.getD_eq_getElem?_getD,List.getD_eq_getElem?_getD,List.getElem?_eq_getElem hi,List.getElem?_eq_getElem hj]at e;have o:=List.pairwise_iff_getElem.1 h;rcases Nat.lt_trichotomy i j with hlt|he|hlt
 ·exact absurd e (o i j hi hj hlt)
 ·exact he
 ·exact absurd e.symm (o j i hj hi hlt)
theorem hmkS{T : Nat → Bool}{l : List Oper}(F fuel' : Nat)(st st' : Array Bool)(us ds : List Nat)(Fs : List SF){fuel : Nat}(hc : (stgB l F st st' us && ndB ds && Nat.beq ds.length us.length && Nat.beq (us.length + fuel') fuel) = true)(hfree : (ds.all fun d => (lk al d).isNone) = true)(hop : GoS P n l al w us ds Fs 0 us)(hend : ∀ vs w1, Ext w w1 → (∀ j, (hj : j < us.length := by decide) → fiM Fs j (vs j) w1) → WH P n l.toArray Q T fuel' st' (slM vs al ds 0) w1): WH P n l.toArray Q T fuel st al w := fun hcl a ha => by
  simp only [Bool.and_eq_true] at hc
  obtain ⟨⟨⟨h0, h4⟩, h5⟩, h6⟩ := hc
  unfold stgB at h0
  simp only [Bool.and_eq_true] at h0
  obtain ⟨⟨⟨⟨⟨⟨c1, c2⟩, c3⟩, c4⟩, c5⟩, c6⟩, c7⟩ := h0
  have hst : st.size = l.length := Nat.eq_of_beq_eq_true c1
  have hst' : st'.size = l.length := Nat.eq_of_beq_eq_true c2
  have hU := ndB_spec c3
  have hN := ndB_spec h4
  have hl : ds.length = us.length := Nat.eq_of_beq_eq_true h5
  have hfu : us.length + fuel' = fuel := Nat.eq_of_beq_eq_true h6
  have hfr : ∀ d ∈ ds, lk al d = none := fun d hd => by simpa using List.all_eq_true.1 hfree d hd
  have hUlt : ∀ j, j < us.length → us.getD j 0 < l.length ∧ st.getD (us.getD j 0) true = false := fun j hj => by
    have hm : us.getD j 0 ∈ us := by rw [List.getD_eq_getElem?_getD, List.getElem?_eq_getElem hj]; exact List.getElem_mem _
    have := List.all_eq_true.1 c4 _ hm
    simp only [Bool.and_eq_true, Bool.not_eq_true'] at this
    exact ⟨by have h : us.getD j 0 + 1 ≤ l.length := by simpa [Nat.blt] using this.1
              omega, this.2⟩
  have hmem : ∀ k, (us.any fun j => Nat.beq j k) = true → ∃ j, j < us.length ∧ us.getD j 0 = k := fun k hk => by
    rw [List.any_eq_true] at hk
    obtain ⟨u, hu, e⟩ := hk
    have e := Nat.eq_of_beq_eq_true e
    subst e
    exact mem_getD hu
  have hall : ∀ a : Act, Fr n al a → Fr n (slM (fun j => a.tmps.getD (ds.getD j 0) undef) al ds 0) a := fun a ha => ⟨ha.size, ha.defers, fun t v h => by
    by_cases hm : t ∈ ds
    · obtain ⟨j, hj, e⟩ := mem_getD hm
      rw [← e, lk_slM_at hN hj] at h
      simp only [Nat.zero_add, Option.some.injEq] at h
      rw [← e]; exact h
    · rw [lk_slM_no hm] at h
      exact ha.has t v h⟩
  suffices key : ∀ (L : Nat) (ps : List Nat) (listed : Array Bool) (a : Act) (w1 : World), ps.length = L → ps.Nodup → (∀ j ∈ ps, j < us.length) → (∀ j, j < us.length → (listed.getD (us.getD j 0) true = false ↔ j ∈ ps)) → (∀ k, k < l.length → (∀ j, j < us.length → us.getD j 0 ≠ k) → listed.getD k true = st.getD k true) → listed.size = l.length → Closed l.toArray listed → Fr n al a → Ext w w1 →
      (∀ j, j < us.length → j ∉ ps → fiM Fs j (a.tmps.getD (ds.getD j 0) undef) w1) → Jwj P l.toArray Q T (L + fuel') listed a w1 by
    have := key us.length (List.range us.length) st a w List.length_range List.nodup_range (fun j hj => List.mem_range.1 hj) (fun j hj => ⟨fun _ => List.mem_range.2 hj, fun _ => (hUlt j hj).2⟩) (fun k _ _ => rfl) hst hcl ha (Ext.refl w) fun j hj h => absurd (List.mem_range.2 hj) h
    rwa [hfu] at this
  intro L
  induction L with
  | zero =>
    intro ps listed a w1 hL hu hum hus hge hsz hcl ha hx hf
    have hnil : ps = [] := List.length_eq_zero_iff.1 hL
    subst hnil
    have e : listed = st' := by
      refine Array.ext_getElem? fun i => ?_
      by_cases hi : i < l.length
      · have h7 := List.all_eq_true.1 c7 i (List.mem_range.2 hi)
        rw [beq_iff_eq] at h7
        have h8 : listed.getD i true = st'.getD i true := by
          rw [h7]
          by_cases hm : ∃ j, j < us.length ∧ us.getD j 0 = i
          · obtain ⟨j, hj, e⟩ := hm
            have h1 := hus j hj
            rw [e] at h1
            have h2 : listed.getD i true = true := by
              cases hh : listed.getD i true with
              | true => rfl
              | false => exact absurd (h1.1 hh) (by simp)
            rw [h2]
            symm
            rw [Bool.or_eq_true]
            right
            rw [List.any_eq_true]
            refine ⟨us.getD j 0, ?_, by rw [e]; simp⟩
            rw [List.getD_eq_getElem?_getD, List.getElem?_eq_getElem hj]; exact List.getElem_mem _
          · have h1 : ∀ j, j < us.length → us.getD j 0 ≠ i := fun j hj e => hm ⟨j, hj, e⟩
            rw [hge i hi h1]
            have h2 : (us.any fun j => Nat.beq j i) = false := by
              cases hh : us.any fun j => Nat.beq j i with
              | false => rfl
              | true => exact absurd (hmem i hh) hm
            rw [h2, Bool.or_false]
        have h9 : i < listed.size := by omega
        have h10 : i < st'.size := by omega
        simp [h9, h10] at h8
        simp [h9, h10, h8]
      · rw [Array.getElem?_eq_none (by omega), Array.getElem?_eq_none (by omega)]
    rw [Nat.zero_add, e]
    rw [e] at hcl
    exact hend _ w1 hx (fun j hj => hf j hj (by simp)) hcl a (hall a ha)
  | succ L ih =>
    intro ps listed a w1 hL hu hum hus hge hsz hcl ha hx hf
    rw [show L + 1 + fuel' = (L + fuel') + 1 by omega]
    have hne : ps ≠ [] := fun e => by rw [e] at hL; cases hL
    obtain ⟨p0, hp0⟩ : ∃ p, p ∈ ps := by
      cases ps with
      | nil => exact absurd rfl hne
      | cons p r => exact ⟨p, mC⟩
    refine ⟨fun hr => ?_, fun i hi => ?_⟩
    · exfalso
      obtain ⟨p, hp, hmin⟩ : ∃ p, p ∈ ps ∧ ∀ q ∈ ps, us.getD p 0 ≤ us.getD q 0 := by
        have : ∀ s p, p ∈ ps → us.getD p 0 < s → ∃ p, p ∈ ps ∧ ∀ q ∈ ps, us.getD p 0 ≤ us.getD q 0 := by
          intro s
          induction s with
          | zero => intro p _ h; omega
          | succ s ihs =>
            intro p hp hps
            by_cases h : ∃ q, q ∈ ps ∧ us.getD q 0 < us.getD p 0
            · obtain ⟨q, hq, hlt⟩ := h
              exact ihs q hq (by omega)
            · exact ⟨p, hp, fun q hq => by
                rcases Nat.lt_or_ge (us.getD q 0) (us.getD p 0) with h' | h'
                · exact absurd ⟨q, hq, h'⟩ h
                · exact h'⟩
        exact this (us.getD p0 0 + 1) p0 hp0 (by omega)
      have hpm := hum p hp
      obtain ⟨hkl, _⟩ := hUlt p hpm
      have hk1 := (hus p hpm).2 hp
      have hr2 : us.getD p 0 ∈ Region.ready .any l.toArray listed := by
        refine mem_ready.2 ⟨hk1, l[us.getD p 0], by simp, fun e he hb => ?_⟩
        have hm : us.getD p 0 ∈ us := by rw [List.getD_eq_getElem?_getD, List.getElem?_eq_getElem hpm]; exact List.getElem_mem _
        have h1 := List.all_eq_true.1 c5 _ hm
        have hn : nth l (us.getD p 0) = some l[us.getD p 0] := by rw [Jxl]; simp
        rw [hn] at h1
        simp only [Array.all_eq_true_iff_forall_mem, Bool.or_eq_true, Bool.not_eq_true', Bool.and_eq_true] at h1
        have h2 := h1 e he
        rw [hb] at h2
        have h5 : listed.getD e.on true = true ∧ e.on < listed.size := by
          rcases h2 with (h2 | ⟨h3, h2⟩) | ⟨h2, h3⟩
          · cases h2
          · have h3' : e.on < l.length := by have : e.on + 1 ≤ l.length := by simpa [Nat.blt] using h3
                                             omega
            refine ⟨?_, by omega⟩
            by_cases hm2 : ∃ j, j < us.length ∧ us.getD j 0 = e.on
            · obtain ⟨j, hj, e2⟩ := hm2
              have := (hUlt j hj).2
              rw [e2, h2] at this; cases this
            · rw [hge _ h3' fun j hj e2 => hm2 ⟨j, hj, e2⟩]; exact h2
          · obtain ⟨j, hj, e2⟩ := hmem _ h2
            have h3' : e.on < us.getD p 0 := by have : e.on + 1 ≤ us.getD p 0 := by simpa [Nat.blt] using h3
                                                omega
            refine ⟨?_, by omega⟩
            cases hh : listed.getD e.on true with
            | true => rfl
            | false =>
              rw [← e2] at hh
              have h6 := (hus j hj).1 hh
              have := hmin j h6
              omega
        have h6 := h5.2
        have h7 := h5.1
        simp [h6] at h7 ⊢
        exact h7
      rw [hr] at hr2
      cases hr2
    · obtain ⟨hun, o, ho, hdep⟩ := mem_ready.1 hi
      have hol : l[i]? = some o := by simpa using ho
      have hil : i < l.length := (List.getElem?_eq_some_iff.1 hol).1
      obtain ⟨p, hpm, hpi⟩ : ∃ j, j < us.length ∧ us.getD j 0 = i := by
        refine Classical.byContradiction fun hno => ?_
        have h1 := List.all_eq_true.1 c6 i (List.mem_range.2 hil)
        simp only [Bool.or_eq_true] at h1
        have h2 := hge i hil fun j hj e => hno ⟨j, hj, e⟩
        rcases h1 with (h1 | h1) | h1
        · rw [h1] at h2; rw [h2] at hun; cases hun
        · exact hno (hmem i h1)
        · have hm : us.getD p0 0 ∈ us := by rw [List.getD_eq_getElem?_getD, List.getElem?_eq_getElem (hum p0 hp0)]; exact List.getElem_mem _
          have h3 := List.all_eq_true.1 h1 _ hm
          have h4 := Jwz hcl F i (us.getD p0 0) o ho (Jwx ho hi) h3
          have h5 := (hus p0 (hum p0 hp0)).2 hp0
          have h6 : us.getD p0 0 < listed.size := by have := (hUlt p0 (hum p0 hp0)).1; omega
          generalize us.getD p0 0 = k0 at h4 h5 h6
          simp [h6] at h4 h5
          rw [h4] at h5; cases h5
      subst hpi
      have hps := (hus p hpm).1 hun
      have hO := GoS.get hop hpm (by rw [Jxl]; exact hol)
      rw [Nat.zero_add] at hO
      have hW := hO (fun j => a.tmps.getD (ds.getD j 0) undef) w1 hx fun j hj hk => by
        unfold depB at hk
        rw [Array.any_eq_true'] at hk
        obtain ⟨e, he, h1⟩ := hk
        simp only [Bool.and_eq_true, beq_iff_eq] at h1
        have h2 := hdep e he h1.1
        rw [h1.2] at h2
        have h3 : us.getD j 0 < listed.size := by have := (hUlt j hj).1; omega
        refine hf j hj fun hk' => ?_
        have h4 := (hus j hj).2 hk'
        generalize us.getD j 0 = k0 at h2 h3 h4
        simp [h3] at h2 h4
        rw [h2] at h4; cases h4
      have h1 := wpOp_of_M (Q := Q) (ops := l.toArray) (by simpa using hol) hW a (hall a ha)
      refine wpOp_mono (fun a' w' h => ?_) h1
      obtain ⟨v, hfr', hx', hF⟩ := h
      have hdi : lk ((ds.getD p 0, v) :: slM (fun j => a.tmps.getD (ds.getD j 0) undef) al ds 0) (ds.getD p 0) = some v := Jfp _ _ _
      have hin : ds.getD p 0 ∈ ds := by rw [List.getD_eq_getElem?_getD, List.getElem?_eq_getElem (by omega)]; exact List.getElem_mem _
      refine ⟨fun _ => hx', ih (ps.erase p) _ a' w' (by rw [List.length_erase_of_mem hps, hL]; omega) (hu.erase p) (fun j hj => hum j (hu.mem_erase_iff.1 hj).2) (fun j hj => ?_) (fun k h1 h2 => ?_) (by simp [hsz]) (hcl.step hi) ?_ (hx.trans hx') fun j hj hj' => ?_⟩
      · by_cases e : p = j
        · subst e
          have : us.getD p 0 < listed.size := by omega
          simp only [hu.mem_erase_iff]
          simp
        · rw [getD_set_ne true (fun e2 => e (ndB_inj hU hpm hj e2)), hus j hj, hu.mem_erase_iff]
          exact ⟨fun h => ⟨fun h' => e h'.symm, h⟩, fun h => h.2⟩
      · rw [getD_set_ne true (h2 p hpm)]; exact hge k h1 h2
      · refine ⟨hfr'.size, hfr'.defers, fun t u htu => ?_⟩
        have hm : t ∉ ds := fun hm => by rw [hfr t hm] at htu; cases htu
        exact hfr'.has t u (by rw [Jfn _ _ (fun e => hm (by rw [← e]; exact hin)), lk_slM_no hm]; exact htu)
      · by_cases e : j = p
        · subst e
          rw [hfr'.has _ _ hdi]
          exact hF
        · have hk2 : j ∉ ps := fun h => hj' (hu.mem_erase_iff.2 ⟨e, h⟩)
          have hne : ds.getD p 0 ≠ ds.getD j 0 := fun h => e (ndB_inj hN (by omega) (by omega) h.symm)
          have h3 := hfr'.has (ds.getD j 0) _ (by rw [Jfn _ _ hne]; exact lk_slM_at hN (by omega))
          simp only [Nat.zero_add] at h3
          rw [h3]
          exact (hf j hj hk2).ext hx'
end
end Go.Wk
namespace Go.Proofs.YtefpailelagbkaaGreatDoor
open Go.RowKit Pl Go.Wk
attribute [local irreducible] WC WL QX WD WDB WP WN WG WH WM
section
variable {c:Cse} {ats:List Atm}
theorem CseOk.mks(h:CseOk c ats): MkS c:=⟨h.len,λi hi=>(h.mka i hi).l32,λi hi=>(h.mka i hi).ok,λi hi=>nL (h.few.row i (by rw [<-h.len];exact hi)) (by decide)⟩
theorem CseOk.of2(h:CseOk c ats){ats':List Atm}(hal:ats'.length=c.vs.length)(hmk:∀ i,i<c.vs.length->MkA (ats'.getD i a0) (c.vs.getD i []) (c.rss.getD i [])): CseOk c ats':=by
 refine ⟨h.few,h.len,hal,hmk,?_,h.fit⟩;obtain ⟨h1,h2,h3,h4,h5,h6,h7,h8,h9,O,J,G,C⟩:=h.chk;have key:∀ i,i<c.vs.length->(ats'.getD i a0).vars=(ats.getD i a0).vars/\(ats'.getD i a0).ar=(ats.getD i a0).ar:=λi hi=>⟨(hmk i hi).vars.trans (h.mka i hi).vars.symm,(hmk i hi).ar.trans (h.mka i hi).ar.symm⟩;have Z:=h.al;refine ⟨h1,h2,h3,h4,h5,h6,h7,h8,h9,O,by rw [hal,<-Z];exact J,λa u=>?_,λv U=>?_⟩
 ·obtain ⟨i,hi,rfl⟩:=List.getElem_of_mem u;have hi:i<ats'.length:=hi;have j:i<c.vs.length:=by omega
  have k:=key i j;have e:ats'[i]=ats'.getD i a0:=by simp [List.getD,List.getElem?_eq_getElem hi]
  have h0:=G (ats.getD i a0) (getD_mem' a0 _ (show i<ats.length by omega));rw [e];unfold Xbp at h0 ⊢;rw [k.1,k.2];exact h0
 ·obtain ⟨a,u,o⟩:=C v U;obtain ⟨i,hi,rfl⟩:=List.getElem_of_mem u;have hi:i<ats.length:=hi;have j:i<c.vs.length:=by omega
  refine ⟨ats'.getD i a0,getD_mem' a0 _ (show i<ats'.length by omega),?_⟩;rw [(key i j).1];have e:ats[i]=ats.getD i a0:=by simp [List.getD,List.getElem?_eq_getElem hi]
  rw [<-e];exact o
theorem CseOk.again(h:CseOk c ats): ∀ ats':List Atm,ats'.length=c.vs.length->(∀ i,i<c.vs.length->MkA (ats'.getD i a0) (c.vs.getD i []) (c.rss.getD i []))->Xkh ⟨c.n,c.f,c.ds,c.pm,ats'⟩:=λats' j hmk=>(h.of2 j hmk).chk
end
end Go.Proofs.YtefpailelagbkaaGreatDoor
namespace Go.Proofs.YtefpailelagbkaaGreatDoor
open Pl Go.Wk
section
variable {c:Cse} {ats:List Atm}
def varsA(c:Cse)(i:Nat): List Nat:=if i<c.m then c.vars i else [0]
def rsB(c:Cse)(ats:List Atm)(y:V)(i:Nat): List Row:=if i<c.m then rsA ats i else [[y]]
theorem varsA_lt{i:Nat}(h:i<c.m): varsA c i=c.vars i:=if_pos h
theorem rsB_lt{y:V}{i:Nat}(h:i<c.m): rsB c ats y i=rsA ats i:=if_pos h
theorem varsA_m: varsA c c.m=[0]:=if_neg (Nat.lt_irrefl _)
theorem rsB_m{y:V}: rsB c ats y c.m=[[y]]:=if_neg (Nat.lt_irrefl _)
theorem bldAdd(h:CseOk c ats){ts:List TA}(hts:ats=ts.map (·.2)){q:TA}{y:V}(hq:q.2=⟨[0],1,[[y]]⟩)(hF:0<c.F)(hv:Jxc y=true)(hf:Qyf y):
  BldI c.N c.F c.ds (toN c.pm) (ts++[q]) (varsA c) (rsB c ats y):=by
 have hN:=h.nN.2;have a4:=h.fF.2;have C:=h.bldI hts;have G:ts.length=c.m:=by have:=h.al;rw [hts,List.length_map]at this;exact this
 have hl:(ts++[q]).length=c.m+1:=by simp [G]
 have a3:c.m<=5:=h.few.v5;have j:∀ {P:Nat->Prop},(∀ i,i<c.m->P i)->P c.m->∀ i,i<(ts++[q]).length->P i:=λO h2 i hi=>by
  rcases Nat.lt_or_ge i c.m with h'|h'
  ·exact O i h'
  ·have:i=c.m:=by omega
   subst this;exact h2
 have o:RunOk c.N (ts++[q]) (varsA c) (rsB c ats y):=by
  refine ⟨by omega,by omega,j (λi hi=>?_) ?_,j (λi hi=>?_) ?_,j (λi hi=>?_) ?_,λv hv=>?_,j (λi hi=>?_) ?_,j (λi hi=>?_) ?_,j (λi hi=>?_) ?_⟩
  ·rw [varsA_lt hi,rsB_lt hi,<-C.run.at_ i (by omega)];simp only [List.getD_eq_getElem?_getD];rw [List.getElem?_append_left (by omega)]
  ·rw [varsA_m,rsB_m];simp only [List.getD_eq_getElem?_getD];rw [List.getElem?_append_right (by omega),G,Nat.sub_self];exact hq
  ·rw [varsA_lt hi];exact C.run.asc i (by omega)
  ·rw [varsA_m];unfold Jch;exact List.pairwise_singleton _ _
  ·rw [varsA_lt hi];exact C.run.lt i (by omega)
  ·rw [varsA_m];intro u J;simp at J;omega
  ·obtain ⟨i,hi,hm⟩:=C.run.cov v hv;exact ⟨i,by omega,by rw [varsA_lt (by omega)];exact hm⟩
  ·rw [rsB_lt hi];exact C.run.srt i (by omega)
  ·rw [rsB_m];exact List.pairwise_singleton _ _
  ·rw [rsB_lt hi,varsA_lt hi];exact C.run.len i (by omega)
  ·rw [rsB_m,varsA_m];intro r U;rw [List.mem_singleton.1 U];rfl
  ·rw [rsB_lt hi];exact C.run.big i (by omega)
  ·rw [rsB_m];simp
 refine ⟨o,h.pm.1,C.dl,j (λi hi=>?_) ?_,λkf pf hb v hv=>⟨λl a1 hx=>?_,j (λi hi=>.inl ?_) (.inl ?_)⟩⟩
 ·rw [rsB_lt hi];exact C.ok i (by omega)
 ·rw [rsB_m];intro r U u J;rw [List.mem_singleton.1 U]at J;rw [List.mem_singleton.1 J];exact ⟨hv,hf⟩
 ·have hs:kf v ||| 2^v<2^c.N:=by
   refine Nat.lt_pow_two_of_testBit _ λi hi=>?_;cases hbt:(kf v ||| 2^v).testBit i with
   | false=>rfl
   | true=>
    rw [Nat.testBit_or,Nat.testBit_two_pow,Bool.or_eq_true,decide_eq_true_eq]at hbt;rcases hbt with hbt|hbt
    ·rw [(hb v hv).2.1]at hbt;have Z:∀ e∈Jrb (ts++[q]).length (varsA c),e<2^c.N:=λe he=>by
      obtain ⟨i,hi,rfl⟩:=List.mem_map.1 he;exact Jvm (o.lt i (List.mem_range.1 hi))
     have:=Qvz (nb:=nb0 c.N (Jrb (ts++[q]).length (varsA c))) (ord:=Jzq (toN c.pm) c.F) (N:=c.N) (λa b a2=>(Jpn Z a2).2.1) hbt;omega
    ·omega
  have O:=Qnb (m:=(ts++[q]).length) (vars:=varsA c) (rs:=rsB c ats y) (l:=l) (λi hi=>o.asc i hi) (λv hv=>o.cov v hv) hs a1 hx;have h2:Jjz c.m (λi=>(rsB c ats y i).length)<=Jjz c.m λi=>(c.crs i).length:=Jpl λi hi=>by rw [rsB_lt hi];exact Qzh (h.set hi)
  have h3:=h.cnt;rw [hl,Jjz,rsB_m]at O;simp only [List.length_cons,List.length_nil]at O;omega
 ·rw [rsB_lt hi];have:=Qzh (h.set hi);have h2:=h.few.row i (by rw [<-h.len];exact hi);unfold Cse.crs at this;omega
 ·rw [rsB_m];simp
theorem wi_iff{z:Row}{N F:Nat}{y:V}(hz:z.length=N)(h1:0<F)(h2:F<=N): ((z.take F).take [y].length=[y])↔z.getD 0 V0=y:=by
 obtain ⟨a,t,rfl⟩:∃ a t,z=a::t:=by
  cases z with
  | nil=>simp at hz;omega
  | cons a t=>exact ⟨a,t,rfl⟩
 obtain ⟨f,rfl⟩:∃ f,F=f+1:=⟨F-1,by omega⟩;simp
theorem ansAdd(h:CseOk c ats){y:V}(hF:0<c.F): Lt c.ds (wiL c.ans [y])/\∀ x,x∈wiL c.ans [y]↔∃ z,Jtv c.N (c.m+1) (varsA c) (rsB c ats y) z/\z.take c.F=x:=by
 obtain ⟨O,J⟩:=h.ans;have o:=h.fF.2;have key:∀ z,Jtv c.N (c.m+1) (varsA c) (rsB c ats y) z↔Jtv c.N c.m c.vars (rsA ats) z/\z.getD 0 V0=y:=λz=>by
  unfold Jtv;constructor
  ·rintro ⟨e,j⟩;refine ⟨⟨e,λi hi=>?_⟩,?_⟩
   ·have:=j i (by omega);rwa [varsA_lt hi,rsB_lt hi]at this
   ·have:=j c.m (by omega);rw [varsA_m,rsB_m]at this;have:=List.mem_singleton.1 this;simpa [pmR] using this
  ·rintro ⟨⟨e,j⟩,U⟩;refine ⟨e,λi hi=>?_⟩;rcases Nat.lt_or_ge i c.m with h'|h'
   ·rw [varsA_lt h',rsB_lt h'];exact j i h'
   ·have:i=c.m:=by omega
    subst this;rw [varsA_m,rsB_m];refine List.mem_singleton.2 ?_;simp only [pmR,List.map_cons,List.map_nil,U]
 refine ⟨List.Pairwise.sublist List.filter_sublist O,λx=>?_⟩;unfold wiL;rw [List.mem_filter,J x];constructor
 ·rintro ⟨⟨z,j,rfl⟩,C⟩;refine ⟨z,(key z).2 ⟨j,?_⟩,rfl⟩;exact (wi_iff j.1 hF o).1 (oT C)
 ·rintro ⟨z,j,rfl⟩;obtain ⟨u,G⟩:=(key z).1 j;refine ⟨⟨z,u,rfl⟩,?_⟩;exact decide_eq_true ((wi_iff u.1 hF o).2 G)
end
end Go.Proofs.YtefpailelagbkaaGreatDoor
