/- Part 3 of the proof: Mkr, Wa3. -/
import Derived.Test.YtefpailelagbkaaGreatDoorKmo44
set_option linter.unusedVariables false
set_option maxRecDepth 100000
set_option maxHeartbeats 40000000
namespace Go.Wk
open Go.RowKit
structure SF where
 p: Value->World->Prop
 st:∀ {v:Value} {w w':World},p v w->Ext w w'->p v w'
def SF.bk{w:World}{b t:Nat}{cs:List Value}(h:Blk w b t cs): SF:=⟨λv _=>v=.agg cs.toArray,λh _=>h⟩
def SF.eq(c:Value): SF:=⟨λv _=>v=c,λh _=>h⟩
def depB(o:Oper)(k:Nat): Bool:=o.after.any λe=>Region.binds .any e && e.on == k
def accB(l:List Oper): Bool:=(List.range l.length).all λi=>match nth l i with
 | some o=>o.after.all λe=>!Region.binds .any e || Nat.blt e.on i
 | none=>true
def slM(vs:Nat->Value)(al:AL): List Nat->Nat->AL
 | [],_=>al
 | d::r,i=>(d,vs i)::slM vs al r (i+1)
theorem lk_slM_no{vs:Nat->Value}{al:AL}{t:Nat}: ∀ {ds:List Nat} {i:Nat},t ∉ ds->lk (slM vs al ds i) t=lk al t
 | [],_,_=>rfl
 | d::r,i,h=>by
  unfold slM;rw [Jff _ _ (λe=>h (by rw [e];exact mC ..))];exact lk_slM_no λh'=>h (List.mem_cons_of_mem _ h')
theorem lk_slM_at{vs:Nat->Value}{al:AL}: ∀ {ds:List Nat} {i j:Nat},ds.Nodup->j<ds.length->lk (slM vs al ds i) (ds.getD j 0)=some (vs (i+j))
 | [],_,_,_,h=>by simp at h
 | d::r,i,0,_,_=>by unfold slM;simp [Jfg]
 | d::r,i,j+1,hn,hj=>by
  have hn':=List.nodup_cons.1 hn;have hj':j<r.length:=by simpa using hj
  unfold slM;have e:(d::r).getD (j+1) 0=r.getD j 0:=by simp
  rw [e];have hm:r.getD j 0∈r:=by rw [List.getD_eq_getElem?_getD,List.getElem?_eq_getElem hj'];exact List.getElem_mem hj'
  rw [Jff _ _ (λe=>hn'.1 (by rw [e];exact hm)),lk_slM_at hn'.2 hj'];congr 2;omega
theorem mem_getD{ds:List Nat}{t:Nat}(h:t∈ds): ∃ j,j<ds.length/\ds.getD j 0=t:=by
 obtain ⟨j,i,e⟩:=List.getElem_of_mem h;exact ⟨j,i,by rw [List.getD_eq_getElem?_getD,List.getElem?_eq_getElem i];exact e⟩
section
variable {P:Program} {n:Nat} {al:AL} {w:World} {Q:Exit->Act->World->Prop} {ops:Array Oper}
def toM(G:Act->World->Prop): Exit->Act->World->Prop
 | .normal,a,w=>G a w
 | _,_,_=>False
theorem wpOp_of_M{i:Nat}{o:Oper}{G:Act->World->Prop}(ho:ops[i]?=some o)(h:WL P n ops (toM G) [o] al w): ∀ a,Fr n al a->wpOp P ops (QF Q) i G a w:=λa D=>by
 have j:=h a D;unfold wpList at j;unfold wpOp;simp only [ho];have u:¬ LetsOut (toM G):=by rintro ⟨a,w,h⟩;exact h
 split
 ·rename_i hw;simp only [hw,if_true]at j;rcases j with j|⟨_,j⟩
  ·left
   refine Oper.wp_mono (K:=wpList P ops (toM G) []) (λO w' J=>J) ?_;unfold Oper.wp at j ⊢;exact Jxc (Q:=toM G) (λc a w C=>C.elim) (λC=>absurd C u) j
  ·exact absurd j u
 ·rename_i hw;simp only [hw]at j;exact j
def PM(n:Nat)(al:AL)(w:World)(d:Nat)(F:SF)(a:Act)(w':World): Prop:=∃ v,Fr n ((d,v)::al) a/\Ext w w'/\F.p v w'
theorem mdone{w':World}{d:Nat}{v:Value}{F:SF}(hx:Ext w w')(h:F.p v w'): QX n (toM (PM n al w d F)) .normal ((d,v)::al) w':=λa i=>⟨v,i,hx,h⟩
def fiM(Fs:List SF)(k:Nat)(v:Value)(w:World): Prop:=(Fs.getD k ⟨λ_ _=>True,λ_ _=>trivial⟩).p v w
theorem fiM.ext{Fs:List SF}{k:Nat}{v:Value}{w w':World}(h:fiM Fs k v w)(hx:Ext w w'): fiM Fs k v w':=SF.st _ h hx
def OpM(P:Program)(n:Nat)(ops:Array Oper)(al:AL)(w0:World)(ds:List Nat)(Fs:List SF)(i:Nat)(o:Oper): Prop :=
 ∀ vs w1,Ext w0 w1->(∀ k,depB o k=true->fiM Fs k (vs k) w1)->WL P n ops (toM (PM n (slM vs al ds 0) w1 (ds.getD i 0) (Fs.getD i ⟨λ_ _=>True,λ_ _=>trivial⟩))) [o] (slM vs al ds 0) w1
def GoM(P:Program)(n:Nat)(ops:Array Oper)(al:AL)(w0:World)(ds:List Nat)(Fs:List SF): Nat->Nat->List Oper->Prop
 | 0,_,_=>True
 | _+1,_,[]=>True
 | m+1,i,o::r=>OpM P n ops al w0 ds Fs i o/\GoM P n ops al w0 ds Fs m (i+1) r
theorem GoM.get{w0:World}{ds:List Nat}{Fs:List SF}: ∀ {l:List Oper} {m s i:Nat} {o:Oper},GoM P n ops al w0 ds Fs m s l->i<m->l[i]?=some o->OpM P n ops al w0 ds Fs (s+i) o
 | [],_,_,_,_,_,_,h=>by simp at h
 | x::r,0,_,_,_,_,h0,_=>by omega
 | x::r,m+1,s,0,o,h,_,e=>by
  simp only [List.getElem?_cons_zero,Option.some.injEq]at e;subst e;exact h.1
 | x::r,m+1,s,i+1,o,h,h0,e=>by
  have:=GoM.get h.2 (by omega:i<m) (by simpa using e);rwa [show s+(i+1)=s+1+i by omega]
theorem gmc{w0:World}{ds:List Nat}{Fs:List SF}{m i:Nat}{o:Oper}{r:List Oper}(h:∀ vs w1,Ext w0 w1->(∀ k,(hk:depB o k=true:=by kernel_rfl)->fiM Fs k (vs k) w1)->WL P n ops (toM (PM n (slM vs al ds 0) w1 (ds.getD i 0) (Fs.getD i ⟨λ_ _=>True,λ_ _=>trivial⟩))) [o] (slM vs al ds 0) w1)(h2:GoM P n ops al w0 ds Fs m (i+1) r): GoM P n ops al w0 ds Fs (m+1) i (o::r):=⟨h,h2⟩
theorem gme{w0:World}{ds:List Nat}{Fs:List SF}{i:Nat}{r:List Oper}: GoM P n ops al w0 ds Fs 0 i r:=trivial
def ndB: List Nat->Bool
 | []=>true
 | d::r=>!(r.any λx=>Nat.beq d x) && ndB r
theorem ndB_spec: ∀ {ds:List Nat},ndB ds=true->ds.Nodup
 | [],_=>List.nodup_nil
 | d::r,h=>by
  simp only [ndB,Bool.and_eq_true,Bool.not_eq_true']at h;refine List.nodup_cons.2 ⟨λhm=>?_,ndB_spec h.2⟩;have:=List.any_eq_false.1 h.1 d hm;simp at this
def behB(ops:Array Oper)(F m q:Nat): Bool:=(List.range ops.size).all λi=>Nat.blt i m || (List.range m).all λj=>Nat.beq j q || Jnf ops F i j
theorem lst_get(m k i:Nat): (lst m k)[i]?=if i<m then some (Nat.blt i k) else none:=by
 unfold lst;by_cases h:i<m
 ·simp [h]
 ·simp [h]
theorem wpAnyC_M{T:Nat->Bool}{l:List Oper}{w0:World}{m q F fuel':Nat}{ds:List Nat}{Fs:List SF}(hml:m<=l.length)(hacc:accB l=true)(hbeh:behB l.toArray F m q=true)(hnd:ndB ds=true)(hlen:ds.length=m)(hfree:∀ d∈ds,lk al d=none)(hop:GoM P n l.toArray al w0 ds Fs m 0 l)(hend:∀ vs w1,Ext w0 w1->(∀ k,k<m->fiM Fs k (vs k) w1)->WH P n l.toArray Q T fuel' (lst l.length m) (slM vs al ds 0) w1)(hend2:q<m->∀ vs w1,Ext w0 w1->(∀ k,k<m->k≠q->fiM Fs k (vs k) w1)->WH P n l.toArray Q T (fuel'+1) ((lst l.length m).setIfInBounds q false) (slM vs al ds 0) w1):
  ∀ (us:List Nat) (listed:Array Bool) (a:Act) (w:World),us.Nodup->(∀ k,k<m->(listed.getD k true=false↔k∈us))->(∀ k,m<=k->k<l.length->listed.getD k true=false)->(∀ k∈us,k<m)->listed.size=l.length->Closed l.toArray listed->Fr n al a->Ext w0 w ->
   (∀ k,k<m->k ∉ us->fiM Fs k (a.tmps.getD (ds.getD k 0) undef) w)->Jkx P l.toArray Q T (us.length+fuel') listed a w:=by
 have hN:=ndB_spec hnd;have U:∀ a:Act,Fr n al a->Fr n (slM (λj=>a.tmps.getD (ds.getD j 0) undef) al ds 0) a:=λa ha=>⟨ha.size,ha.defers,λt v h=>by
  by_cases hm:t∈ds
  ·obtain ⟨j,hj,e⟩:=mem_getD hm;rw [<-e,lk_slM_at hN hj]at h;simp only [Nat.zero_add,Option.some.injEq]at h;rw [<-e];exact h
  ·rw [lk_slM_no hm]at h;exact ha.has t v h⟩
 intro us;generalize hL:us.length=L
 induction L generalizing us with
 | zero=>
  intro listed a w hu G a5 Z af a1 ha hx hf;have ai:us=[]:=List.length_eq_zero_iff.1 hL;subst ai;have e:listed=lst l.length m:=by
   refine Array.ext_getElem? λi=>?_;rw [lst_get];by_cases hi:i<l.length
   ·rw [if_pos hi];have J:i<listed.size:=by omega
    by_cases a4:i<m
    ·have D:=G i a4;have C:listed.getD i true=true:=by
      cases hh:listed.getD i true with
      | true=>rfl
      | false=>exact absurd (D.1 hh) (by simp)
     simp [J]at C;simp [J,C,Nat.blt];omega
    ·have C:=a5 i (by omega) hi;simp [J]at C;have h3:Nat.blt i m=false:=by
      cases hh:Nat.blt i m with
      | false=>rfl
      | true=>exact absurd (show i+1<=m by simpa [Nat.blt] using hh) (by omega)
     simp [J,C,h3]
   ·rw [if_neg hi];simp;omega
  rw [Nat.zero_add,e];rw [e]at a1;exact hend _ w hx (λk O=>hf k O (by simp)) a1 a (U a ha)
 | succ L ih=>
  intro listed a w hu G a5 Z af a1 ha hx hf;rw [show L+1+fuel'=(L+fuel')+1 by omega];have ab:us≠[]:=λe=>by rw [e]at hL;cases hL
  by_cases hq:us=[q]
  ·have ah:q<m:=Z q (by rw [hq];simp);have ay:L=0:=by rw [hq]at hL;simpa using hL.symm
   have e:listed=(lst l.length m).setIfInBounds q false:=by
    refine Array.ext_getElem? λi=>?_;by_cases hqi:q=i
    ·subst hqi;have D:=(G q ah).2 (by rw [hq];simp);have C:q<listed.size:=by omega
     simp [C]at D;rw [Array.getElem?_setIfInBounds_self_of_lt (by unfold lst;simp;omega)];simp [C,D]
    ·rw [Array.getElem?_setIfInBounds_ne hqi,lst_get];by_cases hi:i<l.length
     ·rw [if_pos hi];have J:i<listed.size:=by omega
      by_cases a4:i<m
      ·have D:=G i a4;have C:listed.getD i true=true:=by
        cases hh:listed.getD i true with
        | true=>rfl
        | false=>exact absurd (D.1 hh) (by rw [hq];simp;omega)
       simp [J]at C;simp [J,C,Nat.blt];omega
      ·have C:=a5 i (by omega) hi;simp [J]at C;have h3:Nat.blt i m=false:=by
        cases hh:Nat.blt i m with
        | false=>rfl
        | true=>exact absurd (show i+1<=m by simpa [Nat.blt] using hh) (by omega)
       simp [J,C,h3]
     ·rw [if_neg hi];simp;omega
   rw [ay,e,show 0+fuel'+1=fuel'+1 by omega];rw [e]at a1;exact hend2 ah _ w hx (λk O aq=>hf k O (by rw [hq];simpa using aq)) a1 a (U a ha)
  obtain ⟨k0,a3,ak⟩:∃ k,k∈us/\k≠q:=by
   refine Classical.byContradiction λap=>?_;have U:∀ k∈us,k=q:=λk O=>Classical.byContradiction λh=>ap ⟨k,O,h⟩;apply hq
   match us,hu,ab,U with
   | [x],_,_,h=>rw [h x (by simp)]
   | x::y::r,hu,_,h=>
    have D:=h x (by simp);have C:=h y (by simp);rw [D,C]at hu;simp at hu
  refine ⟨λhr=>?_,λi hi=>?_⟩
  ·exfalso
   obtain ⟨k,O,aj⟩:∃ k,k∈us/\∀ j,j<k->j ∉ us:=by
    have:∀ s k,k∈us->k<s->∃ k,k∈us/\∀ j,j<k->j ∉ us:=by
     intro s;induction s with
     | zero=>intro k _ h;omega
     | succ s ihs=>
      intro k O az;by_cases h:∃ j,j<k/\j∈us
      ·obtain ⟨j,hj,ae⟩:=h;exact ihs j ae (by omega)
      ·exact ⟨k,O,λj hj ae=>h ⟨j,hj,ae⟩⟩
    exact this (k0+1) k0 a3 (by omega)
   have a2:=Z k O;have au:=(G k a2).2 O;have ac:k<l.length:=by omega
   have ag:k∈Region.ready .any l.toArray listed:=by
    refine mem_ready.2 ⟨au,l[k],by simp [ac],λe he hb=>?_⟩;have D:=List.all_eq_true.1 hacc k (List.mem_range.2 ac);have hn:nth l k=some l[k]:=by rw [Jxj];simp [ac]
    rw [hn]at D;simp only [Array.all_eq_true_iff_forall_mem,Bool.or_eq_true,Bool.not_eq_true']at D;have C:=(D e he).resolve_left (by rw [hb];simp);have h3:e.on<k:=by (have:e.on+1<=k:=by simpa [Nat.blt] using C);(omega)
    have h4:=aj _ h3;have h5:listed.getD e.on true=true:=by
     cases hh:listed.getD e.on true with
     | true=>rfl
     | false=>exact absurd ((G _ (by omega)).1 hh) h4
    have h6:e.on<listed.size:=by omega
    simp [h6]at h5 ⊢;exact h5
   rw [hr]at ag;cases ag
  ·obtain ⟨ao,o,ho,am⟩:=mem_ready.1 hi;have aa:l[i]?=some o:=by simpa using ho
   have aw:i<l.length:=(List.getElem?_eq_some_iff.1 aa).1;have a7:i<m:=by
    rcases Nat.lt_or_ge i m with h|h
    ·exact h
    ·exfalso
     have D:=List.all_eq_true.1 hbeh i (List.mem_range.2 (by simpa using aw));simp only [Bool.or_eq_true]at D;have C:=D.resolve_left (by
      intro hh;have:i+1<=m:=by simpa [Nat.blt] using hh
      omega)
     have an:=List.all_eq_true.1 C k0 (List.mem_range.2 (Z k0 a3));simp only [Bool.or_eq_true]at an;have h3:=an.resolve_left λhh=>ak (Nat.eq_of_beq_eq_true hh);have h4:=Jwn a1 F i k0 o ho (Jwm ho hi) h3;have h5:=(G k0 (Z k0 a3)).2 a3;have h6:k0<listed.size:=by have:=Z k0 a3;omega
     simp [h6]at h4 h5;rw [h4]at h5;cases h5
   have a4:=(G i a7).1 ao;have hO:=GoM.get hop a7 aa;rw [Nat.zero_add]at hO;have hW:=hO (λj=>a.tmps.getD (ds.getD j 0) undef) w hx λk O=>by
    unfold depB at O;rw [Array.any_eq_true']at O;obtain ⟨e,he,D⟩:=O;simp only [Bool.and_eq_true,beq_iff_eq]at D;have C:=am e he D.1;rw [D.2]at C;have h3:k<listed.size:=by
     rcases Nat.lt_or_ge k listed.size with h'|h'
     ·exact h'
     ·simp [Array.getElem?_eq_none h']at C
    have a2:k<m:=by
     rcases Nat.lt_or_ge k m with h|h
     ·exact h
     ·have h4:=a5 k h (by omega);simp [h3]at C h4;rw [C]at h4;cases h4
    refine hf k a2 λad=>?_;have h4:=(G k a2).2 ad;simp [h3]at C h4;rw [C]at h4;cases h4
   have D:=wpOp_of_M (Q:=Q) (ops:=l.toArray) (by simpa using aa) hW a (U a ha);refine wpOp_mono (λa' w' h=>?_) D;obtain ⟨v,a6,a8,hF⟩:=h;have ax:lk ((ds.getD i 0,v)::slM (λj=>a.tmps.getD (ds.getD j 0) undef) al ds 0) (ds.getD i 0)=some v:=Jfg _ _ _;have av:ds.getD i 0∈ds:=by rw [List.getD_eq_getElem?_getD,List.getElem?_eq_getElem (by omega)];exact List.getElem_mem _
   refine ⟨λ_=>a8,ih (us.erase i) (by rw [List.length_erase_of_mem a4,hL];omega) _ a' w' (hu.erase i) (λk a2=>?_) (λk D C=>?_) (λk O=>Z k (hu.mem_erase_iff.1 O).2) (by simp [af]) (a1.step hi) ?_ (hx.trans a8) λk O ad=>?_⟩
   ·by_cases e:i=k
    ·subst e;have:i<listed.size:=by omega
     simp only [hu.mem_erase_iff];simp [this]
    ·rw [getD_set_ne true e,G k a2,hu.mem_erase_iff];exact ⟨λh=>⟨λh'=>e h'.symm,h⟩,λh=>h.2⟩
   ·rw [getD_set_ne true (by omega)];exact a5 k D C
   ·refine ⟨a6.size,a6.defers,λt u a9=>?_⟩;have hm:t ∉ ds:=λhm=>by rw [hfree t hm]at a9;cases a9
    exact a6.has t u (by rw [Jff _ _ (λe=>hm (by rw [<-e];exact av)),lk_slM_no hm];exact a9)
   ·by_cases e:k=i
    ·subst e;rw [a6.has _ _ ax];exact hF
    ·have ar:k ∉ us:=λh=>ad (hu.mem_erase_iff.2 ⟨e,h⟩);have ab:ds.getD i 0≠ds.getD k 0:=λh=>by
      have D:=lk_slM_at (vs:=λj=>Value.int .i64 (j:Int)) (al:=[]) (i:=0) hN (j:=i) (by omega);have C:=lk_slM_at (vs:=λj=>Value.int .i64 (j:Int)) (al:=[]) (i:=0) hN (j:=k) (by omega);rw [h,C]at D;simp only [Nat.zero_add,Option.some.injEq,Value.int.injEq,true_and]at D;omega
     have h3:=a6.has (ds.getD k 0) _ (by rw [Jff _ _ ab];exact lk_slM_at hN (by omega));simp only [Nat.zero_add]at h3;rw [h3];exact (hf k O ar).ext a8
theorem hmkq{T:Nat->Bool}{l:List Oper}(m q F fuel':Nat)(ds:List Nat)(Fs:List SF)(hc:(accB l && behB l.toArray F m q && ndB ds && Nat.beq ds.length m && Nat.beq (m+fuel') l.length)=true)(hfree:(ds.all λd=>(lk al d).isNone)=true)(hop:GoM P n l.toArray al w ds Fs m 0 l)(hend:∀ vs w1,Ext w w1->(∀ k,(hk:k<m:=by decide)->fiM Fs k (vs k) w1)->WH P n l.toArray Q T fuel' (lst l.length m) (slM vs al ds 0) w1)(hend2:q<m->∀ vs w1,Ext w w1->(∀ k,(hk:k<m:=by decide)->(hq:k≠q:=by decide)->fiM Fs k (vs k) w1)->WH P n l.toArray Q T (fuel'+1) ((lst l.length m).setIfInBounds q false) (slM vs al ds 0) w1): WH P n l.toArray Q T l.toArray.size (Array.replicate l.toArray.size false) al w:=λo a D=>by
 simp only [Bool.and_eq_true]at hc;obtain ⟨⟨⟨⟨Z,U⟩,O⟩,J⟩,G⟩:=hc;have u:ds.length=m:=Nat.eq_of_beq_eq_true J;have i:m+fuel'=l.length:=Nat.eq_of_beq_eq_true G;have:=wpAnyC_M (Q:=Q) (T:=T) (F:=F) (q:=q) (fuel':=fuel') (by omega) Z U O u (λd C=>by simpa using List.all_eq_true.1 hfree d C) hop hend hend2 (List.range m) (Array.replicate l.length false) a w List.nodup_range (λk hk=>?_) (λk _ h=>by simp [h]) (λk hk=>List.mem_range.1 hk) (by simp) (by simpa using o) D (Ext.refl w) λk hk j=>absurd (List.mem_range.2 hk) j
 ·rw [List.length_range,i]at this;simpa using this
 ·have:k<l.length:=by omega
  simp [this,hk]
theorem hmk{T:Nat->Bool}{l:List Oper}(m F fuel':Nat)(ds:List Nat)(Fs:List SF)(hc:(accB l && behB l.toArray F m m && ndB ds && Nat.beq ds.length m && Nat.beq (m+fuel') l.length)=true)(hfree:(ds.all λd=>(lk al d).isNone)=true)(hop:GoM P n l.toArray al w ds Fs m 0 l)(hend:∀ vs w1,Ext w w1->(∀ k,(hk:k<m:=by decide)->fiM Fs k (vs k) w1)->WH P n l.toArray Q T fuel' (lst l.length m) (slM vs al ds 0) w1): WH P n l.toArray Q T l.toArray.size (Array.replicate l.toArray.size false) al w :=
 hmkq m m F fuel' ds Fs hc hfree hop hend λh=>absurd h (Nat.lt_irrefl m)
end
end Go.Wk
namespace Go.Proofs.YtefpailelagbkaaGreatDoor
open Go.RowKit Pl Go.Wk
attribute [local irreducible] WC WL QX WD WDB WP WN WG WH WM
theorem bldCur0(w:World): (Instr.build 87 #[]).run Tryz.prog w=.ok (.agg #[.slice none 0 0,.slice none 0 0,.slice none 0 0,.slice none 0 0,.slice none 0 0,.slice none 0 0,.int .i64 0]) w:=by kernel_rfl
section
variable {w:World} {x:Value} {f:Nat} {ds:List Bool} {kf:Nat->Nat} {pf:Nat->Int} {BB:Nat->List BkT} {tot:Nat} {L:List Row}
theorem seek_any(h:IxA w x f ds kf pf BB tot L){k:Nat}{kv:Value}(hk:NatV w kv k)(hl:(Jjf k).length<=1000):
  Ret Tryz.prog 46 [x,kv] w λu w'=>Ext w w'/\if L.length<k then u=.tuple #[.agg #[.slice none 0 0,.slice none 0 0,.slice none 0 0,.slice none 0 0,.slice none 0 0,.slice none 0 0,.int .i64 0],.int .i64 3] else ∃ cu,u=.tuple #[cu,.int .i64 0]/\CuV w' x cu k 0:=by
 obtain ⟨DA,dc,BA,cb,KA,ck,PA,cp,tv,ao,an,rfl,ar,au,hD,hB,hK,hP,af,ap⟩:=id h.ix.ex;obtain ⟨TA,tc,rfl,_⟩:=id af;obtain ⟨QA,qc,rfl,_⟩:=id hk;refine Jjc Tryz.func46 Tryz.ntmps46 rfl (by kernel_rfl) rfl ?_;refine ρ ?_;refine bx ?_;intro w1 b U hb a8;refine ρ ?_;refine alc zCur ?_;intro w2 b2 a4 a7 a1;have a9:=a8.ext a4;have i:=U.trans a4;refine ρ ?_;refine ldW a9 ?_;refine ρ ?_;refine cl (Qxt (h.ix.ext i) h.ip.nbT) ?_;rintro u w3 ⟨ae,_,a3⟩;refine ρ ?_;refine cl (Jkw ((hk.ext i).ext a3) ae) ?_;rintro _ w4 ⟨rfl,ac⟩;have o:=a3.trans ac;refine ρ ?_;refine ci (λhc=>?_) (λhc=>?_)
 ·have Z:L.length<k:=by
   have G:=oT hc;rw [h.ip.len]at G;unfold Qcv at G;by_cases c1:k<L.length
   ·rw [if_pos c1]at G;omega
   ·rw [if_neg c1]at G;by_cases c2:L.length<k
    ·exact c2
    ·rw [if_neg c2]at G;omega
  refine ρ ?_;refine bld (bldCur0 _) ?_;refine ρ ?_;refine stW (a1.ext o) ?_;intro w5 am aq D;have O:Ext w w5:=D w (i.trans o) (nL U.size a7);refine ρ ?_;refine Jvr am ⟨O,?_⟩;rw [if_pos Z]
 have aj:¬ L.length<k:=λZ=>by
  have G:=oF hc;rw [h.ip.len]at G;apply G
  unfold Qcv;rw [if_neg (by omega),if_pos Z];decide
 have a2:Ext w4 w4.drew:=(Ext.refl w4).drew;have av:=a1.lt;have aa:¬ b=b2:=λe=>by have:=a8.lt;omega
 refine ρ ?_;refine drN (λk=>k=b2) 8 [(0,0),(0,1),(1,2),(0,3),(1,4),(0,5)] (by kernel_rfl) ?_;refine ρn ?_;refine Jlg (cs:=[.slice DA f dc,.slice BA f cb,.slice KA f ck,.slice PA f cp,.slice TA (Jjf tot).length tc]) (λw' hg j u hu=>(Jjw ((a9.ext o).ext a2) hg aa).at hu) ?_;refine ρn ?_;refine nop ?_;have C:=o.trans a2;refine cl (Jyj (hk.ext (i.trans C)) hl) ?_;rintro nv w5 ⟨a5,ah,D⟩;obtain ⟨NA,nc,rfl,_⟩:=id a5;refine ρ ?_;refine Jqt (GrN.ext D) ?_;refine ρn ?_;refine Xqb (bldCur2 _ _ _ _ _ _ _ _ _ _ _ _ _ _ _ _ _ _) ?_;refine ρn ?_;refine nop ?_;have J:=C.trans D;refine stW (a1.ext J) ?_;intro w6 ak a6 ab;have O:Ext w w6:=ab w (i.trans J) (nL U.size a7);have ai:GrN (λk=>k=b2) w5 w6:=GrN.by a6 λk hk=>by injection hk with hk;exact hk.symm
 refine Jzr (Jqt ai ?_);refine ρn ?_;refine ρ ?_;have ag:NatV w6 (.slice NA (Jjf k).length nc) k:=a5.grown a6 λad m c e=>by
  have G:=ah ad m c e;have h2:=C.size;intro e2;injection e2 with e2
  omega
 refine Jvr ak ⟨O,?_⟩;rw [if_neg aj];exact ⟨_,rfl,DA,BA,KA,PA,TA,_,_,_,_,_,dc,cb,ck,cp,tc,_,rfl,rfl,ag⟩
end
theorem sumR_succ(n:Nat)(g:Nat->Nat): Jcg (n+1) g=Jcg n g+g n:=rfl
theorem height44_any{w:World}{x:Value}{f:Nat}{ds:List Bool}{kf:Nat->Nat}{pf:Nat->Int}{BB:Nat->List BkT}{tot:Nat}(h:IxV w x f ds kf pf BB tot)(hf32:f<=32)(hb:∀ v b,b∈BB v->b.2.ht<=65536):
  Ret Tryz.prog 48 [x] w λu w'=>u=.int .i64 (Jcg f λv=>hmB (BB v):Nat)/\Ext w w':=by
 obtain ⟨DA,dc,BA,cb,KA,ck,PA,cp,tv,am,ak,rfl,ar,au,hD,hB,hK,hP,a9,ap⟩:=id h.ex;obtain ⟨TA,tc,rfl,_⟩:=id a9;refine Jjc Tryz.func48 Tryz.ntmps48 rfl (by kernel_rfl) rfl ?_;refine ρ ?_;refine bx ?_;intro w1 b O av af;have ac:∀ v,hmB (BB v)<=65536:=λv=>hmB_le λb ae=>hb v b ae;have aa:∀ v,v<=f->Jcg v (λv=>hmB (BB v))<=2097152:=λv hv=>by
  have:=sumR_bd (n:=v) (g:=λv=>hmB (BB v)) (B:=65536) λc _=>ac c;have:v*65536<=32*65536:=nO _ (by omega);omega
 refine ρ ?_;refine Jqb (fun (v:Nat) (s:Nat)=>[(1,.pointer (some ⟨b,0,none⟩)),(3,.int .i64 (s:Int)),(4,.int .i64 (v:Int))])
  (λv s w'=>v<=f/\Ext w1 w'/\s=Jcg v λv=>hmB (BB v)) (λv _=>f-v) 0 0 sB ⟨Nat.zero_le _,Ext.refl _,rfl⟩ ?_
 rintro v s w2 ⟨hv,C,hs⟩;have a4:=af.ext C;refine ρ ?_;refine ldW a4 ?_;refine ρ ?_;refine cl (Jnz (h.ext (O.trans C))) ?_;rintro _ w3 ⟨rfl,G⟩;have ag:=a4.ext G;refine ρ ?_;refine ci (λhc=>?_) (λhc=>?_)
 ·have lv:v<f:=by have:=oT hc;omega
  refine ρ ?_;refine ldW ag ?_;refine ρ ?_;refine cl (ixBuckets_any (h.ext ((O.trans C).trans G)) lv) ?_;rintro u w4 ⟨⟨ps,A,c,U,rfl,hc,hl,hR,_,a3⟩,a8⟩;refine ρ ?_;refine Jqb (fun (i:Nat) (m:Nat)=>[(1,.pointer (some ⟨b,0,none⟩)),(3,.int .i64 (s:Int)),(4,.int .i64 (v:Int)),(5,.int .i64 (m:Int)),(6,.slice A ps.length c),(7,.int .i64 (i:Int))])
   (λi m w'=>i<=ps.length/\Ext w4 w'/\m=hmB ((BB v).take i)) (λi _=>ps.length-i) 0 0 sB ⟨Nat.zero_le _,Ext.refl _,rfl⟩ ?_
  rintro i m w5 ⟨hi,o,hm⟩;refine ρ ?_;refine ci (λh=>?_) (λh=>?_)
  ·have li:i<ps.length:=by have:=oT h;omega
   clear h;have ad:i<(BB v).length:=by rw [U,List.length_map];exact li
   obtain ⟨z,hz⟩:∃ z,z=ps[i]:=⟨_,rfl⟩;have a2:(BB v)[i]=z.2:=by simp only [U,List.getElem_map,hz]
   have a6:z∈ps:=by rw [hz];exact List.getElem_mem li
   obtain ⟨ao,a1⟩:=a3 z a6;have D:∀ j u,z.1[j]?=some u->w5.cell? ((adr A (i*3)).add j)=some u:=λj u hu=>by
    have hj:j<3:=by have:=(List.getElem?_eq_some_iff.1 hu).1;omega
    rw [Jqr];refine (hR.ext o).cell ?_;rw [Jkk (p:=z) (λp hp=>(a3 p hp).1) (by rw [hz];exact gE li) hj];exact hu
   obtain ⟨kv,zq,a5,Z,J⟩:=id a1;obtain ⟨zp,rfl⟩:=J.ptr;obtain ⟨zc,zk,zt⟩:=z;simp only at a5 Z J D a1 a2;subst a5;obtain ⟨aw,an,rfl,ai,ah,aj,_⟩:=id Z;refine ρ ?_;refine ixq 3 i (hR.ext o) li ?_;refine ρ ?_;refine lds (cs:=[.bool (ds.getD v false),.pointer zp]) (λj u hu=>?_) ?_
   ·have:=D (j+1) u hu;rw [Jqr]at this ⊢;rw [Jqr];rw [show i*3+1+j=i*3+(j+1) by omega];exact this
   refine ρ ?_;refine cl (treeHeight_any (TrV.ext J o)) ?_;rintro _ w6 ⟨rfl,a7⟩;refine ρ ?_;have ab:(if (m:Int)<(zt.ht:Int) then (zt.ht:Int) else (m:Int))=((max m zt.ht:Nat):Int):=by split<;>omega
   rw [ab];refine Jjm (i+1) (max m zt.ht) sO ⟨by omega,o.trans a7,?_⟩ (by omega);rw [hmB_take _ ad,hm,a2]
  ·have aq:i=ps.length:=by have:=oF h;omega
   have e:(BB v).take i=BB v:=by rw [List.take_of_length_le];rw [U,List.length_map];omega
   rw [e]at hm;subst hm;have h1:=aa (v+1) lv;rw [sumR_succ]at h1;refine ρ ?_;refine Jjm (v+1) (s+hmB (BB v)) sO ⟨by omega,((C.trans G).trans a8).trans o,?_⟩ (by omega);rw [sumR_succ,hs]
 ·have e:v=f:=by have:=oF hc;omega
  subst e;subst hs;refine ρ ?_;exact Jjr ⟨rfl,(O.trans C).trans G⟩
end Go.Proofs.YtefpailelagbkaaGreatDoor
