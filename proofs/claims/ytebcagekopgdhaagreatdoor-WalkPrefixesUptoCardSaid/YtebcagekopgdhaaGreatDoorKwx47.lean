/- Part 2. -/
import Derived.Test.YtebcagekopgdhaaGreatDoorKwx46
set_option linter.unusedVariables false
set_option maxRecDepth 100000
set_option maxHeartbeats 40000000
namespace Go.Wk
open Go.RowKit
structure SF where
 p: Value->World->Prop
 st:∀ {v:Value} {w w':World},p v w->Ext w w'->p v w'
def SF.bk{w:World}{b t:Nat}{cs:List Value}(h:Blk w b t cs): SF:=⟨λv _=>v=.agg cs.toArray,λh _=>h⟩
def SF.eq(c:Value): SF:=⟨λv _=>v=c,λh _=>h⟩
def depB(o:Oper)(k:Nat): Bool:=o.after.any λe=>Region.binds .any e && e.on == k
def accB(l:List Oper): Bool:=(List.range l.length).all λi=>match nth l i with
 | some o=>o.after.all λe=>!Region.binds .any e || Nat.blt e.on i
 | none=>true
def slM(vs:Nat->Value)(al:AL): List Nat->Nat->AL
 | [],_=>al
 | d::r,i=>(d,vs i)::slM vs al r (i+1)
theorem lk_slM_no{vs:Nat->Value}{al:AL}{t:Nat}: ∀ {ds:List Nat} {i:Nat},t ∉ ds->lk (slM vs al ds i) t=lk al t
 | [],_,_=>rfl
 | d::r,i,h=>by
  unfold slM;rw [Jcz _ _ (λe=>h (by rw [e];exact mC ..))];exact lk_slM_no λh'=>h (List.mem_cons_of_mem _ h')
theorem lk_slM_at{vs:Nat->Value}{al:AL}: ∀ {ds:List Nat} {i j:Nat},ds.Nodup->j<ds.length->lk (slM vs al ds i) (ds.getD j 0)=some (vs (i+j))
 | [],_,_,_,h=>by simp at h
 | d::r,i,0,_,_=>by unfold slM;simp [Jdb]
 | d::r,i,j+1,hn,hj=>by
  have hn':=List.nodup_cons.1 hn;have hj':j<r.length:=by simpa using hj
  unfold slM;have e:(d::r).getD (j+1) 0=r.getD j 0:=by simp
  rw [e];have hm:r.getD j 0∈r:=by rw [List.getD_eq_getElem?_getD,List.getElem?_eq_getElem hj'];exact List.getElem_mem hj'
  rw [Jcz _ _ (λe=>hn'.1 (by rw [e];exact hm)),lk_slM_at hn'.2 hj'];congr 2;omega
theorem mem_getD{ds:List Nat}{t:Nat}(h:t∈ds): ∃ j,j<ds.length/\ds.getD j 0=t:=by
 obtain ⟨j,o,e⟩:=List.getElem_of_mem h;exact ⟨j,o,by rw [List.getD_eq_getElem?_getD,List.getElem?_eq_getElem o];exact e⟩
section
variable {P:Program} {n:Nat} {al:AL} {w:World} {Q:Exit->Act->World->Prop} {ops:Array Oper}
def toM(G:Act->World->Prop): Exit->Act->World->Prop
 | .normal,a,w=>G a w
 | _,_,_=>False
theorem wpOp_of_M{i:Nat}{o:Oper}{G:Act->World->Prop}(ho:ops[i]?=some o)(h:WL P n ops (toM G) [o] al w): ∀ a,Fr n al a->wpOp P ops (QF Q) i G a w:=λa O=>by
 have u:=h a O;unfold wpList at u;unfold wpOp;simp only [ho];have C:¬ LetsOut (toM G):=by rintro ⟨a,w,h⟩;exact h
 split
 .rename_i hw;simp only [hw,if_true]at u;rcases u with u|⟨_,u⟩
  .left
   refine Oper.wp_mono (K:=wpList P ops (toM G) []) (λZ w' U=>U) ?_;unfold Oper.wp at u ⊢;exact Yq (Q:=toM G) (λc a w J=>J.elim) (λJ=>absurd J C) u
  .exact absurd u C
 .rename_i hw;simp only [hw]at u;exact u
def PM(n:Nat)(al:AL)(w:World)(d:Nat)(F:SF)(a:Act)(w':World): Prop:=∃ v,Fr n ((d,v)::al) a/\Ext w w'/\F.p v w'
theorem mdone{w':World}{d:Nat}{v:Value}{F:SF}(hx:Ext w w')(h:F.p v w'): QX n (toM (PM n al w d F)) .normal ((d,v)::al) w':=λa o=>⟨v,o,hx,h⟩
def fiM(Fs:List SF)(k:Nat)(v:Value)(w:World): Prop:=(Fs.getD k ⟨λ_ _=>True,λ_ _=>trivial⟩).p v w
theorem fiM.ext{Fs:List SF}{k:Nat}{v:Value}{w w':World}(h:fiM Fs k v w)(hx:Ext w w'): fiM Fs k v w':=SF.st _ h hx
def OpM(P:Program)(n:Nat)(ops:Array Oper)(al:AL)(w0:World)(ds:List Nat)(Fs:List SF)(i:Nat)(o:Oper): Prop :=
 ∀ vs w1,Ext w0 w1->(∀ k,depB o k=true->fiM Fs k (vs k) w1)->WL P n ops (toM (PM n (slM vs al ds 0) w1 (ds.getD i 0) (Fs.getD i ⟨λ_ _=>True,λ_ _=>trivial⟩))) [o] (slM vs al ds 0) w1
def GoM(P:Program)(n:Nat)(ops:Array Oper)(al:AL)(w0:World)(ds:List Nat)(Fs:List SF): Nat->Nat->List Oper->Prop
 | 0,_,_=>True
 | _+1,_,[]=>True
 | m+1,i,o::r=>OpM P n ops al w0 ds Fs i o/\GoM P n ops al w0 ds Fs m (i+1) r
theorem GoM.get{w0:World}{ds:List Nat}{Fs:List SF}: ∀ {l:List Oper} {m s i:Nat} {o:Oper},GoM P n ops al w0 ds Fs m s l->i<m->l[i]?=some o->OpM P n ops al w0 ds Fs (s+i) o
 | [],_,_,_,_,_,_,h=>by simp at h
 | x::r,0,_,_,_,_,h0,_=>by omega
 | x::r,m+1,s,0,o,h,_,e=>by
  simp only [List.getElem?_cons_zero,Option.some.injEq]at e;subst e;exact h.1
 | x::r,m+1,s,i+1,o,h,h0,e=>by
  have:=GoM.get h.2 (by omega:i<m) (by simpa using e);rwa [show s+(i+1)=s+1+i by omega]
theorem gmc{w0:World}{ds:List Nat}{Fs:List SF}{m i:Nat}{o:Oper}{r:List Oper}(h:∀ vs w1,Ext w0 w1->(∀ k,(hk:depB o k=true:=by kernel_rfl)->fiM Fs k (vs k) w1)->WL P n ops (toM (PM n (slM vs al ds 0) w1 (ds.getD i 0) (Fs.getD i ⟨λ_ _=>True,λ_ _=>trivial⟩))) [o] (slM vs al ds 0) w1)(h2:GoM P n ops al w0 ds Fs m (i+1) r): GoM P n ops al w0 ds Fs (m+1) i (o::r):=⟨h,h2⟩
theorem gme{w0:World}{ds:List Nat}{Fs:List SF}{i:Nat}{r:List Oper}: GoM P n ops al w0 ds Fs 0 i r:=trivial
def ndB: List Nat->Bool
 | []=>true
 | d::r=>!(r.any λx=>Nat.beq d x) && ndB r
theorem ndB_spec: ∀ {ds:List Nat},ndB ds=true->ds.Nodup
 | [],_=>List.nodup_nil
 | d::r,h=>by
  simp only [ndB,Bool.and_eq_true,Bool.not_eq_true']at h;refine List.nodup_cons.2 ⟨λhm=>?_,ndB_spec h.2⟩;have:=List.any_eq_false.1 h.1 d hm;simp at this
def behB(ops:Array Oper)(F m q:Nat): Bool:=(List.range ops.size).all λi=>Nat.blt i m || (List.range m).all λj=>Nat.beq j q || Up ops F i j
theorem lst_get(m k i:Nat): (lst m k)[i]?=if i<m then some (Nat.blt i k) else none:=by
 unfold lst;by_cases h:i<m
 .simp [h]
 .simp [h]
theorem wpAnyC_M{T:Nat->Bool}{l:List Oper}{w0:World}{m q F fuel':Nat}{ds:List Nat}{Fs:List SF}(hml:m<=l.length)(hacc:accB l=true)(hbeh:behB l.toArray F m q=true)(hnd:ndB ds=true)(hlen:ds.length=m)(hfree:∀ d∈ds,lk al d=none)(hop:GoM P n l.toArray al w0 ds Fs m 0 l)(hend:∀ vs w1,Ext w0 w1->(∀ k,k<m->fiM Fs k (vs k) w1)->WH P n l.toArray Q T fuel' (lst l.length m) (slM vs al ds 0) w1)(hend2:q<m->∀ vs w1,Ext w0 w1->(∀ k,k<m->k≠q->fiM Fs k (vs k) w1)->WH P n l.toArray Q T (fuel'+1) ((lst l.length m).setIfInBounds q false) (slM vs al ds 0) w1):
  ∀ (us:List Nat) (listed:Array Bool) (a:Act) (w:World),us.Nodup->(∀ k,k<m->(listed.getD k true=false↔k∈us))->(∀ k,m<=k->k<l.length->listed.getD k true=false)->(∀ k∈us,k<m)->listed.size=l.length->Closed l.toArray listed->Fr n al a->Ext w0 w ->
   (∀ k,k<m->k ∉ us->fiM Fs k (a.tmps.getD (ds.getD k 0) undef) w)->Vk P l.toArray Q T (us.length+fuel') listed a w:=by
 have hN:=ndB_spec hnd;have Z:∀ a:Act,Fr n al a->Fr n (slM (λj=>a.tmps.getD (ds.getD j 0) undef) al ds 0) a:=λa ha=>⟨ha.size,ha.defers,λt v h=>by
  by_cases hm:t∈ds
  .obtain ⟨j,hj,e⟩:=mem_getD hm;rw [<-e,lk_slM_at hN hj]at h;simp only [Nat.zero_add,Option.some.injEq]at h;rw [<-e];exact h
  .rw [lk_slM_no hm]at h;exact ha.has t v h⟩
 intro us;generalize hL:us.length=L
 induction L generalizing us with
 | zero=>
  intro listed a w hu J a6 a1 ag a2 ha hx hf;have aj:us=[]:=List.length_eq_zero_iff.1 hL;subst aj;have e:listed=lst l.length m:=by
   refine Array.ext_getElem? λi=>?_;rw [lst_get];by_cases hi:i<l.length
   .rw [if_pos hi];have O:i<listed.size:=om
    by_cases a5:i<m
    .have G:=J i a5;have C:listed.getD i true=true:=by
      cases hh:listed.getD i true with
      | true=>rfl
      | false=>exact absurd (G.1 hh) (by simp)
     simp [O]at C;simp [O,C,Nat.blt];omega
    .have C:=a6 i om hi;simp [O]at C;have h3:Nat.blt i m=false:=by
      cases hh:Nat.blt i m with
      | false=>rfl
      | true=>exact absurd (show i+1<=m by simpa [Nat.blt] using hh) om
     simp [O,C,h3]
   .rw [if_neg hi];simp;omega
  rw [Nat.zero_add,e];rw [e]at a2;exact hend _ w hx (λk U=>hf k U (by simp)) a2 a (Z a ha)
 | succ L ih=>
  intro listed a w hu J a6 a1 ag a2 ha hx hf;rw [show L+1+fuel'=(L+fuel')+1 by omega];have ac:us≠[]:=λe=>by rw [e]at hL;cases hL
  by_cases hq:us=[q]
  .have ai:q<m:=a1 q (by rw [hq];simp);have b1:L=0:=by rw [hq]at hL;simpa using hL.symm
   have e:listed=(lst l.length m).setIfInBounds q false:=by
    refine Array.ext_getElem? λi=>?_;by_cases hqi:q=i
    .subst hqi;have G:=(J q ai).2 (by rw [hq];simp);have C:q<listed.size:=om
     simp [C]at G;rw [Array.getElem?_setIfInBounds_self_of_lt (by unfold lst;simp;omega)];simp [C,G]
    .rw [Array.getElem?_setIfInBounds_ne hqi,lst_get];by_cases hi:i<l.length
     .rw [if_pos hi];have O:i<listed.size:=om
      by_cases a5:i<m
      .have G:=J i a5;have C:listed.getD i true=true:=by
        cases hh:listed.getD i true with
        | true=>rfl
        | false=>exact absurd (G.1 hh) (by rw [hq];simp;omega)
       simp [O]at C;simp [O,C,Nat.blt];omega
      .have C:=a6 i om hi;simp [O]at C;have h3:Nat.blt i m=false:=by
        cases hh:Nat.blt i m with
        | false=>rfl
        | true=>exact absurd (show i+1<=m by simpa [Nat.blt] using hh) om
       simp [O,C,h3]
     .rw [if_neg hi];simp;omega
   rw [b1,e,show 0+fuel'+1=fuel'+1 by omega];rw [e]at a2;exact hend2 ai _ w hx (λk U ar=>hf k U (by rw [hq];simpa using ar)) a2 a (Z a ha)
  obtain ⟨k0,a4,am⟩:∃ k,k∈us/\k≠q:=by
   refine Classical.byContradiction λaq=>?_;have Z:∀ k∈us,k=q:=λk U=>Classical.byContradiction λh=>aq ⟨k,U,h⟩;apply hq
   match us,hu,ac,Z with
   | [x],_,_,h=>rw [h x (by simp)]
   | x::y::r,hu,_,h=>
    have G:=h x (by simp);have C:=h y (by simp);rw [G,C]at hu;simp at hu
  refine ⟨λhr=>?_,λi hi=>?_⟩
  .exfalso
   obtain ⟨k,U,ak⟩:∃ k,k∈us/\∀ j,j<k->j ∉ us:=by
    have:∀ s k,k∈us->k<s->∃ k,k∈us/\∀ j,j<k->j ∉ us:=by
     intro s;induction s with
     | zero=>intro k _ h;omega
     | succ s ihs=>
      intro k U b2;by_cases h:∃ j,j<k/\j∈us
      .obtain ⟨j,hj,af⟩:=h;exact ihs j af om
      .exact ⟨k,U,λj hj af=>h ⟨j,hj,af⟩⟩
    exact this (k0+1) k0 a4 om
   have a3:=a1 k U;have av:=(J k a3).2 U;have ad:k<l.length:=om
   have ah:k∈Region.ready .any l.toArray listed:=by
    refine mem_ready.2 ⟨av,l[k],by simp [ad],λe he hb=>?_⟩;have G:=List.all_eq_true.1 hacc k (List.mem_range.2 ad);have hn:nth l k=some l[k]:=by rw [Xq];simp [ad]
    rw [hn]at G;simp only [Array.all_eq_true_iff_forall_mem,Bool.or_eq_true,Bool.not_eq_true']at G;have C:=(G e he).resolve_left (by rw [hb];simp);have h3:e.on<k:=by (have:e.on+1<=k:=by simpa [Nat.blt] using C);(omega)
    have h4:=ak _ h3;have h5:listed.getD e.on true=true:=by
     cases hh:listed.getD e.on true with
     | true=>rfl
     | false=>exact absurd ((J _ om).1 hh) h4
    have h6:e.on<listed.size:=om
    simp [h6]at h5 ⊢;exact h5
   rw [hr]at ah;cases ah
  .obtain ⟨ap,o,ho,an⟩:=mem_ready.1 hi;have ab:l[i]?=some o:=by simpa using ho
   have ax:i<l.length:=(List.getElem?_eq_some_iff.1 ab).1;have a8:i<m:=by
    rcases Nat.lt_or_ge i m with h|h
    .exact h
    .exfalso
     have G:=List.all_eq_true.1 hbeh i (List.mem_range.2 (by simpa using ax));simp only [Bool.or_eq_true]at G;have C:=G.resolve_left (by
      intro hh;have:i+1<=m:=by simpa [Nat.blt] using hh
      omega)
     have ao:=List.all_eq_true.1 C k0 (List.mem_range.2 (a1 k0 a4));simp only [Bool.or_eq_true]at ao;have h3:=ao.resolve_left λhh=>am (Nat.eq_of_beq_eq_true hh);have h4:=Jwk a2 F i k0 o ho (Jwj ho hi) h3;have h5:=(J k0 (a1 k0 a4)).2 a4;have h6:k0<listed.size:=by have:=a1 k0 a4;omega
     simp [h6]at h4 h5;rw [h4]at h5;cases h5
   have a5:=(J i a8).1 ap;have hO:=GoM.get hop a8 ab;rw [Nat.zero_add]at hO;have hW:=hO (λj=>a.tmps.getD (ds.getD j 0) undef) w hx λk U=>by
    unfold depB at U;rw [Array.any_eq_true']at U;obtain ⟨e,he,G⟩:=U;simp only [Bool.and_eq_true,beq_iff_eq]at G;have C:=an e he G.1;rw [G.2]at C;have h3:k<listed.size:=by
     rcases Nat.lt_or_ge k listed.size with h'|h'
     .exact h'
     .simp [Array.getElem?_eq_none h']at C
    have a3:k<m:=by
     rcases Nat.lt_or_ge k m with h|h
     .exact h
     .have h4:=a6 k h om;simp [h3]at C h4;rw [C]at h4;cases h4
    refine hf k a3 λae=>?_;have h4:=(J k a3).2 ae;simp [h3]at C h4;rw [C]at h4;cases h4
   have G:=wpOp_of_M (Q:=Q) (ops:=l.toArray) (by simpa using ab) hW a (Z a ha);refine wpOp_mono (λa' w' h=>?_) G;obtain ⟨v,a7,a9,hF⟩:=h;have ay:lk ((ds.getD i 0,v)::slM (λj=>a.tmps.getD (ds.getD j 0) undef) al ds 0) (ds.getD i 0)=some v:=Jdb _ _ _;have aw:ds.getD i 0∈ds:=by rw [List.getD_eq_getElem?_getD,List.getElem?_eq_getElem om];exact List.getElem_mem _
   refine ⟨λ_=>a9,ih (us.erase i) (by rw [List.length_erase_of_mem a5,hL];omega) _ a' w' (hu.erase i) (λk a3=>?_) (λk G C=>?_) (λk U=>a1 k (hu.mem_erase_iff.1 U).2) (by simp [ag]) (a2.step hi) ?_ (hx.trans a9) λk U ae=>?_⟩
   .by_cases e:i=k
    .subst e;have:i<listed.size:=om
     simp only [hu.mem_erase_iff];simp [this]
    .rw [getD_set_ne true e,J k a3,hu.mem_erase_iff];exact ⟨λh=>⟨λh'=>e h'.symm,h⟩,λh=>h.2⟩
   .rw [getD_set_ne true om];exact a6 k G C
   .refine ⟨a7.size,a7.defers,λt u aa=>?_⟩;have hm:t ∉ ds:=λhm=>by rw [hfree t hm]at aa;cases aa
    exact a7.has t u (by rw [Jcz _ _ (λe=>hm (by rw [<-e];exact aw)),lk_slM_no hm];exact aa)
   .by_cases e:k=i
    .subst e;rw [a7.has _ _ ay];exact hF
    .have au:k ∉ us:=λh=>ae (hu.mem_erase_iff.2 ⟨e,h⟩);have ac:ds.getD i 0≠ds.getD k 0:=λh=>by
      have G:=lk_slM_at (vs:=λj=>Value.int .i64 (j:Int)) (al:=[]) (i:=0) hN (j:=i) om;have C:=lk_slM_at (vs:=λj=>Value.int .i64 (j:Int)) (al:=[]) (i:=0) hN (j:=k) om;rw [h,C]at G;simp only [Nat.zero_add,Option.some.injEq,Value.int.injEq,true_and]at G;omega
     have h3:=a7.has (ds.getD k 0) _ (by rw [Jcz _ _ ac];exact lk_slM_at hN om);simp only [Nat.zero_add]at h3;rw [h3];exact (hf k U au).ext a9
theorem hmkq{T:Nat->Bool}{l:List Oper}(m q F fuel':Nat)(ds:List Nat)(Fs:List SF)(hc:(accB l && behB l.toArray F m q && ndB ds && Nat.beq ds.length m && Nat.beq (m+fuel') l.length)=true)(hfree:(ds.all λd=>(lk al d).isNone)=true)(hop:GoM P n l.toArray al w ds Fs m 0 l)(hend:∀ vs w1,Ext w w1->(∀ k,(hk:k<m:=by decide)->fiM Fs k (vs k) w1)->WH P n l.toArray Q T fuel' (lst l.length m) (slM vs al ds 0) w1)(hend2:q<m->∀ vs w1,Ext w w1->(∀ k,(hk:k<m:=by decide)->(hq:k≠q:=by decide)->fiM Fs k (vs k) w1)->WH P n l.toArray Q T (fuel'+1) ((lst l.length m).setIfInBounds q false) (slM vs al ds 0) w1): WH P n l.toArray Q T l.toArray.size (Array.replicate l.toArray.size false) al w:=λC a O=>by
 simp only [Bool.and_eq_true]at hc;obtain ⟨⟨⟨⟨h2,h3⟩,h4⟩,Z⟩,U⟩:=hc;have G:ds.length=m:=Nat.eq_of_beq_eq_true Z;have o:m+fuel'=l.length:=Nat.eq_of_beq_eq_true U;have:=wpAnyC_M (Q:=Q) (T:=T) (F:=F) (q:=q) (fuel':=fuel') om h2 h3 h4 G (λd J=>by simpa using List.all_eq_true.1 hfree d J) hop hend hend2 (List.range m) (Array.replicate l.length false) a w List.nodup_range (λk hk=>?_) (λk _ h=>by simp [h]) (λk hk=>List.mem_range.1 hk) (by simp) (by simpa using C) O (Ext.refl w) λk hk u=>absurd (List.mem_range.2 hk) u
 .rw [List.length_range,o]at this;simpa using this
 .have:k<l.length:=om
  simp [this,hk]
theorem hmk{T:Nat->Bool}{l:List Oper}(m F fuel':Nat)(ds:List Nat)(Fs:List SF)(hc:(accB l && behB l.toArray F m m && ndB ds && Nat.beq ds.length m && Nat.beq (m+fuel') l.length)=true)(hfree:(ds.all λd=>(lk al d).isNone)=true)(hop:GoM P n l.toArray al w ds Fs m 0 l)(hend:∀ vs w1,Ext w w1->(∀ k,(hk:k<m:=by decide)->fiM Fs k (vs k) w1)->WH P n l.toArray Q T fuel' (lst l.length m) (slM vs al ds 0) w1): WH P n l.toArray Q T l.toArray.size (Array.replicate l.toArray.size false) al w :=
 hmkq m m F fuel' ds Fs hc hfree hop hend λh=>absurd h (Nat.lt_irrefl m)
end
end Go.Wk
namespace Go.Proofs.YtebcagekopgdhaaGreatDoor
open Go.RowKit Pl Go.Wk
attribute [local irreducible] WC WL QX WD WDB WP WN WG WH WM
theorem bldCur0(w:World): (Instr.build 61 #[]).run Tryz.prog w=.ok (.agg #[.slice none 0 0,.slice none 0 0,.slice none 0 0,.slice none 0 0,.slice none 0 0,.slice none 0 0,.int .i64 0]) w:=kr
section
variable {w:World} {x:Value} {f:Nat} {ds:List Bool} {kf:Nat->Nat} {pf:Nat->Int} {BB:Nat->List BkT} {tot:Nat} {L:List Row}
theorem seek_any(h:IxA w x f ds kf pf BB tot L){k:Nat}{kv:Value}(hk:NatV w kv k)(hl:(Jq k).length<=1000):
  Ret Tryz.prog 27 [x,kv] w λu w'=>Ext w w'/\if L.length<k then u=.tuple #[.agg #[.slice none 0 0,.slice none 0 0,.slice none 0 0,.slice none 0 0,.slice none 0 0,.slice none 0 0,.int .i64 0],.int .i64 3] else ∃ cu,u=.tuple #[cu,.int .i64 0]/\CuV w' x cu k 0:=by
 obtain ⟨DA,dc,BA,cb,KA,ck,PA,cp,tv,aq,ap,rfl,av,aw,hD,hB,hK,hP,ah,ar⟩:=id h.ix.ex;obtain ⟨TA,tc,rfl,_⟩:=id ah;obtain ⟨QA,qc,rfl,_⟩:=id hk;refine Jz Tryz.func27 Tryz.ntmps27 rfl kr rfl ?_;refine ρ ?_;refine bx ?_;intro w1 b a1 hb aa;refine ρ ?_;refine alc zCur ?_;intro w2 b2 a6 a9 a3;have ab:=aa.ext a6;have o:=a1.trans a6;refine ρ ?_;refine ldW ab ?_;refine ρ ?_;refine cl (Qfw (h.ix.ext o) h.ip.nbT) ?_;rintro u w3 ⟨ag,_,a5⟩;refine ρ ?_;refine cl (Jqh ((hk.ext o).ext a5) ag) ?_;rintro _ w4 ⟨rfl,af⟩;have C:=a5.trans af;refine ρ ?_;refine ci (λhc=>?_) (λhc=>?_)
 .have a2:L.length<k:=by
   have O:=oT hc;rw [h.ip.len]at O;unfold Yl at O;by_cases c1:k<L.length
   .rw [if_pos c1]at O;omega
   .rw [if_neg c1]at O;by_cases c2:L.length<k
    .exact c2
    .rw [if_neg c2]at O;omega
  refine ρ ?_;refine bld (bldCur0 _) ?_;refine ρ ?_;refine stW (a3.ext C) ?_;intro w5 ao au J;have Z:Ext w w5:=J w (o.trans C) (nL a1.size a9);refine ρ ?_;refine Zh ao ⟨Z,?_⟩;rw [if_pos a2]
 have am:¬ L.length<k:=λa2=>by
  have O:=oF hc;rw [h.ip.len]at O;apply O
  unfold Yl;rw [if_neg om,if_pos a2];decide
 have a4:Ext w4 w4.drew:=(Ext.refl w4).drew;have ax:=a3.lt;have ac:¬ b=b2:=λe=>by have:=aa.lt;omega
 refine ρ ?_;refine drN (λk=>k=b2) 8 [(0,0),(0,1),(1,2),(0,3),(1,4),(0,5)] kr ?_;refine ρn ?_;refine Xd (cs:=[.slice DA f dc,.slice BA f cb,.slice KA f ck,.slice PA f cp,.slice TA (Jq tot).length tc]) (λw' hg j u hu=>(Jd ((ab.ext C).ext a4) hg ac).at hu) ?_;refine ρn ?_;refine nop ?_;have G:=C.trans a4;refine cl (Jcr (hk.ext (o.trans G)) hl) ?_;rintro nv w5 ⟨a7,aj,J⟩;obtain ⟨NA,nc,rfl,_⟩:=id a7;refine ρ ?_;refine Je (GrN.ext J) ?_;refine ρn ?_;refine Idq (bldCur2 _ _ _ _ _ _ _ _ _ _ _ _ _ _ _ _ _ _) ?_;refine ρn ?_;refine nop ?_;have U:=G.trans J;refine stW (a3.ext U) ?_;intro w6 an a8 ae;have Z:Ext w w6:=ae w (o.trans U) (nL a1.size a9);have ak:GrN (λk=>k=b2) w5 w6:=GrN.by a8 λk hk=>by injection hk with hk;exact hk.symm
 refine Jh (Je ak ?_);refine ρn ?_;refine ρ ?_;have ai:NatV w6 (.slice NA (Jq k).length nc) k:=a7.grown a8 λad m c e=>by
  have O:=aj ad m c e;have h2:=G.size;intro e2;injection e2 with e2
  omega
 refine Zh an ⟨Z,?_⟩;rw [if_neg am];exact ⟨_,rfl,DA,BA,KA,PA,TA,_,_,_,_,_,dc,cb,ck,cp,tc,_,rfl,rfl,ai⟩
end
end Go.Proofs.YtebcagekopgdhaaGreatDoor
