/- Part 5. -/
import Derived.Test.YtebiphhfkdbpfaaGreatDoorC04
set_option linter.unusedVariables false
set_option maxRecDepth 100000
set_option maxHeartbeats 40000000
namespace Go.Wk
open Go.RowKit
variable {ds:List Nat}{l:List Oper}{b d i k t:Nat}{T:Nat->Bool}{v:Value}{w w' w0:World}
structure SF where
 p: Value->World->Prop
 st:∀ {v:Value} {w w':World},p v w->Ext w w'->p v w'
def SF.bk{cs:List Value}(h:Blk w b t cs): SF:=⟨λv _=>v=.agg cs.toArray,λh _=>h⟩
def SF.eq(c:Value): SF:=⟨λv _=>v=c,λh _=>h⟩
def Jzj(o:Oper)(k:Nat): Bool:=o.after.any λe=>Region.binds .any e && e.on == k
def accB(l:List Oper): Bool:=(List.range l.length).all λi=>match nth l i with
 | some o=>o.after.all λe=>!Region.binds .any e || Nat.blt e.on i
 | none=>true
def slM(vs:Nat->Value)(al:AL): List Nat->Nat->AL
 | [],_=>al
 | d::r,i=>(d,vs i)::slM vs al r (i+1)
theorem Jjv{vs:Nat->Value}{al:AL}{t:Nat}: ∀ {ds:List Nat} {i:Nat},t ∉ ds->lk (slM vs al ds i) t=lk al t
 | [],_,_=>rfl
 | d::r,i,h=>by
  unfold slM;rw[Un _ _ (λe=>h (by grind))];exact Jjv λh'=>h (List.mem_cons_of_mem _ h')
theorem Kv{vs:Nat->Value}{al:AL}: ∀ {ds:List Nat} {i j:Nat},ds.Nodup->j<ds.length->lk (slM vs al ds i) (ds.getD j 0)=some (vs (i+j))
 | [],_,_,_,h=>by simp at h
 | d::r,i,0,_,_=>by unfold slM;simp[Jjw]
 | d::r,i,j+1,hn,hj=>by
  have hn':=List.nodup_cons.1 hn;have hj':j<r.length:=by simpa using hj
  unfold slM;have e:(d::r).getD (j+1) 0=r.getD j 0:=by simp
  rw[e];have hm:r.getD j 0∈r:=by grind
  rw[Un _ _ (λe=>hn'.1 (by rw[e];exact hm)),Kv hn'.2 hj'];congr 2;omega
theorem Jwb(h:t∈ds): ∃ j,j<ds.length/\ds.getD j 0=t:=by
 obtain⟨j,i,e⟩:=List.getElem_of_mem h;exact⟨j,i,by grind⟩
section
variable {P:Program} {n:Nat} {al:AL} {w:World} {Q:Exit->Act->World->Prop} {ops:Array Oper}
def toM(G:Act->World->Prop): Exit->Act->World->Prop
 | .normal,a,w=>G a w
 | _,_,_=>False
theorem Jdc{o:Oper}{G:Act->World->Prop}(ho:ops[i]?=some o)(h:WL P n ops (toM G) [o] al w): ∀ a,Fr n al a->wpOp P ops (QF Q) i G a w:=λa y=>by
 have j:=h a y;unfold wpList at j;unfold wpOp;simp only[ho];have u:¬ LetsOut (toM G):=by rintro⟨a,w,h⟩;exact h
 split
 .rename_i hw;simp only[hw,if_true]at j;rcases j with j|⟨_,j⟩
  .left
   refine Oper.wp_mono (K:=wpList P ops (toM G) []) (λD w' B=>B) ?_;unfold Oper.wp at j ⊢;grind [Yo,toM]
  exact absurd j u
 rename_i hw;simp only[hw]at j;exact j
def PM(n:Nat)(al:AL)(w:World)(d:Nat)(F:SF)(a:Act)(w':World): Prop:=∃ v,Fr n ((d,v)::al) a/\Ext w w'/\F.p v w'
theorem Xs{F:SF}(hx:Ext w w')(h:F.p v w'): QX n (toM (PM n al w d F)) .normal ((d,v)::al) w':=λa i=>⟨v,i,hx,h⟩
def fiM(Fs:List SF)(k:Nat)(v:Value)(w:World): Prop:=(Fs.getD k ⟨λ_ _=>True,λ_ _=>trivial⟩).p v w
theorem fiM.ext{Fs:List SF}{w:World}(h:fiM Fs k v w)(hx:Ext w w'): fiM Fs k v w':=SF.st _ h hx
def OpM(P:Program)(n:Nat)(ops:Array Oper)(al:AL)(w0:World)(ds:List Nat)(Fs:List SF)(i:Nat)(o:Oper): Prop :=
 ∀ vs w1,Ext w0 w1->(∀ k,Jzj o k=true->fiM Fs k (vs k) w1)->WL P n ops (toM (PM n (slM vs al ds 0) w1 (ds.getD i 0) (Fs.getD i ⟨λ_ _=>True,λ_ _=>trivial⟩))) [o] (slM vs al ds 0) w1
def GoM(P:Program)(n:Nat)(ops:Array Oper)(al:AL)(w0:World)(ds:List Nat)(Fs:List SF): Nat->Nat->List Oper->Prop
 | 0,_,_=>True
 | _+1,_,[]=>True
 | m+1,i,o::r=>OpM P n ops al w0 ds Fs i o/\GoM P n ops al w0 ds Fs m (i+1) r
theorem GoM.get{w0:World}{ds:List Nat}{Fs:List SF}: ∀ {l:List Oper} {m s i:Nat} {o:Oper},GoM P n ops al w0 ds Fs m s l->i<m->l[i]?=some o->OpM P n ops al w0 ds Fs (s+i) o
 | [],_,_,_,_,_,_,h=>by simp at h
 | x::r,0,_,_,_,_,h0,_=>by omega
 | x::r,m+1,s,0,o,h,_,e=>by
  simp only[List.getElem?_cons_zero,Option.some.injEq]at e;subst e;exact h.1
 | x::r,m+1,s,i+1,o,h,h0,e=>by
  have:=GoM.get h.2 (by omega:i<m) (by simpa using e);grind
def ndB: List Nat->Bool
 | []=>true
 | d::r=>!(r.any λx=>Nat.beq d x) && ndB r
theorem Jxr: ∀ {ds:List Nat},ndB ds=true->ds.Nodup
 | [],_=>List.nodup_nil
 | d::r,h=>by
  simp only[ndB,Bool.and_eq_true,Bool.not_eq_true']at h;refine List.nodup_cons.2 ⟨λhm=>?_,Jxr h.2⟩;have:=List.any_eq_false.1 h.1 d hm;simp at this
def behB(ops:Array Oper)(F m q:Nat): Bool:=(List.range ops.size).all λi=>Nat.blt i m || (List.range m).all λj=>Nat.beq j q || Yl ops F i j
theorem Qqg(m k i:Nat): (lst m k)[i]?=if i<m then some (Nat.blt i k) else none:=by grind [lst]
theorem Qys{m q F fuel':Nat}{Fs:List SF}(hml:m<=l.length)(hacc:accB l=true)(hbeh:behB l.toArray F m q=true)(hnd:ndB ds=true)(hlen:ds.length=m)(hfree:∀ d∈ds,lk al d=none)(hop:GoM P n l.toArray al w0 ds Fs m 0 l)(Vz:∀ vs w1,Ext w0 w1->(∀ k,k<m->fiM Fs k (vs k) w1)->WH P n l.toArray Q T fuel' (lst l.length m) (slM vs al ds 0) w1)(hend2:q<m->∀ vs w1,Ext w0 w1->(∀ k,k<m->k≠q->fiM Fs k (vs k) w1)->WH P n l.toArray Q T (fuel'+1) ((lst l.length m).setIfInBounds q false) (slM vs al ds 0) w1):
  ∀(us:List Nat) (listed:Array Bool) (a:Act) (w:World),us.Nodup->(∀ k,k<m->(listed.getD k true=false↔k∈us))->(∀ k,m<=k->k<l.length->listed.getD k true=false)->(∀ k∈us,k<m)->listed.size=l.length->Closed l.toArray listed->Fr n al a->Ext w0 w ->
   (∀ k,k<m->k ∉ us->fiM Fs k (a.tmps.getD (ds.getD k 0) undef) w)->Zp P l.toArray Q T (us.length+fuel') listed a w:=by
 have hN:=Jxr hnd;have G:∀ a:Act,Fr n al a->Fr n (slM (λj=>a.tmps.getD (ds.getD j 0) undef) al ds 0) a:=λa ha=>⟨ha.size,ha.defers,λt v h=>by
  by_cases hm:t∈ds
  .obtain⟨j,hj,e⟩:=Jwb hm;rw[<-e,Kv hN hj]at h;grind
  rw[Jjv hm]at h;exact ha.has t v h⟩
 intro us;generalize hL:us.length=L
 induction L generalizing us with
 | zero=>
  intro listed a w hu O a4 a1 aa U ha hx hf;have ad:us=[]:=List.length_eq_zero_iff.1 hL;subst ad;have e:listed=lst l.length m:=by
   refine Array.ext_getElem? λi=>?_;rw[Qqg];by_cases hi:i<l.length
   .rw[if_pos hi];have D:i<listed.size:=om
    by_cases a3:i<m
    .have J:=O i a3;have B:listed.getD i true=true:=by grind
     simp[D]at B;simp[D,B,Nat.blt];omega
    have B:=a4 i om hi;simp[D]at B;have h3:Nat.blt i m=false:=by
     cases hh:Nat.blt i m with
     | false=>rfl
     | true=>exact absurd (show i+1<=m by simpa [Nat.blt] using hh) om
    simp[D,B,h3]
   repeat grind
  rw[Nat.zero_add,e];rw[e]at U;exact Vz _ w hx (λk Z=>hf k Z (by simp)) U a (G a ha)
 | succ L ih=>
  intro listed a w hu O a4 a1 aa U ha hx hf;rw[show L+1+fuel'=(L+fuel')+1 by omega];have a7:us≠[]:=by grind
  by_cases hq:us=[q]
  .have ab:q<m:=a1 q (by rw[hq];simp);have ak:L=0:=by grind
   have e:listed=(lst l.length m).setIfInBounds q false:=by
    refine Array.ext_getElem? λi=>?_;by_cases hqi:q=i
    .subst hqi;have J:=(O q ab).2 (by rw[hq];simp);have B:q<listed.size:=om
     simp[B]at J;grind [lst]
    rw[Array.getElem?_setIfInBounds_ne hqi,Qqg];by_cases hi:i<l.length
    .rw[if_pos hi];have D:i<listed.size:=om
     by_cases a3:i<m
     .have J:=O i a3;have B:listed.getD i true=true:=by grind
      simp[D]at B;simp[D,B,Nat.blt];omega
     have B:=a4 i om hi;simp[D]at B;have h3:Nat.blt i m=false:=by
      cases hh:Nat.blt i m with
      | false=>rfl
      | true=>exact absurd (show i+1<=m by simpa [Nat.blt] using hh) om
     simp[D,B,h3]
    repeat grind
   rw[ak,e,show 0+fuel'+1=fuel'+1 by omega];rw[e]at U;exact hend2 ab _ w hx (λk Z av=>hf k Z (by grind)) U a (G a ha)
  obtain⟨k0,ah,ao⟩:∃ k,k∈us/\k≠q:=by
   refine Classical.byContradiction λau=>?_;have G:∀ k∈us,k=q:=by grind
   apply hq
   match us,hu,a7,G with
   | [x],_,_,h=>rw[h x (by simp)]
   | x::y::r,hu,_,h=>
    have J:=h x (by simp);have B:=h y (by simp);grind
  refine⟨λhr=>?_,λi hi=>?_⟩
  .exfalso
   obtain⟨k,Z,an⟩:∃ k,k∈us/\∀ j,j<k->j ∉ us:=by
    have:∀ s k,k∈us->k<s->∃ k,k∈us/\∀ j,j<k->j ∉ us:=by
     intro s;induction s with
     | zero=>intro k _ h;omega
     | succ s ihs=>
      grind
    grind
   have a8:=a1 k Z;have ag:=(O k a8).2 Z;have a9:k<l.length:=om
   have ar:k∈Region.ready .any l.toArray listed:=by
    refine mem_ready.2 ⟨ag,l[k],by simp[a9],λe he hb=>?_⟩;have J:=List.all_eq_true.1 hacc k (List.mem_range.2 a9);have hn:nth l k=some l[k]:=by rw[Xq];simp[a9]
    rw[hn]at J;simp only[Array.all_eq_true_iff_forall_mem,Bool.or_eq_true,Bool.not_eq_true']at J;have B:=(J e he).resolve_left (by rw[hb];simp);have h3:e.on<k:=by(have:e.on+1<=k:=by simpa [Nat.blt] using B);(omega)
    grind
   grind
  obtain⟨ae,o,ho,ap⟩:=mem_ready.1 hi;have ac:l[i]?=some o:=by simpa using ho
  have ai:i<l.length:=by grind
  have a5:i<m:=by
   rcases Nat.lt_or_ge i m with h|h
   .exact h
   exfalso
   have J:=List.all_eq_true.1 hbeh i (List.mem_range.2 (by simpa using ai));simp only[Bool.or_eq_true]at J;have B:=J.resolve_left (by
    intro hh;have:i+1<=m:=by simpa [Nat.blt] using hh
    omega)
   have am:=List.all_eq_true.1 B k0 (List.mem_range.2 (a1 k0 ah));simp only[Bool.or_eq_true]at am;grind [Nat.eq_of_beq_eq_true,Jjh,Jjg]
  have a3:=(O i a5).1 ae;have hO:=GoM.get hop a5 ac;rw[Nat.zero_add]at hO;have hW:=hO (λj=>a.tmps.getD (ds.getD j 0) undef) w hx λk Z=>by
   unfold Jzj at Z;grind
  have J:=Jdc (Q:=Q) (ops:=l.toArray) (by simpa using ac) hW a (G a ha);refine wpOp_mono (λa' w' h=>?_) J;obtain⟨v,a2,a6,hF⟩:=h;have aj:lk ((ds.getD i 0,v)::slM (λj=>a.tmps.getD (ds.getD j 0) undef) al ds 0) (ds.getD i 0)=some v:=Jjw _ _ _;have ax:ds.getD i 0∈ds:=by grind
  refine⟨λ_=>a6,ih (us.erase i) (by grind) _ a' w' (hu.erase i) (λk a8=>?_) (λk J B=>?_) (λk Z=>a1 k (hu.mem_erase_iff.1 Z).2) (by simp[aa]) (U.step hi) ?_ (hx.trans a6) λk Z aw=>?_⟩
  .by_cases e:i=k
   .subst e;have:i<listed.size:=om
    simp only[hu.mem_erase_iff];simp[this]
   rw[getD_set_ne true e,O k a8,hu.mem_erase_iff];grind
  .rw[getD_set_ne true om];exact a4 k J B
  .refine⟨a2.size,a2.defers,λt u aq=>?_⟩;have hm:t ∉ ds:=by grind
   exact a2.has t u (by grind [Un,Jjv])
  by_cases e:k=i
  .subst e;rw[a2.has _ _ aj];exact hF
  have af:k ∉ us:=by grind
  have a7:ds.getD i 0≠ds.getD k 0:=λh=>by
   have J:=Kv (vs:=λj=>Value.int .i64 (j:Int)) (al:=[]) (i:=0) hN (j:=i) om;have B:=Kv (vs:=λj=>Value.int .i64 (j:Int)) (al:=[]) (i:=0) hN (j:=k) om;grind
  have h3:=a2.has (ds.getD k 0) _ (by rw[Un _ _ a7];exact Kv hN om);simp only[Nat.zero_add]at h3;rw[h3];exact(hf k Z af).ext a6
theorem hmkq(m q F fuel':Nat)(ds:List Nat)(Fs:List SF)(hc:(accB l && behB l.toArray F m q && ndB ds && Nat.beq ds.length m && Nat.beq (m+fuel') l.length)=true)(hfree:(ds.all λd=>(lk al d).isNone)=true)(hop:GoM P n l.toArray al w ds Fs m 0 l)(Vz:∀ vs w1,Ext w w1->(∀ k,(hk:k<m:=by decide)->fiM Fs k (vs k) w1)->WH P n l.toArray Q T fuel' (lst l.length m) (slM vs al ds 0) w1)(hend2:q<m->∀ vs w1,Ext w w1->(∀ k,(hk:k<m:=by decide)->(hq:k≠q:=by decide)->fiM Fs k (vs k) w1)->WH P n l.toArray Q T (fuel'+1) ((lst l.length m).setIfInBounds q false) (slM vs al ds 0) w1): WH P n l.toArray Q T l.toArray.size (Array.replicate l.toArray.size false) al w:=λj a D=>by
 simp only[Bool.and_eq_true]at hc;obtain⟨⟨⟨⟨Z,U⟩,O⟩,J⟩,G⟩:=hc;have y:ds.length=m:=Nat.eq_of_beq_eq_true J;have u:m+fuel'=l.length:=Nat.eq_of_beq_eq_true G;have:=Qys (Q:=Q) (T:=T) (F:=F) (q:=q) (fuel':=fuel') om Z U O y (λd B=>by simpa using List.all_eq_true.1 hfree d B) hop Vz hend2 (List.range m) (Array.replicate l.length false) a w List.nodup_range (λk hk=>?_) (λk _ h=>by simp[h]) (λk hk=>List.mem_range.1 hk) (by simp) (by simpa using j) D (Ext.refl w) λk hk i=>absurd (List.mem_range.2 hk) i
 .grind
 have:k<l.length:=om
 simp[this,hk]
theorem hmk(m F fuel':Nat)(ds:List Nat)(Fs:List SF)(hc:(accB l && behB l.toArray F m m && ndB ds && Nat.beq ds.length m && Nat.beq (m+fuel') l.length)=true)(hfree:(ds.all λd=>(lk al d).isNone)=true)(hop:GoM P n l.toArray al w ds Fs m 0 l)(Vz:∀ vs w1,Ext w w1->(∀ k,(hk:k<m:=by decide)->fiM Fs k (vs k) w1)->WH P n l.toArray Q T fuel' (lst l.length m) (slM vs al ds 0) w1): WH P n l.toArray Q T l.toArray.size (Array.replicate l.toArray.size false) al w :=
 hmkq m m F fuel' ds Fs hc hfree hop Vz λh=>absurd h (Nat.lt_irrefl m)
end
end Go.Wk
namespace Go.Wk
open Go.RowKit
variable {ds r us:List Nat}{l:List Oper}{Fs:List SF}{fuel i j k:Nat}{w0:World}
section
variable {P:Program} {n:Nat} {al:AL} {w:World} {Q:Exit->Act->World->Prop} {ops:Array Oper}
def stgB(l:List Oper)(F:Nat)(st st':Array Bool)(us:List Nat): Bool :=
 Nat.beq st.size l.length && Nat.beq st'.size l.length && ndB us && (us.all λk=>Nat.blt k l.length && !(st.getD k true)) &&
 (us.all λi=>match nth l i with
  | some o=>o.after.all λe=>!Region.binds .any e || (Nat.blt e.on l.length && st.getD e.on true) || (us.any (λj=>Nat.beq j e.on) && Nat.blt e.on i)
  | none=>false) &&
 ((List.range l.length).all λi=>st.getD i true || us.any (λj=>Nat.beq j i) || us.all λj=>Yl l.toArray F i j) &&
 ((List.range l.length).all λi=>st'.getD i true == (st.getD i true || us.any λj=>Nat.beq j i))
def OpS(P:Program)(n:Nat)(ops:Array Oper)(al:AL)(w0:World)(us ds:List Nat)(Fs:List SF)(i:Nat)(o:Oper): Prop :=
 ∀ vs w1,Ext w0 w1->(∀ j,j<us.length->Jzj o (us.getD j 0)=true->fiM Fs j (vs j) w1)->WL P n ops (toM (PM n (slM vs al ds 0) w1 (ds.getD i 0) (Fs.getD i ⟨λ_ _=>True,λ_ _=>trivial⟩))) [o] (slM vs al ds 0) w1
def GoS(P:Program)(n:Nat)(l:List Oper)(al:AL)(w0:World)(us ds:List Nat)(Fs:List SF): Nat->List Nat->Prop
 | _,[]=>True
 | i,k::r=>(∀ o,nth l k=some o->OpS P n l.toArray al w0 us ds Fs i o)/\GoS P n l al w0 us ds Fs (i+1) r
theorem GoS.get{w0:World}{l:List Oper}{us ds:List Nat}{Fs:List SF}: ∀ {r:List Nat} {s i:Nat} {o:Oper},GoS P n l al w0 us ds Fs s r->i<r.length->nth l (r.getD i 0)=some o->OpS P n l.toArray al w0 us ds Fs (s+i) o
 | [],_,_,_,_,h,_=>by simp at h
 | x::r,s,0,o,h,_,e=>h.1 o e
 | x::r,s,i+1,o,h,h0,e=>by
  have:=GoS.get h.2 (by simpa using h0:i<r.length) (by simpa using e);rwa [show s+(i+1)=s+1+i by omega]
theorem gsc{o:Oper}(h:∀ vs w1,Ext w0 w1->(∀ j,(hj:j<us.length:=by decide)->(hk:Jzj o (us.getD j 0)=true:=by kernel_rfl)->fiM Fs j (vs j) w1)->WL P n l.toArray (toM (PM n (slM vs al ds 0) w1 (ds.getD i 0) (Fs.getD i ⟨λ_ _=>True,λ_ _=>trivial⟩))) [o] (slM vs al ds 0) w1)(h2:GoS P n l al w0 us ds Fs (i+1) r)(ho:nth l k=some o:=by rfl): GoS P n l al w0 us ds Fs i (k::r):=⟨λy u=>by rw[ho]at u;injection u with u;subst u;exact h,h2⟩
theorem gse: GoS P n l al w0 us ds Fs i []:=trivial
theorem Jkw(h:us.Nodup)(hi:i<us.length)(hj:j<us.length)(e:us.getD i 0=us.getD j 0): i=j:=by grind [List.getElem?_eq_getElem,List.pairwise_iff_getElem.1,Nat.lt_trichotomy]
theorem hmkS{T:Nat->Bool}(F fuel':Nat)(st st':Array Bool)(us ds:List Nat)(Fs:List SF)(hc:(stgB l F st st' us && ndB ds && Nat.beq ds.length us.length && Nat.beq (us.length+fuel') fuel)=true)(hfree:(ds.all λd=>(lk al d).isNone)=true)(hop:GoS P n l al w us ds Fs 0 us)(Vz:∀ vs w1,Ext w w1->(∀ j,(hj:j<us.length:=by decide)->fiM Fs j (vs j) w1)->WH P n l.toArray Q T fuel' st' (slM vs al ds 0) w1): WH P n l.toArray Q T fuel st al w:=λa1 a ha=>by
 simp only[Bool.and_eq_true]at hc;obtain⟨⟨⟨h0,h4⟩,h5⟩,h6⟩:=hc;unfold stgB at h0;simp only[Bool.and_eq_true]at h0;obtain⟨⟨⟨⟨⟨⟨c1,c2⟩,c3⟩,c4⟩,c5⟩,c6⟩,c7⟩:=h0;have an:st.size=l.length:=Nat.eq_of_beq_eq_true c1;have az:st'.size=l.length:=Nat.eq_of_beq_eq_true c2;have hU:=Jxr c3;have hN:=Jxr h4;have hl:ds.length=us.length:=Nat.eq_of_beq_eq_true h5;have aw:us.length+fuel'=fuel:=Nat.eq_of_beq_eq_true h6;have ax:∀ d∈ds,lk al d=none:=λd hd=>by simpa using List.all_eq_true.1 hfree d hd
 have Z:∀ j,j<us.length->us.getD j 0<l.length/\st.getD (us.getD j 0) true=false:=λj hj=>by
  have O:us.getD j 0∈us:=by rw[List.getD_eq_getElem?_getD,List.getElem?_eq_getElem hj];exact List.getElem_mem _
  have:=List.all_eq_true.1 c4 _ O;simp only[Bool.and_eq_true,Bool.not_eq_true']at this;exact⟨by(have h:us.getD j 0+1<=l.length:=by simpa [Nat.blt] using this.1);omega,this.2⟩
 have a4:∀ k,(us.any λj=>Nat.beq j k)=true->∃ j,j<us.length/\us.getD j 0=k:=λk hk=>by
  rw[List.any_eq_true]at hk;obtain⟨u,hu,e⟩:=hk;have e:=Nat.eq_of_beq_eq_true e;subst e;exact Jwb hu
 have a6:∀ a:Act,Fr n al a->Fr n (slM (λj=>a.tmps.getD (ds.getD j 0) undef) al ds 0) a:=λa ha=>⟨ha.size,ha.defers,λt v h=>by
  by_cases O:t∈ds
  .obtain⟨j,hj,e⟩:=Jwb O;rw[<-e,Kv hN hj]at h;simp only[Nat.zero_add,Option.some.injEq]at h;rw[<-e];exact h
  rw[Jjv O]at h;exact ha.has t v h⟩
 suffices key:∀(L:Nat) (ps:List Nat) (y:Array Bool) (a:Act) (w1:World),ps.length=L->ps.Nodup->(∀ j∈ps,j<us.length)->(∀ j,j<us.length->(y.getD (us.getD j 0) true=false↔j∈ps))->(∀ k,k<l.length->(∀ j,j<us.length->us.getD j 0≠k)->y.getD k true=st.getD k true)->y.size=l.length->Closed l.toArray y->Fr n al a->Ext w w1 ->
   (∀ j,j<us.length->j ∉ ps->fiM Fs j (a.tmps.getD (ds.getD j 0) undef) w1)->Zp P l.toArray Q T (L+fuel') y a w1 by
  have:=key us.length (List.range us.length) st a w List.length_range List.nodup_range (λj hj=>List.mem_range.1 hj) (λj hj=>⟨λ_=>List.mem_range.2 hj,λ_=>(Z j hj).2⟩) (λk _ _=>rfl) an a1 ha (Ext.refl w) λj hj h=>absurd (List.mem_range.2 hj) h;rwa [aw]at this
 intro L;induction L with
 | zero=>
  intro ps y a w1 hL hu a2 G a5 ac a1 ha hx hf;have ag:ps=[]:=List.length_eq_zero_iff.1 hL;subst ag;have e:y=st':=by
   refine Array.ext_getElem? λi=>?_;by_cases hi:i<l.length
   .have h7:=List.all_eq_true.1 c7 i (List.mem_range.2 hi);rw[beq_iff_eq]at h7;have h8:y.getD i true=st'.getD i true:=by
     rw[h7];by_cases O:∃ j,j<us.length/\us.getD j 0=i
     .obtain⟨j,hj,e⟩:=O;have B:=G j hj;rw[e]at B;have D:y.getD i true=true:=by
       cases hh:y.getD i true with
       | true=>rfl
       | false=>exact absurd (B.1 hh) (by simp)
      rw[D];symm
      rw[Bool.or_eq_true];right
      rw[List.any_eq_true];refine⟨us.getD j 0,?_,by rw[e];simp⟩;rw[List.getD_eq_getElem?_getD,List.getElem?_eq_getElem hj];exact List.getElem_mem _
     have B:∀ j,j<us.length->us.getD j 0≠i:=λj hj e=>O ⟨j,hj,e⟩;rw[a5 i hi B];have D:(us.any λj=>Nat.beq j i)=false:=by
      cases hh:us.any λj=>Nat.beq j i with
      | false=>rfl
      | true=>exact absurd (a4 i hh) O
     rw[D,Bool.or_false]
    have h9:i<y.size:=om
    have am:i<st'.size:=om
    simp[h9,am]at h8;simp[h9,am,h8]
   rw[Array.getElem?_eq_none om,Array.getElem?_eq_none om]
  rw[Nat.zero_add,e];rw[e]at a1;exact Vz _ w1 hx (λj hj=>hf j hj (by simp)) a1 a (a6 a ha)
 | succ L ih=>
  intro ps y a w1 hL hu a2 G a5 ac a1 ha hx hf;rw[show L+1+fuel'=(L+fuel')+1 by omega];have ab:ps≠[]:=λe=>by rw[e]at hL;cases hL
  obtain⟨p0,a3⟩:∃ p,p∈ps:=by
   cases ps with
   | nil=>exact absurd rfl ab
   | cons p r=>exact⟨p,List.mem_cons_self⟩
  refine⟨λhr=>?_,λi hi=>?_⟩
  .exfalso
   obtain⟨p,hp,ah⟩:∃ p,p∈ps/\∀ q∈ps,us.getD p 0<=us.getD q 0:=by
    have:∀ s p,p∈ps->us.getD p 0<s->∃ p,p∈ps/\∀ q∈ps,us.getD p 0<=us.getD q 0:=by
     intro s;induction s with
     | zero=>intro p _ h;omega
     | succ s ihs=>
      intro p hp ae;by_cases h:∃ q,q∈ps/\us.getD q 0<us.getD p 0
      .obtain⟨q,hq,b1⟩:=h;exact ihs q hq om
      exact⟨p,hp,λq hq=>by
       rcases Nat.lt_or_ge (us.getD q 0) (us.getD p 0) with h'|h'
       .exact absurd ⟨q,hq,h'⟩ h
       exact h'⟩
    exact this (us.getD p0 0+1) p0 a3 om
   have J:=a2 p hp;obtain⟨b2,_⟩:=Z p J;have aq:=(G p J).2 hp;have ad:us.getD p 0∈Region.ready .any l.toArray y:=by
    refine mem_ready.2 ⟨aq,l[us.getD p 0],by simp,λe he hb=>?_⟩;have O:us.getD p 0∈us:=by rw[List.getD_eq_getElem?_getD,List.getElem?_eq_getElem J];exact List.getElem_mem _
    have B:=List.all_eq_true.1 c5 _ O;have hn:nth l (us.getD p 0)=some l[us.getD p 0]:=by rw[Xq];simp
    rw[hn]at B;simp only[Array.all_eq_true_iff_forall_mem,Bool.or_eq_true,Bool.not_eq_true',Bool.and_eq_true]at B;have D:=B e he;rw[hb]at D;have h5:y.getD e.on true=true/\e.on<y.size:=by
     rcases D with(D|⟨h3,D⟩)|⟨D,h3⟩
     .cases D
     .have ak:e.on<l.length:=by(have:e.on+1<=l.length:=by simpa [Nat.blt] using h3);omega
      refine⟨?_,om⟩;by_cases hm2:∃ j,j<us.length/\us.getD j 0=e.on
      .obtain⟨j,hj,e2⟩:=hm2;have:=(Z j hj).2;rw[e2,D]at this;cases this
      rw[a5 _ ak λj hj e2=>hm2 ⟨j,hj,e2⟩];exact D
     obtain⟨j,hj,e2⟩:=a4 _ D;have ak:e.on<us.getD p 0:=by(have:e.on+1<=us.getD p 0:=by simpa [Nat.blt] using h3);(omega)
     refine⟨?_,om⟩;cases hh:y.getD e.on true with
     | true=>rfl
     | false=>
      rw[<-e2]at hh;have h6:=(G j hj).1 hh;have:=ah j h6;omega
    have h6:=h5.2;have h7:=h5.1;simp[h6]at h7 ⊢;exact h7
   rw[hr]at ad;cases ad
  obtain⟨a8,o,ho,aj⟩:=mem_ready.1 hi;have aa:l[i]?=some o:=by simpa using ho
  have ai:i<l.length:=(List.getElem?_eq_some_iff.1 aa).1;obtain⟨p,J,ao⟩:∃ j,j<us.length/\us.getD j 0=i:=by
   refine Classical.byContradiction λaf=>?_;have B:=List.all_eq_true.1 c6 i (List.mem_range.2 ai);simp only[Bool.or_eq_true]at B;have D:=a5 i ai λj hj e=>af ⟨j,hj,e⟩;rcases B with(B|B)|B
   .rw[B]at D;rw[D]at a8;cases a8
   .exact af (a4 i B)
   have O:us.getD p0 0∈us:=by rw[List.getD_eq_getElem?_getD,List.getElem?_eq_getElem (a2 p0 a3)];exact List.getElem_mem _
   have h3:=List.all_eq_true.1 B _ O;have h4:=Jjh a1 F i (us.getD p0 0) o ho (Jjg ho hi) h3;have h5:=(G p0 (a2 p0 a3)).2 a3;have h6:us.getD p0 0<y.size:=by have:=(Z p0 (a2 p0 a3)).1;omega
   generalize us.getD p0 0=k0 at h4 h5 h6
   simp[h6]at h4 h5;rw[h4]at h5;cases h5
  subst ao;have ae:=(G p J).1 a8;have hO:=GoS.get hop J (by rw[Xq];exact aa);rw[Nat.zero_add]at hO;have hW:=hO (λj=>a.tmps.getD (ds.getD j 0) undef) w1 hx λj hj hk=>by
   unfold Jzj at hk;rw[Array.any_eq_true']at hk;obtain⟨e,he,B⟩:=hk;simp only[Bool.and_eq_true,beq_iff_eq]at B;have D:=aj e he B.1;rw[B.2]at D;have h3:us.getD j 0<y.size:=by have:=(Z j hj).1;omega
   refine hf j hj λar=>?_;have h4:=(G j hj).2 ar;generalize us.getD j 0=k0 at D h3 h4
   simp[h3]at D h4;rw[D]at h4;cases h4
  have B:=Jdc (Q:=Q) (ops:=l.toArray) (by simpa using aa) hW a (a6 a ha);refine wpOp_mono (λa' w' h=>?_) B;obtain⟨v,U,a7,hF⟩:=h;have ay:lk ((ds.getD p 0,v)::slM (λj=>a.tmps.getD (ds.getD j 0) undef) al ds 0) (ds.getD p 0)=some v:=Jjw _ _ _;have av:ds.getD p 0∈ds:=by rw[List.getD_eq_getElem?_getD,List.getElem?_eq_getElem om];exact List.getElem_mem _
  refine⟨λ_=>a7,ih (ps.erase p) _ a' w' (by rw[List.length_erase_of_mem ae,hL];omega) (hu.erase p) (λj hj=>a2 j (hu.mem_erase_iff.1 hj).2) (λj hj=>?_) (λk B D=>?_) (by simp[ac]) (a1.step hi) ?_ (hx.trans a7) λj hj au=>?_⟩
  .by_cases e:p=j
   .subst e;have:us.getD p 0<y.size:=om
    simp only[hu.mem_erase_iff];simp
   rw[getD_set_ne true (λe2=>e (Jkw hU J hj e2)),G j hj,hu.mem_erase_iff];exact⟨λh=>⟨λh'=>e h'.symm,h⟩,λh=>h.2⟩
  .rw[getD_set_ne true (D p J)];exact a5 k B D
  .refine⟨U.size,U.defers,λt u a9=>?_⟩;have O:t ∉ ds:=λO=>by rw[ax t O]at a9;cases a9
   exact U.has t u (by rw[Un _ _ (λe=>O (by rw[<-e];exact av)),Jjv O];exact a9)
  by_cases e:j=p
  .subst e;rw[U.has _ _ ay];exact hF
  have ap:j ∉ ps:=λh=>au (hu.mem_erase_iff.2 ⟨e,h⟩);have ab:ds.getD p 0≠ds.getD j 0:=λh=>e (Jkw hN om om h.symm);have h3:=U.has (ds.getD j 0) _ (by rw[Un _ _ ab];exact Kv hN om);simp only[Nat.zero_add]at h3;rw[h3];exact(hf j hj ap).ext a7
end
end Go.Wk
namespace Go.Wk
open Go.RowKit
section
variable {P:Program} {n:Nat} {al:AL} {w:World} {Q:Exit->Act->World->Prop} {ops:Array Oper}
def stgQ(l:List Oper)(F q:Nat)(st st':Array Bool)(us:List Nat): Bool :=
 Nat.beq st.size l.length && Nat.beq st'.size l.length && ndB us && (us.all λk=>Nat.blt k l.length && !(st.getD k true)) &&
 (us.all λi=>match nth l i with
  | some o=>o.after.all λe=>!Region.binds .any e || (Nat.blt e.on l.length && st.getD e.on true) || (us.any (λj=>Nat.beq j e.on) && Nat.blt e.on i)
  | none=>false) &&
 ((List.range l.length).all λi=>st.getD i true || us.any (λj=>Nat.beq j i) || us.all λj=>Nat.beq j q || Yl l.toArray F i j) &&
 ((List.range l.length).all λi=>st'.getD i true == (st.getD i true || us.any λj=>Nat.beq j i))
theorem Qxj{T:Nat->Bool}{l:List Oper}(F q fuel':Nat)(st st':Array Bool)(us ds:List Nat)(Fs:List SF){fuel:Nat}(hc:(stgQ l F q st st' us && ndB ds && Nat.beq ds.length us.length && Nat.beq (us.length+fuel') fuel)=true)(hfree:(ds.all λd=>(lk al d).isNone)=true)(hop:GoS P n l al w us ds Fs 0 us)(Vz:∀ vs w1,Ext w w1->(∀ j,(hj:j<us.length:=by decide)->fiM Fs j (vs j) w1)->WH P n l.toArray Q T fuel' st' (slM vs al ds 0) w1)(hend2:q<l.length->∀ vs w1,Ext w w1->(∀ j,(hj:j<us.length:=by decide)->(hq:us.getD j 0≠q:=by decide)->fiM Fs j (vs j) w1)->WH P n l.toArray Q T (fuel'+1) (st'.setIfInBounds q false) (slM vs al ds 0) w1): WH P n l.toArray Q T fuel st al w:=λa1 a ha=>by
 simp only[Bool.and_eq_true]at hc;obtain⟨⟨⟨h0,h4⟩,h5⟩,h6⟩:=hc;unfold stgQ at h0;simp only[Bool.and_eq_true]at h0;obtain⟨⟨⟨⟨⟨⟨c1,c2⟩,c3⟩,c4⟩,c5⟩,c6⟩,c7⟩:=h0;have ar:st.size=l.length:=Nat.eq_of_beq_eq_true c1;have b6:st'.size=l.length:=Nat.eq_of_beq_eq_true c2;have hU:=Jxr c3;have hN:=Jxr h4;have hl:ds.length=us.length:=Nat.eq_of_beq_eq_true h5;have b2:us.length+fuel'=fuel:=Nat.eq_of_beq_eq_true h6;have b3:∀ d∈ds,lk al d=none:=λd hd=>by simpa using List.all_eq_true.1 hfree d hd
 have U:∀ j,j<us.length->us.getD j 0<l.length/\st.getD (us.getD j 0) true=false:=λj hj=>by
  have O:us.getD j 0∈us:=by rw[List.getD_eq_getElem?_getD,List.getElem?_eq_getElem hj];exact List.getElem_mem _
  have:=List.all_eq_true.1 c4 _ O;simp only[Bool.and_eq_true,Bool.not_eq_true']at this;exact⟨by(have h:us.getD j 0+1<=l.length:=by simpa [Nat.blt] using this.1);omega,this.2⟩
 have a5:∀ k,(us.any λj=>Nat.beq j k)=true->∃ j,j<us.length/\us.getD j 0=k:=λk hk=>by
  rw[List.any_eq_true]at hk;obtain⟨u,hu,e⟩:=hk;have e:=Nat.eq_of_beq_eq_true e;subst e;exact Jwb hu
 have a8:∀ a:Act,Fr n al a->Fr n (slM (λj=>a.tmps.getD (ds.getD j 0) undef) al ds 0) a:=λa ha=>⟨ha.size,ha.defers,λt v h=>by
  by_cases O:t∈ds
  .obtain⟨j,hj,e⟩:=Jwb O;rw[<-e,Kv hN hj]at h;simp only[Nat.zero_add,Option.some.injEq]at h;rw[<-e];exact h
  rw[Jjv O]at h;exact ha.has t v h⟩
 suffices key:∀(L:Nat) (ps:List Nat) (B:Array Bool) (a:Act) (w1:World),ps.length=L->ps.Nodup->(∀ j∈ps,j<us.length)->(∀ j,j<us.length->(B.getD (us.getD j 0) true=false↔j∈ps))->(∀ k,k<l.length->(∀ j,j<us.length->us.getD j 0≠k)->B.getD k true=st.getD k true)->B.size=l.length->Closed l.toArray B->Fr n al a->Ext w w1 ->
   (∀ j,j<us.length->j ∉ ps->fiM Fs j (a.tmps.getD (ds.getD j 0) undef) w1)->Zp P l.toArray Q T (L+fuel') B a w1 by
  have:=key us.length (List.range us.length) st a w List.length_range List.nodup_range (λj hj=>List.mem_range.1 hj) (λj hj=>⟨λ_=>List.mem_range.2 hj,λ_=>(U j hj).2⟩) (λk _ _=>rfl) ar a1 ha (Ext.refl w) λj hj h=>absurd (List.mem_range.2 hj) h;rwa [b2]at this
 intro L;induction L with
 | zero=>
  intro ps B a w1 hL hu Z J a6 ae a1 ha hx hf;have am:ps=[]:=List.length_eq_zero_iff.1 hL;subst am;have e:B=st':=by
   refine Array.ext_getElem? λi=>?_;by_cases hi:i<l.length
   .have h7:=List.all_eq_true.1 c7 i (List.mem_range.2 hi);rw[beq_iff_eq]at h7;have h8:B.getD i true=st'.getD i true:=by
     rw[h7];by_cases O:∃ j,j<us.length/\us.getD j 0=i
     .obtain⟨j,hj,e⟩:=O;have D:=J j hj;rw[e]at D;have G:B.getD i true=true:=by
       cases hh:B.getD i true with
       | true=>rfl
       | false=>exact absurd (D.1 hh) (by simp)
      rw[G];symm
      rw[Bool.or_eq_true];right
      rw[List.any_eq_true];refine⟨us.getD j 0,?_,by rw[e];simp⟩;rw[List.getD_eq_getElem?_getD,List.getElem?_eq_getElem hj];exact List.getElem_mem _
     have D:∀ j,j<us.length->us.getD j 0≠i:=λj hj e=>O ⟨j,hj,e⟩;rw[a6 i hi D];have G:(us.any λj=>Nat.beq j i)=false:=by
      cases hh:us.any λj=>Nat.beq j i with
      | false=>rfl
      | true=>exact absurd (a5 i hh) O
     rw[G,Bool.or_false]
    have h9:i<B.size:=om
    have a4:i<st'.size:=om
    simp[h9,a4]at h8;simp[h9,a4,h8]
   rw[Array.getElem?_eq_none om,Array.getElem?_eq_none om]
  rw[Nat.zero_add,e];rw[e]at a1;exact Vz _ w1 hx (λj hj=>hf j hj (by simp)) a1 a (a8 a ha)
 | succ L ih=>
  intro ps B a w1 hL hu Z J a6 ae a1 ha hx hf;by_cases hq0:∀ p∈ps,us.getD p 0=q
  .have b5:L=0:=by
    rcases Nat.eq_zero_or_pos L with h|h
    .exact h
    exfalso
    obtain⟨x,y,r,rfl⟩:∃ x y r,ps=x::y::r:=by
     match ps,hL with
     | [],h'=>simp at h'
     | [x],h'=>simp at h';omega
     | x::y::r,_=>exact⟨x,y,r,rfl⟩
    have D:=hq0 x (by simp);have G:=hq0 y (by simp);have h3:=Jkw hU (Z x (by simp)) (Z y (by simp)) (by rw[D,G]);have:=(List.nodup_cons.1 hu).1;rw[h3]at this;exact this (by simp)
   subst b5;obtain⟨p,rfl⟩:∃ p,ps=[p]:=List.length_eq_one_iff.1 om;have a9:=hq0 p (by simp);have aj:=Z p (by simp);have ag:=(U p aj).1;rw[a9]at ag;have e:B=st'.setIfInBounds q false:=by
    refine Array.ext_getElem? λi=>?_;by_cases hi:i<l.length
    .have h7:=List.all_eq_true.1 c7 i (List.mem_range.2 hi);rw[beq_iff_eq]at h7;have h8:B.getD i true=(st'.setIfInBounds q false).getD i true:=by
      by_cases hiq:i=q
      .have D:=(J p aj).2 (by simp);rw[a9]at D;rw[hiq,D];have:q<st'.size:=om
       simp[this]
      have a4:(st'.setIfInBounds q false).getD i true=st'.getD i true:=by
       have h9:i<st'.size:=om
       simp[h9,Ne.symm hiq]
      rw[a4,h7];by_cases O:∃ j,j<us.length/\us.getD j 0=i
      .obtain⟨j,hj,e⟩:=O;have D:=J j hj;rw[e]at D;have G:B.getD i true=true:=by
        cases hh:B.getD i true with
        | true=>rfl
        | false=>
         have:=List.mem_singleton.1 (D.1 hh);rw[this,a9]at e;exact absurd e.symm hiq
       rw[G];symm
       rw[Bool.or_eq_true];right
       rw[List.any_eq_true];refine⟨us.getD j 0,?_,by rw[e];simp⟩;rw[List.getD_eq_getElem?_getD,List.getElem?_eq_getElem hj];exact List.getElem_mem _
      have D:∀ j,j<us.length->us.getD j 0≠i:=λj hj e=>O ⟨j,hj,e⟩;rw[a6 i hi D];have G:(us.any λj=>Nat.beq j i)=false:=by
       cases hh:us.any λj=>Nat.beq j i with
       | false=>rfl
       | true=>exact absurd (a5 i hh) O
      rw[G,Bool.or_false]
     have h9:i<B.size:=om
     have a4:i<(st'.setIfInBounds q false).size:=by rw[Array.size_setIfInBounds];omega
     rw[Array.getElem?_eq_getElem h9,Array.getElem?_eq_getElem a4];rw[Array.getD,Array.getD,dif_pos h9,dif_pos a4]at h8;exact congrArg some h8
    rw[Array.getElem?_eq_none om,Array.getElem?_eq_none (by rw[Array.size_setIfInBounds];omega)]
   rw[show 0+1+fuel'=fuel'+1 by omega,e];rw[e]at a1;exact hend2 ag _ w1 hx (λj hj hq=>hf j hj (λh=>hq (by rw[List.mem_singleton.1 h];exact a9))) a1 a (a8 a ha)
  obtain⟨p0,a7,ai⟩:∃ p,p∈ps/\us.getD p 0≠q:=by
   refine Classical.byContradiction λh=>hq0 λp hp=>Classical.byContradiction λG=>h ⟨p,hp,G⟩
  rw[show L+1+fuel'=(L+fuel')+1 by omega];refine⟨λhr=>?_,λi hi=>?_⟩
  .exfalso
   obtain⟨p,hp,an⟩:∃ p,p∈ps/\∀ q∈ps,us.getD p 0<=us.getD q 0:=by
    have:∀ s p,p∈ps->us.getD p 0<s->∃ p,p∈ps/\∀ q∈ps,us.getD p 0<=us.getD q 0:=by
     intro s;induction s with
     | zero=>intro p _ h;omega
     | succ s ihs=>
      intro p hp ah;by_cases h:∃ q,q∈ps/\us.getD q 0<us.getD p 0
      .obtain⟨q,hq,b7⟩:=h;exact ihs q hq om
      exact⟨p,hp,λq hq=>by
       rcases Nat.lt_or_ge (us.getD q 0) (us.getD p 0) with h'|h'
       .exact absurd ⟨q,hq,h'⟩ h
       exact h'⟩
    exact this (us.getD p0 0+1) p0 a7 om
   have a2:=Z p hp;obtain⟨b8,_⟩:=U p a2;have ax:=(J p a2).2 hp;have af:us.getD p 0∈Region.ready .any l.toArray B:=by
    refine mem_ready.2 ⟨ax,l[us.getD p 0],by simp,λe he hb=>?_⟩;have O:us.getD p 0∈us:=by rw[List.getD_eq_getElem?_getD,List.getElem?_eq_getElem a2];exact List.getElem_mem _
    have D:=List.all_eq_true.1 c5 _ O;have hn:nth l (us.getD p 0)=some l[us.getD p 0]:=by rw[Xq];simp
    rw[hn]at D;simp only[Array.all_eq_true_iff_forall_mem,Bool.or_eq_true,Bool.not_eq_true',Bool.and_eq_true]at D;have G:=D e he;rw[hb]at G;have h5:B.getD e.on true=true/\e.on<B.size:=by
     rcases G with(G|⟨h3,G⟩)|⟨G,h3⟩
     .cases G
     .have aq:e.on<l.length:=by(have:e.on+1<=l.length:=by simpa [Nat.blt] using h3);omega
      refine⟨?_,om⟩;by_cases hm2:∃ j,j<us.length/\us.getD j 0=e.on
      .obtain⟨j,hj,e2⟩:=hm2;have:=(U j hj).2;rw[e2,G]at this;cases this
      rw[a6 _ aq λj hj e2=>hm2 ⟨j,hj,e2⟩];exact G
     obtain⟨j,hj,e2⟩:=a5 _ G;have aq:e.on<us.getD p 0:=by(have:e.on+1<=us.getD p 0:=by simpa [Nat.blt] using h3);(omega)
     refine⟨?_,om⟩;cases hh:B.getD e.on true with
     | true=>rfl
     | false=>
      rw[<-e2]at hh;have h6:=(J j hj).1 hh;have:=an j h6;omega
    have h6:=h5.2;have h7:=h5.1;simp[h6]at h7 ⊢;exact h7
   rw[hr]at af;cases af
  obtain⟨ab,o,ho,ap⟩:=mem_ready.1 hi;have ad:l[i]?=some o:=by simpa using ho
  have ao:i<l.length:=(List.getElem?_eq_some_iff.1 ad).1;obtain⟨p,a2,au⟩:∃ j,j<us.length/\us.getD j 0=i:=by
   refine Classical.byContradiction λak=>?_;have D:=List.all_eq_true.1 c6 i (List.mem_range.2 ao);simp only[Bool.or_eq_true]at D;have G:=a6 i ao λj hj e=>ak ⟨j,hj,e⟩;rcases D with(D|D)|D
   .rw[D]at G;rw[G]at ab;cases ab
   .exact ak (a5 i D)
   have O:us.getD p0 0∈us:=by rw[List.getD_eq_getElem?_getD,List.getElem?_eq_getElem (Z p0 a7)];exact List.getElem_mem _
   have h3:=List.all_eq_true.1 D _ O;rw[Bool.or_eq_true]at h3;have h3:=h3.resolve_left λh=>ai (Nat.eq_of_beq_eq_true h);have h4:=Jjh a1 F i (us.getD p0 0) o ho (Jjg ho hi) h3;have h5:=(J p0 (Z p0 a7)).2 a7;have h6:us.getD p0 0<B.size:=by have:=(U p0 (Z p0 a7)).1;omega
   generalize us.getD p0 0=k0 at h4 h5 h6
   simp[h6]at h4 h5;rw[h4]at h5;cases h5
  subst au;have ah:=(J p a2).1 ab;have hO:=GoS.get hop a2 (by rw[Xq];exact ad);rw[Nat.zero_add]at hO;have hW:=hO (λj=>a.tmps.getD (ds.getD j 0) undef) w1 hx λj hj hk=>by
   unfold Jzj at hk;rw[Array.any_eq_true']at hk;obtain⟨e,he,D⟩:=hk;simp only[Bool.and_eq_true,beq_iff_eq]at D;have G:=ap e he D.1;rw[D.2]at G;have h3:us.getD j 0<B.size:=by have:=(U j hj).1;omega
   refine hf j hj λay=>?_;have h4:=(J j hj).2 ay;generalize us.getD j 0=k0 at G h3 h4
   simp[h3]at G h4;rw[G]at h4;cases h4
  have D:=Jdc (Q:=Q) (ops:=l.toArray) (by simpa using ad) hW a (a8 a ha);refine wpOp_mono (λa' w' h=>?_) D;obtain⟨v,a3,aa,hF⟩:=h;have b4:lk ((ds.getD p 0,v)::slM (λj=>a.tmps.getD (ds.getD j 0) undef) al ds 0) (ds.getD p 0)=some v:=Jjw _ _ _;have b1:ds.getD p 0∈ds:=by rw[List.getD_eq_getElem?_getD,List.getElem?_eq_getElem om];exact List.getElem_mem _
  refine⟨λ_=>aa,ih (ps.erase p) _ a' w' (by rw[List.length_erase_of_mem ah,hL];omega) (hu.erase p) (λj hj=>Z j (hu.mem_erase_iff.1 hj).2) (λj hj=>?_) (λk D G=>?_) (by simp[ae]) (a1.step hi) ?_ (hx.trans aa) λj hj az=>?_⟩
  .by_cases e:p=j
   .subst e;have:us.getD p 0<B.size:=om
    simp only[hu.mem_erase_iff];simp
   rw[getD_set_ne true (λe2=>e (Jkw hU a2 hj e2)),J j hj,hu.mem_erase_iff];exact⟨λh=>⟨λh'=>e h'.symm,h⟩,λh=>h.2⟩
  .rw[getD_set_ne true (G p a2)];exact a6 k D G
  .refine⟨a3.size,a3.defers,λt u ac=>?_⟩;have O:t ∉ ds:=λO=>by rw[b3 t O]at ac;cases ac
   exact a3.has t u (by rw[Un _ _ (λe=>O (by rw[<-e];exact b1)),Jjv O];exact ac)
  by_cases e:j=p
  .subst e;rw[a3.has _ _ b4];exact hF
  have aw:j ∉ ps:=λh=>az (hu.mem_erase_iff.2 ⟨e,h⟩);have av:ds.getD p 0≠ds.getD j 0:=λh=>e (Jkw hN om om h.symm);have h3:=a3.has (ds.getD j 0) _ (by rw[Un _ _ av];exact Kv hN om);simp only[Nat.zero_add]at h3;rw[h3];exact(hf j hj aw).ext aa
end
end Go.Wk
namespace Go.Proofs.YtebiphhfkdbpfaaGreatDoor
structure PR where
 neg: Bool
 num:Nat
 den:Nat
deriving DecidableEq
def PR.norm(a:PR): PR:=if a.num=0∨a.den=0 then⟨a.neg && a.num != 0,a.num,1⟩ else⟨a.neg,a.num / Nat.gcd a.num a.den,a.den / Nat.gcd a.num a.den⟩
def PR.int(z:Int): PR:=⟨decide (z<0),z.natAbs,1⟩
def PR.sign(a:PR): Int:=if a.num=0 then 0 else if a.neg then -1 else 1
def PR.dvs(a:PR): Nat:=if a.den=0 then 1 else a.den
def PR.cmp(a b:PR): Int:=if a.sign≠b.sign then(if a.sign<b.sign then -1 else 1) else a.sign*(if a.num*b.dvs<b.num*a.dvs then -1 else if a.num*b.dvs=b.num*a.dvs then 0 else 1)
def PR.opp(a:PR): PR:=PR.norm ⟨!a.neg,a.num,a.den⟩
def PR.addN(a b:PR): PR:=if a.neg=b.neg then PR.norm ⟨a.neg,a.num*b.den+b.num*a.den,a.den*b.den⟩ else if b.num*a.den<=a.num*b.den then PR.norm ⟨a.neg,a.num*b.den-b.num*a.den,a.den*b.den⟩ else PR.norm ⟨b.neg,b.num*a.den-a.num*b.den,a.den*b.den⟩
def PR.add(a b:PR): PR:=PR.addN a.norm b.norm
def PR.sub(a b:PR): PR:=PR.add a b.opp
def PR.mulN(a b:PR): PR:=PR.norm ⟨a.neg != b.neg,a.num*b.num,a.den*b.den⟩
def PR.mul(a b:PR): PR:=PR.mulN a.norm b.norm
def PR.div(a b:PR): PR:=if b.norm.num=0 then⟨false,0,0⟩ else PR.mul a ⟨b.norm.neg,b.norm.den,b.norm.num⟩
def pr0: PR:=⟨false,0,1⟩
def PR.val(a:PR): Rat:=(if a.neg then -(a.num:Rat) else(a.num:Rat)) / (a.den:Rat)
theorem Vc{n:Nat}(h:n≠0): (n:Rat)≠0:=by
 intro e;exact h (Rat.natCast_inj.1 e)
theorem PR.norm_val{a:PR}(hd:a.den≠0): a.norm.val=a.val/\a.norm.den≠0:=by
 unfold PR.norm;by_cases h:a.num=0
 .rw[if_pos (.inl h)];refine⟨?_,by simp⟩;simp only[PR.val,h];have:=Vc hd;have z:((0:Nat):Rat)=0:=rfl;split<;>split<;>grind
 rw[if_neg om];have B:0<Nat.gcd a.num a.den:=Nat.gcd_pos_of_pos_left _ om;obtain⟨x,u⟩:=Nat.gcd_dvd_left a.num a.den;obtain⟨y,j⟩:=Nat.gcd_dvd_right a.num a.den;generalize Nat.gcd a.num a.den=g at *
 have G:a.num / g=x:=by rw[u];exact Nat.mul_div_cancel_left x B
 have D:a.den / g=y:=by rw[j];exact Nat.mul_div_cancel_left y B
 have i:y≠0:=λe=>hd (by rw[j,e,Nat.mul_zero]);refine⟨?_,by simp only;rw[D];exact i⟩;simp only[PR.val];rw[G,D,u,j,Rat.natCast_mul,Rat.natCast_mul];have:=Vc i;have:=Vc (show g≠0 by omega);split<;>grind
theorem PR.opp_val{a:PR}(hd:a.den≠0): a.opp.val = -a.val/\a.opp.den≠0:=by
 have h:=PR.norm_val (a:=⟨!a.neg,a.num,a.den⟩) hd;refine⟨?_,h.2⟩;unfold PR.opp;rw[h.1];have:=Vc hd;simp only[PR.val];cases a.neg<;>simp<;>grind
theorem PR.addN_val{a b:PR}(ha:a.den≠0)(hb:b.den≠0): (PR.addN a b).val=a.val+b.val/\(PR.addN a b).den≠0:=by
 have i:a.den*b.den≠0:=Nat.mul_ne_zero ha hb;have D:=Vc ha;have B:=Vc hb;unfold PR.addN;by_cases e:a.neg=b.neg
 .rw[if_pos e];have h:=PR.norm_val (a:=⟨a.neg,a.num*b.den+b.num*a.den,a.den*b.den⟩) i;refine⟨?_,h.2⟩;rw[h.1];simp only[PR.val,<-e];rw[Rat.natCast_mul,Rat.natCast_add,Rat.natCast_mul,Rat.natCast_mul];split<;>grind
 rw[if_neg e];by_cases e2:b.num*a.den<=a.num*b.den
 .rw[if_pos e2];have h:=PR.norm_val (a:=⟨a.neg,a.num*b.den-b.num*a.den,a.den*b.den⟩) i;refine⟨?_,h.2⟩;rw[h.1];obtain⟨d,j⟩:=Nat.le.dest e2;have u:a.num*b.den-b.num*a.den=d:=om
  have y:(a.num:Rat)*b.den=b.num*a.den+d:=by rw[<-Rat.natCast_mul,<-j,Rat.natCast_add,Rat.natCast_mul]
  simp only[PR.val,u];rw[Rat.natCast_mul];cases hna:a.neg<;>cases hnb:b.neg<;>simp[hna,hnb]at e ⊢<;>grind
 rw[if_neg e2];have h:=PR.norm_val (a:=⟨b.neg,b.num*a.den-a.num*b.den,a.den*b.den⟩) i;refine⟨?_,h.2⟩;rw[h.1];obtain⟨d,j⟩:=Nat.le.dest (Nat.le_of_lt (Nat.lt_of_not_le e2));have u:b.num*a.den-a.num*b.den=d:=om
 have y:(b.num:Rat)*a.den=a.num*b.den+d:=by rw[<-Rat.natCast_mul,<-j,Rat.natCast_add,Rat.natCast_mul]
 simp only[PR.val,u];rw[Rat.natCast_mul];cases hna:a.neg<;>cases hnb:b.neg<;>simp[hna,hnb]at e ⊢<;>grind
theorem PR.add_val{a b:PR}(ha:a.den≠0)(hb:b.den≠0): (PR.add a b).val=a.val+b.val/\(PR.add a b).den≠0:=by
 have j:=PR.norm_val ha;have i:=PR.norm_val hb;have h:=PR.addN_val j.2 i.2;exact⟨by rw[PR.add,h.1,j.1,i.1],h.2⟩
theorem PR.sub_val{a b:PR}(ha:a.den≠0)(hb:b.den≠0): (PR.sub a b).val=a.val-b.val/\(PR.sub a b).den≠0:=by
 have i:=PR.opp_val hb;have h:=PR.add_val ha i.2;exact⟨by rw[PR.sub,h.1,i.1];grind,h.2⟩
theorem PR.mulN_val{a b:PR}(ha:a.den≠0)(hb:b.den≠0): (PR.mulN a b).val=a.val*b.val/\(PR.mulN a b).den≠0:=by
 have h:=PR.norm_val (a:=⟨a.neg != b.neg,a.num*b.num,a.den*b.den⟩) (Nat.mul_ne_zero ha hb);refine⟨?_,h.2⟩;unfold PR.mulN;rw[h.1];have j:=Vc ha;have i:=Vc hb;simp only[PR.val];rw[Rat.natCast_mul,Rat.natCast_mul];cases a.neg<;>cases b.neg<;>simp<;>grind
theorem PR.mul_val{a b:PR}(ha:a.den≠0)(hb:b.den≠0): (PR.mul a b).val=a.val*b.val/\(PR.mul a b).den≠0:=by
 have j:=PR.norm_val ha;have i:=PR.norm_val hb;have h:=PR.mulN_val j.2 i.2;exact⟨by rw[PR.mul,h.1,j.1,i.1],h.2⟩
theorem PR.sign_val{a:PR}(ha:a.den≠0): (a.sign<0↔a.val<0)/\(a.sign=0↔a.val=0)/\(0<a.sign↔0<a.val):=by
 have u:(0:Rat)<a.den:=by
  have:0<a.den:=om
  exact Rat.natCast_pos.2 this
 unfold PR.sign PR.val;by_cases e:a.num=0
 .rw[if_pos e,e];have:(if a.neg=true then -((0:Nat):Rat) else((0:Nat):Rat)) / a.den=0:=by split<;>grind
  rw[this];refine⟨?_,?_,?_⟩<;>grind
 rw[if_neg e];have j:(0:Rat)<a.num:=Rat.natCast_pos.2 om;have y:(0:Rat)<a.num / a.den:=by
  rw[Rat.div_def];exact Rat.mul_pos j (Rat.inv_pos.2 u)
 cases a.neg
 .simp only[Bool.false_eq_true,if_false];refine⟨?_,?_,?_⟩<;>grind
 simp only[if_true];have i:-(a.num:Rat) / a.den = -(a.num / a.den):=by grind
 rw[i];refine⟨?_,?_,?_⟩<;>grind
theorem PR.div_val{a b:PR}(ha:a.den≠0)(hb:b.den≠0)(h0:b.val≠0): (PR.div a b).val=a.val / b.val/\(PR.div a b).den≠0:=by
 have i:=PR.norm_val hb;have hn:b.norm.num≠0:=λe=>h0 (by
  rw[<-i.1];have:=Vc i.2;simp only[PR.val,e];split<;>grind)
 unfold PR.div;rw[if_neg hn];have h:=PR.mul_val (a:=a) (b:=⟨b.norm.neg,b.norm.den,b.norm.num⟩) ha hn;refine⟨?_,h.2⟩;rw[h.1,<-i.1];have:=Vc i.2;have:=Vc hn;simp only[PR.val];cases b.norm.neg<;>simp<;>grind
structure PT where
 n: Nat
 m:Nat
 rows:List (List PR)
 goal:List PR
 basis:List Nat
deriving DecidableEq
def PT.right(t:PT): Nat:=t.n+t.m+1
def Zl(row other:List PR)(f:PR): List PR:=if f.sign=0 then row else List.zipWith (λa b=>if b.sign≠0 then PR.sub a (PR.mul f b) else a) row other
def dvR(row:List PR)(d:PR): List PR:=row.map λa=>if a.sign≠0 then PR.div a d else a
def PT.pivot(t:PT)(r c:Nat): PT :=
 let p:=dvR (t.rows.getD r []) ((t.rows.getD r []).getD c pr0)
 ⟨t.n,t.m,(t.rows.mapIdx λi row=>if i=r then p else Zl row p (row.getD c pr0)),Zl t.goal p (t.goal.getD c pr0),t.basis.set r c⟩
def lvS(t:PT)(c:Nat): Nat->Option (Nat×PR)
 | 0=>none
 | i+1=>
  let row:=t.rows.getD i []
  if(row.getD c pr0).sign<=0 then lvS t c i
  else
   let q:=PR.div (row.getD t.right pr0) (row.getD c pr0)
   match lvS t c i with
   | none=>some (i,q)
   | some (b,least)=>if PR.cmp q least<0∨(PR.cmp q least=0/\t.basis.getD i 0<t.basis.getD b 0) then some (i,q) else some (b,least)
def PT.leaving(t:PT)(c:Nat): Option Nat:=(lvS t c t.rows.length).map (·.1)
def PT.enter(t:PT)(cols:Nat): Option Nat:=(List.range cols).find? λj=>decide ((t.goal.getD j pr0).sign<0)
def PT.maxim(cols:Nat): Nat->PT->Option PT
 | 0,_=>none
 | k+1,t=>match t.enter cols with
  | none=>some t
  | some j=>match t.leaving j with
   | none=>none
   | some r=>PT.maxim cols k (t.pivot r j)
def PT.ofP(n:Nat)(A:List (List PR)): PT :=
 ⟨n,A.length,A.mapIdx λi a=>a++(List.range A.length).map (λk=>if k=i then PR.int 1 else pr0)++[PR.int (-1),PR.int 1],(List.replicate n (PR.int (-1)))++List.replicate (A.length+2) pr0,(List.range A.length).map (n + ·)⟩
def PT.point(t:PT): List PR:=(List.range t.n).map λv=>match(List.range t.basis.length).reverse.find? λi=>t.basis.getD i 0 == v with
 | none=>pr0
 | some i=>(t.rows.getD i []).getD t.right pr0
def PT.dual(t:PT): List PR:=(t.goal.drop t.n).take t.m
def Jy(N set:Nat): List Nat:=(List.range N).filter λv=>set.testBit v
def Jl(E:List Nat)(set:Nat): Nat->List Nat
 | 0=>[]
 | i+1=>let p:=(E.getD i 0) &&& set
  if p=0∨(List.range i).any (λk=>(E.getD k 0) &&& set == p) then Jl E set i else Jl E set i++[i]
def Vf(N:Nat)(E:List Nat)(set:Nat): List (List PR):=(Jl E set E.length).map λi=>(Jy N set).map λv=>PR.int (((E.getD i 0) &&& set).testBit v).toNat
structure PC where
 ws: List PR
 ps:List PR
 val:PR
deriving DecidableEq
def Zo(l:List PR)(is:List Nat)(xs:List PR): List PR:=(is.zip xs).foldl (λl p=>l.set p.1 p.2) l
def cvr(fuel N:Nat)(E:List Nat)(set:Nat): Option PC:=(PT.maxim ((Jy N set).length+(Jl E set E.length).length) fuel (PT.ofP (Jy N set).length (Vf N E set))).map λt=>⟨Zo (List.replicate E.length pr0) (Jl E set E.length) t.dual,Zo (List.replicate N pr0) (Jy N set) t.point,t.goal.getD t.right pr0⟩
def dnm(ws:List PR): Nat:=ws.foldl (λd w=>d / Nat.gcd d w.norm.den*w.norm.den) 1
def Vo(ws:List PR)(sizes:List Nat)(d:Nat): Nat:=(ws.zip sizes).foldl (λr p=>r*p.2^(PR.norm (PR.mul p.1 (PR.norm ⟨false,d,0⟩))).num) 1
end Go.Proofs.YtebiphhfkdbpfaaGreatDoor
namespace Go.Proofs.YtebiphhfkdbpfaaGreatDoor.Bl
variable {K c i j k n p q s:Nat}{f g:Nat->Rat}{a b:Rat}
def Jk: Nat->(Nat->Rat)->Rat
 | 0,_=>0
 | n+1,f=>Jk n f+f n
theorem Zb(h:∀ j,j<n->f j=g j): Jk n f=Jk n g:=by
 induction n with
 | zero=>rfl
 | succ n ih=>rw[Jk,Jk,ih λj i=>h j om,h n om]
theorem Jkg(n:Nat)(f g:Nat->Rat)(k:Rat): Jk n (λj=>f j-k*g j)=Jk n f-k*Jk n g:=by
 induction n with
 | zero=>grind [Jk]
 | succ n ih=>grind [Jk]
theorem Yh(n:Nat)(f:Nat->Rat)(k:Rat): Jk n (λj=>k*f j)=k*Jk n f:=by
 induction n with
 | zero=>grind [Jk]
 | succ n ih=>grind [Jk]
theorem Jvw(n:Nat)(f g:Nat->Rat): Jk n (λj=>f j+g j)=Jk n f+Jk n g:=by
 induction n with
 | zero=>grind [Jk]
 | succ n ih=>grind [Jk]
theorem Ks(h:∀ j,j<n->f j=0): Jk n f=0:=by
 induction n with
 | zero=>rfl
 | succ n ih=>rw[Jk,ih λj i=>h j om,h n om];grind
theorem Gk(hc:c<n)(h:∀ j,j<n->j≠c->f j=0): Jk n f=f c:=by
 induction n with
 | zero=>omega
 | succ n ih=>
  rw[Jk];by_cases e:c=n
  .subst e;rw[Ks λj u=>h j om om];grind
  rw[ih om λj u i=>h j om i,h n om om];grind
theorem Qdc(h:0<Jk n f): ∃ j,j<n/\0<f j:=by
 induction n with
 | zero=>simp[Jk]at h
 | succ n ih=>
  rw[Jk]at h;by_cases e:0<f n
  .exact⟨n,om,e⟩
  obtain⟨j,u,i⟩:=ih (by grind);exact⟨j,om,i⟩
theorem Jpm(n m:Nat)(f:Nat->Nat->Rat): Jk n (λj=>Jk m λi=>f i j)=Jk m λi=>Jk n λj=>f i j:=by
 induction n with
 | zero=>simp only[Jk];exact(Ks λ_ _=>rfl).symm
 | succ n ih=>simp only[Jk];rw[ih,<-Jvw]
structure QT where
 a: Nat->Nat->Rat
 b:Nat->Rat
 g:Nat->Rat
 z:Rat
 β:Nat->Nat
def QT.pivot(t:QT)(r c:Nat): QT :=
 ⟨λi j=>if i=r then t.a r j / t.a r c else t.a i j-t.a i c*(t.a r j / t.a r c),λi=>if i=r then t.b r / t.a r c else t.b i-t.a i c*(t.b r / t.a r c),λj=>t.g j-t.g c*(t.a r j / t.a r c),t.z-t.g c*(t.b r / t.a r c),λi=>if i=r then c else t.β i⟩
def Sol(m n:Nat)(t:QT)(x:Nat->Rat): Prop:=∀ i,i<m->Jk n (λj=>t.a i j*x j)=t.b i
def QT.val(n:Nat)(t:QT)(x:Nat->Rat): Rat:=t.z-Jk n λj=>t.g j*x j
structure WF(m n:Nat)(t:QT): Prop where
 lt:∀ i,i<m->t.β i<n
 unit:∀ i k,i<m->k<m->t.a k (t.β i)=if k=i then 1 else 0
 red:∀ i,i<m->t.g (t.β i)=0
variable {m n r c:Nat} {t:QT} {x:Nat->Rat}
theorem Jff(hp:t.a r c≠0): Jk n (λj=>t.a r j / t.a r c*x j)=Jk n (λj=>t.a r j*x j) / t.a r c:=by
 rw[show(λj=>t.a r j / t.a r c*x j)=λj=>(1 / t.a r c)*(t.a r j*x j) by funext j;grind,Yh];grind
theorem Qdw(hr:r<m)(hp:t.a r c≠0)(h:Sol m n t x): Sol m n (t.pivot r c) x:=λi hi=>by
 have h0:=h r hr;have u:=Jff (n:=n) (x:=x) hp;by_cases e:i=r
 .subst e;simp only[QT.pivot,if_true];rw[u,h0]
 simp only[QT.pivot,if_neg e];rw[show(λj=>(t.a i j-t.a i c*(t.a r j / t.a r c))*x j)=λj=>t.a i j*x j-t.a i c*(t.a r j / t.a r c*x j) by funext j;grind,Jkg,u,h0,h i hi]
theorem Jpx(hr:r<m)(hp:t.a r c≠0)(h:Sol m n (t.pivot r c) x): Sol m n t x:=by
 have h0:=h r hr;have u:=Jff (n:=n) (x:=x) hp;simp only[QT.pivot,if_true]at h0;rw[u]at h0;have B:Jk n (λj=>t.a r j*x j)=t.b r:=by grind
 intro i hi;by_cases e:i=r
 .subst e;exact B
 have y:=h i hi;simp only[QT.pivot,if_neg e]at y;rw[show(λj=>(t.a i j-t.a i c*(t.a r j / t.a r c))*x j)=λj=>t.a i j*x j-t.a i c*(t.a r j / t.a r c*x j) by funext j;grind,Jkg,u,B]at y;grind
theorem Jnq(hr:r<m)(hp:t.a r c≠0)(h:Sol m n t x): (t.pivot r c).val n x=t.val n x:=by
 have h0:=h r hr;have i:=Jff (n:=n) (x:=x) hp;simp only[QT.val,QT.pivot];rw[show(λj=>(t.g j-t.g c*(t.a r j / t.a r c))*x j)=λj=>t.g j*x j-t.g c*(t.a r j / t.a r c*x j) by funext j;grind,Jkg,i,h0];grind
theorem WF.inj(h:WF m n t)(hi:i<m)(hk:k<m)(e:t.β i=t.β k): i=k:=by
 have u:=h.unit i i hi hi;have j:=h.unit k i hk hi;rw[<-e,u]at j;by_cases e2:i=k
 .exact e2
 rw[if_neg e2]at j;simp at j
theorem Jnj(h:WF m n t)(hr:r<m)(hc:c<n)(hp:t.a r c≠0): WF m n (t.pivot r c):=by
 refine⟨λi hi=>?_,λi k hi y=>?_,λi hi=>?_⟩
 .simp only[QT.pivot];split
  .exact hc
  exact h.lt i hi
 .have u:=h.unit i k hi y;have j:=h.unit i r hi hr;simp only[QT.pivot];by_cases e:i=r
  .subst e;simp only[if_true];by_cases e2:k=i
   .subst e2;simp only[if_true];grind
   simp only[if_neg e2];grind
  simp only[if_neg e];rw[if_neg (λh=>e h.symm)]at j;by_cases e2:k=r
  .subst e2;rw[if_neg (λh=>e h.symm)]at u;simp only[if_true];rw[u,if_neg (λh=>e h.symm)];grind
  simp only[if_neg e2];rw[j,u];grind
 simp only[QT.pivot];by_cases e:i=r
 .subst e;simp only[if_true];grind
 simp only[if_neg e];have j:=h.unit i r hi hr;rw[if_neg (λh=>e h.symm)]at j;rw[j,h.red i hi];grind
def QT.pt(m:Nat)(t:QT)(s:Nat)(l:Rat): Nat->Rat:=λj=>(if j=s then l else 0)+Jk m λi=>if t.β i=j then t.b i-t.a i s*l else 0
theorem Ke(hw:WF m n t)(hs:s<n)(l:Rat)(h:Nat->Rat): Jk n (λj=>h j*t.pt m s l j)=h s*l+Jk m λi=>h (t.β i)*(t.b i-t.a i s*l):=by
 have e:(λj=>h j*t.pt m s l j)=λj=>(h j*(if j=s then l else 0))+Jk m λi=>h j*(if t.β i=j then t.b i-t.a i s*l else 0):=by
  funext j;rw[Yh];simp only[QT.pt];grind
 rw[e,Jvw,Jpm];congr 1
 .rw[Gk hs λj _ u=>by rw[if_neg u];grind,if_pos rfl]
 refine Zb λi hi=>?_;rw[Gk (hw.lt i hi) λj _ u=>by rw[if_neg (λh=>u h.symm)];grind,if_pos rfl]
theorem Uf(hw:WF m n t)(hs:s<n)(l:Rat): Sol m n t (t.pt m s l):=λk u=>by
 rw[Ke hw hs l (λj=>t.a k j),Zb (g:=λi=>if i=k then t.b k-t.a k s*l else 0),Gk u λj _ y=>if_neg y,if_pos rfl]
 .grind
 intro i hi;rw[hw.unit i k hi u];by_cases e:k=i
 .subst e;simp only[if_true];grind
 rw[if_neg e,if_neg (λh=>e h.symm)];grind
theorem Jxd(hw:WF m n t)(hs:s<n)(l:Rat): t.val n (t.pt m s l)=t.z-t.g s*l:=by
 unfold QT.val;rw[Ke hw hs l t.g,Ks (f:=λi=>t.g (t.β i)*(t.b i-t.a i s*l)) λi hi=>by rw[hw.red i hi];grind];grind
structure Eqv(m n:Nat)(t u:QT): Prop where
 sol:∀ x,Sol m n t x->Sol m n u x
 val:∀ x,Sol m n t x->t.val n x=u.val n x
theorem Eqv.refl(t:QT): Eqv m n t t:=⟨λx h=>h,λx h=>rfl⟩
theorem Eqv.trans{u v:QT}(h:Eqv m n t u)(k:Eqv m n u v): Eqv m n t v:=⟨λx i=>k.sol x (h.sol x i),λx i=>(h.val x i).trans (k.val x (h.sol x i))⟩
theorem Qzs(hr:r<m)(hp:t.a r c≠0): Eqv m n t (t.pivot r c):=⟨λx h=>Qdw hr hp h,λx h=>(Jnq hr hp h).symm⟩
theorem Qzt(hr:r<m)(hp:t.a r c≠0): Eqv m n (t.pivot r c) t:=⟨λx h=>Jpx hr hp h,λx h=>Jnq hr hp (Jpx hr hp h)⟩
theorem Jkk{u:QT}(hw:WF m n t)(he:Eqv m n t u)(hs:s<n): t.g s=u.g s-Jk m λi=>u.g (t.β i)*t.a i s:=by
 have h0:=he.val _ (Uf hw hs 0);have j:=he.val _ (Uf hw hs 1);rw[Jxd hw hs]at h0 j;unfold QT.val at h0 j;rw[Ke hw hs _ u.g]at h0 j;have e:Jk m (λi=>u.g (t.β i)*(t.b i-t.a i s*1))=Jk m (λi=>u.g (t.β i)*(t.b i-t.a i s*0))-1*Jk m (λi=>u.g (t.β i)*t.a i s):=by
  rw[<-Jkg];congr 1;funext i;grind
 rw[e]at j;grind
structure Bst(m n:Nat)(t:QT)(r c:Nat): Prop where
 rm:r<m
 cn:c<n
 ent:t.g c<0
 first:∀ j,j<c->0<=t.g j
 pos:0<t.a r c
 ratio:∀ i,i<m->0<t.a i c->t.b r / t.a r c<=t.b i / t.a i c/\(t.b i / t.a i c=t.b r / t.a r c->t.β r<=t.β i)
def Kf(m:Nat)(t:QT): Prop:=∀ i,i<m->0<=t.b i
theorem Qkc(ha:0<=a)(hb:0<b): 0<=a / b:=by
 rw[Rat.div_def];exact Rat.mul_nonneg ha (Rat.le_of_lt (Rat.inv_pos.2 hb))
theorem Qzp(h:Bst m n t r c)(hf:Kf m t): Kf m (t.pivot r c):=λi hi=>by
 have j:=Qkc (hf r h.rm) h.pos;simp only[QT.pivot];by_cases e:i=r
 .rw[if_pos e];exact j
 rw[if_neg e];by_cases hp:0<t.a i c
 .have u:=(h.ratio i hi hp).1;have y:t.a i c*(t.b r / t.a r c)<=t.a i c*(t.b i / t.a i c):=Rat.mul_le_mul_of_nonneg_left u (Rat.le_of_lt hp);have B:t.a i c*(t.b i / t.a i c)=t.b i:=by grind
  grind
 have u:t.a i c*(t.b r / t.a r c)<=0*(t.b r / t.a r c):=Rat.mul_le_mul_of_nonneg_right (by grind) j;have y:=hf i hi;grind
theorem Qpl(ha:a<0)(hb:0<b): a*b<0:=by
 have:=Rat.mul_pos (show 0 < -a by grind) hb;grind
structure Run(m n K:Nat)(T:Nat->QT)(R C:Nat->Nat): Prop where
 w0:WF m n (T 0)
 f0:Kf m (T 0)
 st:∀ k,k<K->Bst m n (T k) (R k) (C k)
 nx:∀ k,k<K->T (k+1)=(T k).pivot (R k) (C k)
section
variable {K:Nat} {T:Nat->QT} {R C:Nat->Nat} (h:Run m n K T R C)
include h
theorem Run.ne(hk:k<K): (T k).a (R k) (C k)≠0:=by have:=(h.st k hk).pos;grind
theorem Run.wf: ∀ {k:Nat},k<=K->WF m n (T k)
 | 0,_=>h.w0
 | k+1,hk=>by rw[h.nx k hk];exact Jnj (Run.wf om) (h.st k hk).rm (h.st k hk).cn (h.ne hk)
theorem Run.feas: ∀ {k:Nat},k<=K->Kf m (T k)
 | 0,_=>h.f0
 | k+1,hk=>by rw[h.nx k hk];exact Qzp (h.st k hk) (Run.feas om)
theorem Run.up{j:Nat}: ∀ {k:Nat},j<=k->k<=K->Eqv m n (T j) (T k)/\Eqv m n (T k) (T j)
 | 0,h1,_=>by(obtain rfl:j=0:=by omega);(exact⟨Eqv.refl _,Eqv.refl _⟩)
 | k+1,h1,hk=>by
  by_cases e:j=k+1
  .subst e;exact⟨Eqv.refl _,Eqv.refl _⟩
  obtain⟨i1,i2⟩:=Run.up (j:=j) (k:=k) om om;rw[h.nx k hk];exact⟨i1.trans (Qzs (h.st k hk).rm (h.ne hk)),(Qzt (h.st k hk).rm (h.ne hk)).trans i2⟩
theorem Run.eqv(hj:j<=K)(hk:k<=K): Eqv m n (T j) (T k):=by
 rcases Nat.le_total j k with e|e
 .exact(h.up e hk).1
 exact(h.up e hj).2
theorem Run.zle{j:Nat}: ∀ {k:Nat},j<=k->k<=K->(T j).z<=(T k).z
 | 0,h1,_=>by(obtain rfl:j=0:=by omega);(grind)
 | k+1,h1,hk=>by
  by_cases e:j=k+1
  .subst e;grind
  have h2:=Run.zle (j:=j) (k:=k) om om;have hs:=h.st k hk;have hq:=Qkc (h.feas (k:=k) om _ hs.rm) hs.pos;have h3:(T k).g (C k)*((T k).b (R k) / (T k).a (R k) (C k))<=0*((T k).b (R k) / (T k).a (R k) (C k)):=Rat.mul_le_mul_of_nonneg_right (by have:=hs.ent;grind) hq;rw[h.nx k hk];simp only[QT.pivot];grind
theorem Run.β(hk:k<K): (T (k+1)).β i=if i=R k then C k else(T k).β i:=by rw[h.nx k hk];rfl
theorem Run.enter{y j:Nat}(h0:¬ ∃ i,i<m/\(T j).β i=y): ∀ {k:Nat},j<=k->k<=K->(∃ i,i<m/\(T k).β i=y)->∃ e,j<=e/\e<k/\C e=y
 | 0,h1,_,h2=>by(obtain rfl:j=0:=by omega);(exact absurd h2 h0)
 | k+1,h1,hk,⟨i,hi,h2⟩=>by
  by_cases e:j=k+1
  .subst e;exact absurd ⟨i,hi,h2⟩ h0
  rw[h.β hk]at h2;by_cases e2:i=R k
  .rw[if_pos e2]at h2;exact⟨k,om,om,h2⟩
  rw[if_neg e2]at h2;obtain⟨e,h3,h4,h5⟩:=Run.enter h0 (k:=k) om om ⟨i,hi,h2⟩;exact⟨e,h3,om,h5⟩
theorem Run.leave{y j:Nat}(h0:∃ i,i<m/\(T j).β i=y): ∀ {k:Nat},j<=k->k<=K->(¬ ∃ i,i<m/\(T k).β i=y)->∃ e,j<=e/\e<k/\(T e).β (R e)=y
 | 0,h1,_,h2=>by(obtain rfl:j=0:=by omega);(exact absurd h0 h2)
 | k+1,h1,hk,h2=>by
  by_cases e:j=k+1
  .subst e;exact absurd h0 h2
  by_cases e2:∃ i,i<m/\(T k).β i=y
  .obtain⟨i,hi,h3⟩:=e2;by_cases e3:i=R k
   .exact⟨k,om,om,by rw[<-e3];exact h3⟩
   exact absurd ⟨i,hi,by rw[h.β hk,if_neg e3];exact h3⟩ h2
  obtain⟨e,h3,h4,h5⟩:=Run.leave h0 (k:=k) om om e2;exact⟨e,h3,om,h5⟩
theorem Run.cycle(hpq : p < q)(hq : q ≤ K)(hβ : ∀ i, i < m → (T p).β i = (T q).β i): False := by
  have hs0 := (h.st p om).cn
  have wp := h.wf (k := p) om
  have wq := h.wf hq
  have hx := Uf wp hs0 0
  have he := h.eqv (j := p) (k := q) om hq
  -- the values are the same
  have hz : (T p).z = (T q).z := by
    have h1 := he.val _ hx
    rw [Jxd wp hs0] at h1
    unfold QT.val at h1
    rw [Ke wp hs0 0 (T q).g, Ks (f := fun i => (T q).g ((T p).β i) * ((T p).b i - (T p).a i (C p) * 0)) fun i hi => by rw [hβ i hi, wq.red i hi]; grind] at h1
    grind
  have hzk : ∀ k, p ≤ k → k ≤ q → (T k).z = (T p).z := fun k h1 h2 => by
    have k1 := h.zle h1 om
    have k2 := h.zle h2 hq
    grind
  have hdeg : ∀ k, p ≤ k → k < q → (T k).b (R k) / (T k).a (R k) (C k) = 0 := fun k h1 h2 => by
    have k1 := hzk k h1 om
    have k2 := hzk (k + 1) om om
    rw [h.nx k om] at k2
    simp only [QT.pivot] at k2
    have k3 := (h.st k om).ent
    have k4 : (T k).g (C k) * ((T k).b (R k) / (T k).a (R k) (C k)) = 0 := by grind
    rcases Rat.mul_eq_zero.1 k4 with k5 | k5
    . grind
    . exact k5
  have hbr : ∀ k, p ≤ k → k < q → (T k).b (R k) = 0 := fun k h1 h2 => by
    have k1 := hdeg k h1 h2
    have k2 := (h.st k om).pos
    grind
  have hbs : ∀ k, p ≤ k → k < q → ∀ i, (T (k + 1)).b i = (T k).b i := fun k h1 h2 i => by
    have k1 := hdeg k h1 h2
    have k2 := hbr k h1 h2
    rw [h.nx k om]
    simp only [QT.pivot]
    by_cases e : i = R k
    . rw [if_pos e, k1, e, k2]
    . rw [if_neg e, k1]; grind
  -- a basic variable that is once beside the basis is 0
  have hZ : ∀ y j k, p ≤ j → j ≤ k → k ≤ q → ((∀ i, i < m → (T j).β i = y → (T j).b i = 0) ↔ ∀ i, i < m → (T k).β i = y → (T k).b i = 0) := by
    intro y j k h1 h2
    induction k with
    | zero => intro _; obtain rfl : j = 0 := by omega
              exact Iff.rfl
    | succ k ih =>
      intro h3
      by_cases e : j = k + 1
      . subst e; exact Iff.rfl
      . rw [ih om om]
        have kb := hbs k om om
        have k0 := hbr k om om
        refine ⟨fun hh i hi hy => ?_, fun hh i hi hy => ?_⟩
        . rw [h.β om] at hy
          rw [kb]
          by_cases e2 : i = R k
          . rw [e2]; exact k0
          . rw [if_neg e2] at hy; exact hh i hi hy
        . by_cases e2 : i = R k
          . rw [e2]; exact k0
          . have := hh i hi (by rw [h.β om, if_neg e2]; exact hy)
            rwa [kb] at this
  have hZ2 : ∀ y j k, p ≤ j → j ≤ q → p ≤ k → k ≤ q → (¬ ∃ i, i < m ∧ (T j).β i = y) → ∀ i, i < m → (T k).β i = y → (T k).b i = 0 := fun y j k h1 h2 h3 h4 h5 => by
    have h6 : ∀ i, i < m → (T j).β i = y → (T j).b i = 0 := fun i hi hy => absurd ⟨i, hi, hy⟩ h5
    rcases Nat.le_total j k with e | e
    . exact (hZ y j k h1 e h4).1 h6
    . exact (hZ y k j h3 e h2).2 h6
  -- the greatest column that comes in
  obtain ⟨u, hu1, hu2, hmax⟩ : ∃ u, p ≤ u ∧ u < q ∧ ∀ e, p ≤ e → e < q → C e ≤ C u := by
    have key : ∀ k, p < k → k ≤ q → ∃ u, p ≤ u ∧ u < k ∧ ∀ e, p ≤ e → e < k → C e ≤ C u := by
      intro k
      induction k with
      | zero => intro h1; omega
      | succ k ih =>
        intro h1 h2
        by_cases e : p = k
        . subst e; exact ⟨p, Nat.le_refl _, by omega, fun e h3 h4 => by rw [show e = p by omega]; exact Nat.le_refl _⟩
        . obtain ⟨u, k1, k2, k3⟩ := ih om om
          by_cases e2 : C u ≤ C k
          . exact ⟨k, by omega, by omega, fun e h3 h4 => by
              by_cases e3 : e = k
              . rw [e3]; exact Nat.le_refl _
              . exact nL (k3 e h3 om) e2⟩
          . exact ⟨u, k1, by omega, fun e h3 h4 => by
              by_cases e3 : e = k
              . rw [e3]; omega
              . exact k3 e h3 om⟩
    exact key q hpq (Nat.le_refl _)
  have su := h.st u om
  have wu := h.wf (k := u) om
  have hnu : ¬ ∃ i, i < m ∧ (T u).β i = C u := fun ⟨i, hi, e⟩ => by
    have := wu.red i hi
    rw [e] at this
    have := su.ent
    grind
  have hiu : ∃ i, i < m ∧ (T (u + 1)).β i = C u := ⟨R u, su.rm, by rw [h.β om, if_pos rfl]⟩
  have hsame : ∀ y, (∃ i, i < m ∧ (T p).β i = y) ↔ ∃ i, i < m ∧ (T q).β i = y := fun y => ⟨fun ⟨i, hi, e⟩ => ⟨i, hi, by rw [← hβ i hi]; exact e⟩, fun ⟨i, hi, e⟩ => ⟨i, hi, by rw [hβ i hi]; exact e⟩⟩
  obtain ⟨v, hv1, hv2, hv⟩ : ∃ v, p ≤ v ∧ v < q ∧ (T v).β (R v) = C u := by
    by_cases e : ∃ i, i < m ∧ (T q).β i = C u
    . obtain ⟨v, k1, k2, k3⟩ := h.leave ((hsame _).2 e) (k := u) hu1 om hnu
      exact ⟨v, k1, by omega, k3⟩
    . obtain ⟨v, k1, k2, k3⟩ := h.leave hiu (k := q) om hq e
      exact ⟨v, by omega, k2, k3⟩
  have sv := h.st v om
  have wv := h.wf (k := v) om
  have hst : C v ≠ C u := fun e => by
    have := wv.red (R v) sv.rm
    rw [hv, ← e] at this
    have := sv.ent
    grind
  have hle := hmax v hv1 hv2
  have hgs := su.first (C v) om
  have hre := Jkk wv (h.eqv (j := v) (k := u) om om) sv.cn
  have hsv := sv.ent
  obtain ⟨i, hi, hpi⟩ := Qdc (n := m) (f := fun i => (T u).g ((T v).β i) * (T v).a i (C v)) (by grind)
  have hir : i ≠ R v := fun e => by
    rw [e, hv] at hpi
    have := Qpl su.ent sv.pos
    grind
  have hny : ¬ ∃ k, k < m ∧ (T u).β k = (T v).β i := fun ⟨k, hk, e⟩ => by
    have := wu.red k hk
    rw [e] at this
    rw [this] at hpi
    grind
  have hyv : ∃ k, k < m ∧ (T v).β k = (T v).β i := ⟨i, hi, rfl⟩
  have hy : (T v).β i ≤ C u := by
    have : ∃ e, p ≤ e ∧ e < q ∧ C e = (T v).β i := by
      rcases Nat.le_total u v with e | e
      . obtain ⟨e, k1, k2, k3⟩ := h.enter hny (k := v) e om hyv
        exact ⟨e, by omega, by omega, k3⟩
      . by_cases eq : ∃ k, k < m ∧ (T q).β k = (T v).β i
        . obtain ⟨e, k1, k2, k3⟩ := h.enter hny (k := q) om hq eq
          exact ⟨e, by omega, k2, k3⟩
        . obtain ⟨e, k1, k2, k3⟩ := h.enter (fun hh => eq ((hsame _).1 hh)) (k := v) hv1 om hyv
          exact ⟨e, k1, by omega, k3⟩
    obtain ⟨e, k1, k2, k3⟩ := this
    rw [← k3]; exact hmax e k1 k2
  have hyt : (T v).β i ≠ C u := fun e => hir (wv.inj hi sv.rm (by rw [e, hv]))
  have hgy := su.first ((T v).β i) om
  have hap : 0 < (T v).a i (C v) := by
    rcases Rat.le_total (b := 0) (a := (T v).a i (C v)) with k | k
    . have := Rat.mul_le_mul_of_nonneg_left k hgy
      grind
    . by_cases e : (T v).a i (C v) = 0
      . rw [e] at hpi; grind
      . grind
  have hbi := hZ2 ((T v).β i) u v hu1 om hv1 om hny i hi rfl
  have hra := (sv.ratio i hi hap).2 (by rw [hbi, hdeg v hv1 hv2]; grind)
  rw [hv] at hra
  omega
end
def cod(n:Nat)(β:Nat->Nat): Nat->Nat
 | 0=>0
 | m+1=>cod n β m*n+β m
theorem Qwf{n:Nat}{β:Nat->Nat}: ∀ {m:Nat},(∀ i,i<m->β i<n)->cod n β m<n^m
 | 0,_=>by simp[cod]
 | m+1,h=>by
  have ih:=Qwf (m:=m) λi hi=>h i om;have h1:=h m om;rw[cod,Nat.pow_succ];have h2:(cod n β m+1)*n<=n^m*n:=nO n ih;rw[Nat.succ_mul]at h2;omega
theorem Qwg{n:Nat}{β γ:Nat->Nat}: ∀ {m:Nat},(∀ i,i<m->β i<n)->(∀ i,i<m->γ i<n)->cod n β m=cod n γ m->∀ i,i<m->β i=γ i
 | 0,_,_,_,i,hi=>by omega
 | m+1,h1,h2,e,i,hi=>by
  rw[cod,cod]at e;have b1:=h1 m om;have b2:=h2 m om;have e1:β m=γ m:=by
   have:=congrArg (· % n) e
   simp only[Nat.mul_comm _ n,Nat.mul_add_mod,Nat.mod_eq_of_lt b1,Nat.mod_eq_of_lt b2]at this;exact this
  by_cases ei:i=m
  .rw[ei];exact e1
  refine Qwg (m:=m) (λi hi=>h1 i om) (λi hi=>h2 i om) ?_ i om;rw[e1]at e;exact Nat.eq_of_mul_eq_mul_right om (Nat.add_right_cancel e)
theorem Jyz: ∀(k:Nat) {l:List Nat},l.Nodup->(∀ u∈l,u<k)->l.length<=k
 | 0,l,_,h=>by cases l with
  | nil=>simp
  | cons a l=>exact absurd (h a mC) om
 | k+1,l,hn,h=>by
  by_cases e:k∈l
  .have h1:=Jyz k (l:=l.erase k) (hn.erase k) λu hu=>by
    have h2:=h u (List.mem_of_mem_erase hu);have h3:u≠k:=λe=>by subst e;exact(List.Nodup.mem_erase_iff hn).1 hu |>.1 rfl
    omega
   rw[List.length_erase_of_mem e]at h1;omega
  have:=Jyz k hn λu hu=>by
   have h2:=h u hu;have h3:u≠k:=λe'=>by subst e';exact e hu
   omega
  omega
theorem Run.short{T:Nat->QT}{R C:Nat->Nat}(h:Run m n K T R C): K<n^m:=by
 rcases Nat.lt_or_ge K (n^m) with h1|h1
 .exact h1
 exfalso
 have y:∀ k,k<=K->∀ i,i<m->(T k).β i<n:=λk B i hi=>(h.wf B).lt i hi;have O:=Jyz (n^m) (l:=(List.range (K+1)).map λk=>cod n (T k).β m) (by
  unfold List.Nodup;rw[List.pairwise_map];refine List.pairwise_iff_getElem.2 λi j hi J D=>?_;simp only[List.length_range]at hi J;simp only[List.getElem_range];intro e;exact h.cycle D om (Qwg (y i om) (y j om) e)) (λu G=>by
  obtain⟨k,B,rfl⟩:=List.mem_map.1 G;exact Qwf (y k (by have:=List.mem_range.1 B;omega)))
 simp at O;omega
end Go.Proofs.YtebiphhfkdbpfaaGreatDoor.Bl
namespace Go.Proofs.YtebiphhfkdbpfaaGreatDoor
open Bl
variable {i k:Nat}
theorem PR.cmp_val{a b:PR}(ha:a.den≠0)(hb:b.den≠0): (PR.cmp a b<0↔a.val<b.val)/\(PR.cmp a b=0↔a.val=b.val):=by
 obtain⟨a1,O,a3⟩:=PR.sign_val ha;obtain⟨b1,J,b3⟩:=PR.sign_val hb;have da:a.dvs=a.den:=by rw[PR.dvs,if_neg ha]
 have db:b.dvs=b.den:=by rw[PR.dvs,if_neg hb]
 have G:a.sign = -1∨a.sign=0∨a.sign=1:=by(unfold PR.sign;by_cases y:a.num=0<;>by_cases i:a.neg=true<;>simp[y,i])
 have sb:b.sign = -1∨b.sign=0∨b.sign=1:=by(unfold PR.sign;by_cases y:b.num=0<;>by_cases i:b.neg=true<;>simp[y,i])
 unfold PR.cmp;by_cases e:a.sign=b.sign
 .rw[if_neg (λh=>h e),da,db];have pa:(0:Rat)<a.den:=Rat.natCast_pos.2 om;have Z:(0:Rat)<b.den:=Rat.natCast_pos.2 om;have j:(a.num*b.den<b.num*a.den)↔(a.num:Rat) / a.den<(b.num:Rat) / b.den:=by
   rw[<-Rat.natCast_lt_natCast,Rat.natCast_mul,Rat.natCast_mul,Rat.div_lt_iff pa];have:(b.num:Rat) / b.den*a.den=(b.num*a.den) / b.den:=by grind
   rw[this,Rat.lt_div_iff Z]
  have u:(a.num*b.den=b.num*a.den)↔(a.num:Rat) / a.den=(b.num:Rat) / b.den:=by
   rw[<-Rat.natCast_inj,Rat.natCast_mul,Rat.natCast_mul];constructor<;>intro h<;>grind
  have U:a.sign = -1->a.val = -((a.num:Rat) / a.den):=λh=>by
   unfold PR.sign at h;unfold PR.val;split at h
   .simp at h
   split at h
   .rename_i i;rw[if_pos i];grind
   simp at h
  have vb:b.sign = -1->b.val = -((b.num:Rat) / b.den):=λh=>by
   unfold PR.sign at h;unfold PR.val;split at h
   .simp at h
   split at h
   .rename_i i;rw[if_pos i];grind
   simp at h
  have D:a.sign=1->a.val=(a.num:Rat) / a.den:=λh=>by
   unfold PR.sign at h;unfold PR.val;split at h
   .simp at h
   split at h
   .simp at h
   rename_i i;rw[if_neg i]
  have B:b.sign=1->b.val=(b.num:Rat) / b.den:=λh=>by
   unfold PR.sign at h;unfold PR.val;split at h
   .simp at h
   split at h
   .simp at h
   rename_i i;rw[if_neg i]
  rcases G with h|h|h
  .rw[U h,vb (e ▸ h),h];constructor
   .split
    .have:=j.1 ‹_›;grind
    split
    .have:=u.1 ‹_›;grind
    rename_i y i;rw[j]at y;rw[u]at i;grind
   split
   .have:=j.1 ‹_›;grind
   split
   .have:=u.1 ‹_›;grind
   rename_i y i;rw[j]at y;rw[u]at i;grind
  .have y:=O.1 h;have i:=J.1 (e ▸ h);rw[h,y,i];simp
  rw[D h,B (e ▸ h),h];constructor
  .split
   .have:=j.1 ‹_›;grind
   split
   .have:=u.1 ‹_›;grind
   rename_i y i;rw[j]at y;rw[u]at i;grind
  split
  .have:=j.1 ‹_›;grind
  split
  .have:=u.1 ‹_›;grind
  rename_i y i;rw[j]at y;rw[u]at i;grind
 rw[if_pos e];have:(a.sign<b.sign↔a.val<b.val)/\a.val≠b.val:=by
  rcases G with h|h|h<;>rcases sb with k|k|k<;>first|exact absurd (h.trans k.symm) e|(rw[h]at a1 O a3;rw[k]at b1 J b3;rw[h,k];constructor<;>grind)
 split
 .rename_i h;have:=this.1.1 h;simp[this];exactλe=>by grind
 rename_i h;simp;refine⟨by have:=this.1;grind,this.2⟩
def PT.q(t:PT): QT:=⟨λi j=>((t.rows.getD i []).getD j pr0).val,λi=>((t.rows.getD i []).getD t.right pr0).val,λj=>(t.goal.getD j pr0).val,(t.goal.getD t.right pr0).val,λi=>t.basis.getD i 0⟩
def ROk(k:Nat)(l:List PR): Prop:=l.length=k/\∀ j,j<k->(l.getD j pr0).den≠0
structure POk(t:PT): Prop where
 rows:t.rows.length=t.m
 row:∀ i,i<t.m->ROk (t.right+1) (t.rows.getD i [])
 goal:ROk (t.right+1) t.goal
 basis:t.basis.length=t.m
theorem Qv{α:Type}(d:α){l:List α}(h:i<l.length): l.getD i d=l[i]:=by simp[List.getD,h]
theorem Jcl{row other:List PR}{f:PR}(hr:ROk k row)(ho:ROk k other)(hf:f.den≠0): ROk k (Zl row other f)/\∀ j,j<k->((Zl row other f).getD j pr0).val=(row.getD j pr0).val-f.val*(other.getD j pr0).val:=by
 have u:=(PR.sign_val hf).2.1;unfold Zl;by_cases h0:f.sign=0
 .rw[if_pos h0];refine⟨hr,λj i=>?_⟩;rw[u.1 h0];grind
 rw[if_neg h0];have B:(List.zipWith (λa b=>if b.sign≠0 then PR.sub a (PR.mul f b) else a) row other).length=k:=by rw[List.length_zipWith,hr.1,ho.1,Nat.min_self]
 have key:∀ j,j<k->(List.zipWith (λa b=>if b.sign≠0 then PR.sub a (PR.mul f b) else a) row other).getD j pr0=if(other.getD j pr0).sign≠0 then PR.sub (row.getD j pr0) (PR.mul f (other.getD j pr0)) else row.getD j pr0:=λj i=>by
  rw[Qv pr0 om,Qv pr0 (l:=row) (by rw[hr.1];exact i),Qv pr0 (l:=other) (by rw[ho.1];exact i)];simp
 refine⟨⟨B,λj i=>?_⟩,λj i=>?_⟩
 .rw[key j i];split
  .exact(PR.sub_val (hr.2 j i) (PR.mul_val hf (ho.2 j i)).2).2
  exact hr.2 j i
 rw[key j i];have y:=(PR.sign_val (ho.2 j i)).2.1;split
 .rw[(PR.sub_val (hr.2 j i) (PR.mul_val hf (ho.2 j i)).2).1,(PR.mul_val hf (ho.2 j i)).1]
 rename_i h1;have D:(other.getD j pr0).sign=0:=by
  by_cases e:(other.getD j pr0).sign=0
  .exact e
  exact absurd e h1
 rw[y.1 D];grind
theorem Jhx{row:List PR}{d:PR}(hr:ROk k row)(hd:d.den≠0)(h0:d.val≠0): ROk k (dvR row d)/\∀ j,j<k->((dvR row d).getD j pr0).val=(row.getD j pr0).val / d.val:=by
 have y:(dvR row d).length=k:=by rw[dvR,List.length_map,hr.1]
 have key:∀ j,j<k->(dvR row d).getD j pr0=if(row.getD j pr0).sign≠0 then PR.div (row.getD j pr0) d else row.getD j pr0:=λj i=>by
  rw[Qv pr0 om,Qv pr0 (l:=row) (by rw[hr.1];exact i)];simp[dvR]
 refine⟨⟨y,λj i=>?_⟩,λj i=>?_⟩
 .rw[key j i];split
  .exact(PR.div_val (hr.2 j i) hd h0).2
  exact hr.2 j i
 rw[key j i];have u:=(PR.sign_val (hr.2 j i)).2.1;split
 .exact(PR.div_val (hr.2 j i) hd h0).1
 rename_i h1;have B:(row.getD j pr0).sign=0:=by
  by_cases e:(row.getD j pr0).sign=0
  .exact e
  exact absurd e h1
 rw[u.1 B];grind
open Bl
variable {c cols i r:Nat}{t:PT}{T:QT}
structure Agr(t:PT)(T:QT): Prop where
 ok:POk t
 a:∀ i j,i<t.m->j<t.n+t.m->((t.rows.getD i []).getD j pr0).val=T.a i j
 b:∀ i,i<t.m->((t.rows.getD i []).getD t.right pr0).val=T.b i
 g:∀ j,j<t.n+t.m->(t.goal.getD j pr0).val=T.g j
 z:(t.goal.getD t.right pr0).val=T.z
 β:∀ i,i<t.m->t.basis.getD i 0=T.β i
theorem Jbt{α β:Type}(d:α)(e:β){l:List α}(f:Nat->α->β)(h:i<l.length): (l.mapIdx f).getD i e=f i (l.getD i d):=by
 rw[Qv e (by simpa using h),Qv d h];simp
theorem Qtq{l:List Nat}(h:i<l.length): (l.set r c).getD i 0=if i=r then c else l.getD i 0:=by
 rw[Qv 0 (by simpa using h),Qv 0 h,List.getElem_set];by_cases e:r=i
 .subst e;simp
 rw[if_neg e,if_neg (λh=>e h.symm)]
theorem Xvf(h:Agr t T)(hr:r<t.m)(hc:c<t.n+t.m)(h0:T.a r c≠0): Agr (t.pivot r c) (T.pivot r c):=by
 have hR:=h.ok.row r hr;have U:c<t.right+1:=by unfold PT.right;omega
 have D:t.right<t.right+1:=om
 have G:∀ j,j<t.n+t.m->j<t.right+1:=λj hj=>by unfold PT.right;omega
 have Z:((t.rows.getD r []).getD c pr0).val=T.a r c:=h.a r c hr hc;have hd:=hR.2 c U;obtain⟨dk,dv⟩:=Jhx hR hd (by rw[Z];exact h0);rw[Z]at dv;have B:∀ i,i<t.m->(t.pivot r c).rows.getD i []=if i=r then dvR (t.rows.getD r []) ((t.rows.getD r []).getD c pr0) else Zl (t.rows.getD i []) (dvR (t.rows.getD r []) ((t.rows.getD r []).getD c pr0)) ((t.rows.getD i []).getD c pr0):=λi hi=>by
  unfold PT.pivot;exact Jbt [] [] _ (by rw[h.ok.rows];exact hi)
 have O:=λi (hi:i<t.m)=>Jcl (h.ok.row i hi) dk ((h.ok.row i hi).2 c U);have J:=Jcl h.ok.goal dk (h.ok.goal.2 c U);refine⟨⟨?_,λi hi=>?_,J.1,?_⟩,λi j hi hj=>?_,λi hi=>?_,λj hj=>?_,?_,λi hi=>?_⟩
 .simp only[PT.pivot,List.length_mapIdx];exact h.ok.rows
 .have u:i<t.m:=hi;rw[B i u];by_cases e:i=r
  .rw[if_pos e];exact dk
  rw[if_neg e];exact(O i u).1
 .simp only[PT.pivot,List.length_set];exact h.ok.basis
 .have u:i<t.m:=hi;have y:j<t.n+t.m:=hj;rw[B i u];simp only[QT.pivot];by_cases e:i=r
  .rw[if_pos e,if_pos e,dv j (G j y),h.a r j hr y]
  rw[if_neg e,if_neg e,(O i u).2 j (G j y),h.a i j u y,h.a i c u hc,dv j (G j y),h.a r j hr y]
 .have u:i<t.m:=hi;rw[B i u];simp only[QT.pivot];have er:(t.pivot r c).right=t.right:=rfl;rw[er];by_cases e:i=r
  .rw[if_pos e,if_pos e,dv _ D,h.b r hr]
  rw[if_neg e,if_neg e,(O i u).2 _ D,h.b i u,h.a i c u hc,dv _ D,h.b r hr]
 .have y:j<t.n+t.m:=hj;simp only[QT.pivot];exact(J.2 j (G j y)).trans (by rw[h.g j y,h.g c hc,dv j (G j y),h.a r j hr y])
 .simp only[QT.pivot];exact(J.2 _ D).trans (by rw[h.z,h.g c hc,dv _ D,h.b r hr])
 have u:i<t.m:=hi;simp only[QT.pivot,PT.pivot];rw[Qtq (by rw[h.ok.basis];exact u),h.β i u]
theorem Qqf{t:PT}{T:QT}{c:Nat}(h:Agr t T)(hc:c<t.n+t.m): ∀ k,k<=t.m->match lvS t c k with
  | none=>∀ i,i<k->¬ 0<T.a i c
  | some (r,q)=>r<k/\0<T.a r c/\q.den≠0/\q.val=T.b r / T.a r c/\∀ i,i<k->0<T.a i c->T.b r / T.a r c<=T.b i / T.a i c/\(T.b i / T.a i c=T.b r / T.a r c->T.β r<=T.β i)
 | 0,_=>by simp only[lvS];intro i hi;omega
 | k+1,hk=>by
  have ih:=Qqf h hc k om;have hR:=h.ok.row k om;have hcR:c<t.right+1:=by unfold PT.right;omega
  have hrR:t.right<t.right+1:=om
  have ha:=h.a k c om hc;have hb:=h.b k om;have hs:=PR.sign_val (hR.2 c hcR);rw[ha]at hs;simp only[lvS];by_cases e:((t.rows.getD k []).getD c pr0).sign<=0
  .rw[if_pos e];have hn:¬ 0<T.a k c:=λhp=>by have:=hs.2.2.2 hp;omega
   cases hl:lvS t c k with
   | none=>
    rw[hl]at ih;intro i hi;by_cases ei:i=k
    .rw[ei];exact hn
    exact ih i om
   | some p=>
    obtain⟨r,q⟩:=p;rw[hl]at ih;obtain⟨h1,h2,h3,h4,h5⟩:=ih;refine⟨om,h2,h3,h4,λi hi hp=>?_⟩;by_cases ei:i=k
    .rw[ei]at hp;exact absurd hp hn
    exact h5 i om hp
  rw[if_neg e];have hp:0<T.a k c:=hs.2.2.1 om;have hq:=PR.div_val (hR.2 t.right hrR) (hR.2 c hcR) (by rw[ha];grind);rw[ha,hb]at hq;cases hl:lvS t c k with
  | none=>
   rw[hl]at ih;refine⟨om,hp,hq.2,hq.1,λi hi hpi=>?_⟩;by_cases ei:i=k
   .subst ei;exact⟨by grind,λ_=>Nat.le_refl _⟩
   exact absurd hpi (ih i om)
  | some p=>
   obtain⟨r,q⟩:=p;rw[hl]at ih;obtain⟨h1,h2,h3,h4,h5⟩:=ih;have hcv:=PR.cmp_val hq.2 h3;rw[hq.1,h4]at hcv;simp only[];by_cases e2:PR.cmp (PR.div ((t.rows.getD k []).getD t.right pr0) ((t.rows.getD k []).getD c pr0)) q<0∨(PR.cmp (PR.div ((t.rows.getD k []).getD t.right pr0) ((t.rows.getD k []).getD c pr0)) q=0/\t.basis.getD k 0<t.basis.getD r 0)
   .rw[if_pos e2];rw[hcv.1,hcv.2,h.β k om,h.β r om]at e2;refine⟨om,hp,hq.2,hq.1,λi hi hpi=>?_⟩;by_cases ei:i=k
    .subst ei;exact⟨by grind,λ_=>Nat.le_refl _⟩
    obtain⟨k1,k2⟩:=h5 i om hpi;rcases e2 with e2|⟨e2,e3⟩
    .exact⟨by grind,λhe=>by exfalso;grind⟩
    refine⟨by grind,λhe=>?_⟩;have:=k2 (by grind);omega
   rw[if_neg e2];rw[hcv.1,hcv.2,h.β k om,h.β r om]at e2;refine⟨om,h2,h3,h4,λi hi hpi=>?_⟩;by_cases ei:i=k
   .subst ei;have k1:¬ T.b i / T.a i c<T.b r / T.a r c:=λhh=>e2 (.inl hh);exact⟨by grind,λhe=>by
     rcases Nat.lt_or_ge (T.β i) (T.β r) with hh|hh
     .exact absurd (.inr ⟨he,hh⟩) e2
     exact hh⟩
   exact h5 i om hpi
theorem Qzv(h:Agr t T)(hc:cols<=t.n+t.m): match t.enter cols with
  | none=>∀ j,j<cols->0<=T.g j
  | some c=>c<cols/\T.g c<0/\∀ j,j<c->0<=T.g j:=by
 have u:∀ j,j<cols->((t.goal.getD j pr0).sign<0↔T.g j<0):=λj i=>by
  have:=(PR.sign_val (h.ok.goal.2 j (by unfold PT.right;omega))).1;rw[h.g j om]at this;exact this
 cases hl:t.enter cols with
 | none=>
  intro j i;unfold PT.enter at hl;have:=List.find?_eq_none.1 hl j (List.mem_range.2 i);simp only[decide_eq_true_eq]at this;rw[u j i]at this;grind
 | some c=>
  unfold PT.enter at hl;rw[List.find?_range_eq_some]at hl;obtain⟨B,y,D⟩:=hl;simp only[decide_eq_true_eq,List.mem_range]at B y;refine⟨y,(u c y).1 B,λj i=>?_⟩;have:=D j i;simp only[Bool.not_eq_true',decide_eq_false_iff_not]at this;rw[u j om]at this;grind
def Bnd(m n:Nat)(T0:QT): Prop:=∀ S,WF m n S->Kf m S->Eqv m n T0 S->Eqv m n S T0->∀ c,c<n->S.g c<0->∃ i,i<m/\0<S.a i c
open Bl
variable {A:List (List PR)}{n:Nat}
namespace Bl
variable {k m n:Nat}{A:Nat->Nat->Rat}{f:Nat->Rat}
theorem Jvt(h:∀ j,j<n->0<=f j): 0<=Jk n f:=by
 induction n with
 | zero=>simp[Jk]
 | succ n ih=>
  have y:=ih λj i=>h j om;have u:=h n om;rw[Jk];grind
theorem Jpp(h:∀ j,j<n->0<=f j)(hk:k<n): f k<=Jk n f:=by
 induction n with
 | zero=>omega
 | succ n ih=>
  have y:=Jvt (n:=n) (f:=f) λj i=>h j om;have u:=h n om;rw[Jk];by_cases e:k=n
  .subst e;grind
  have:=ih (λj i=>h j om) om;grind
theorem Qjl{a b:Rat}(ha:0<=a)(hb:0<=b): 0<=a*b:=Rat.mul_nonneg ha hb
def pck(n:Nat)(A:Nat->Nat->Rat): QT:=⟨λi j=>if j<n then A i j else if j-n=i then 1 else 0,λ_=>1,λj=>if j<n then -1 else 0,0,λi=>n+i⟩
theorem Jjp(n m:Nat)(A:Nat->Nat->Rat): WF m (n+m) (pck n A):=by
 refine⟨λi hi=>by simp only[pck];omega,λi k hi j=>?_,λi hi=>?_⟩
 .simp only[pck];rw[if_neg om,show n+i-n=i by omega];by_cases e:k=i
  .rw[if_pos e,if_pos e.symm]
  rw[if_neg e,if_neg (λh=>e h.symm)]
 simp only[pck];rw[if_neg om]
theorem Jtm(n m:Nat)(A:Nat->Nat->Rat): Kf m (pck n A):=λi hi=>by simp only[pck];grind
theorem Qlp(h0:∀ i j,i<m->j<n->0<=A i j)(h1:∀ j,j<n->∃ i,i<m/\A i j=1): Bnd m (n+m) (pck n A):=λS O B he Z c D hg=>by
 rcases Classical.em (∃ i,i<m/\0<S.a i c) with h|h
 .exact h
 exfalso
 have J:=Z.sol _ (Uf O D 2);have y:∀ j,0<=S.pt m c 2 j:=λj=>by
  unfold QT.pt;have:0<=Jk m λi=>if S.β i=j then S.b i-S.a i c*2 else 0:=Jvt λi hi=>by
   split
   .have G:=B i hi;have u:S.a i c<=0:=by
     rcases Rat.le_total (a:=S.a i c) (b:=0) with k|k
     .exact k
     by_cases e:S.a i c=0
     .grind
     exact absurd ⟨i,hi,by grind⟩ h
    grind
   grind
  split<;>grind
 have U:2<=S.pt m c 2 c:=by
  unfold QT.pt;have:0<=Jk m λi=>if S.β i=c then S.b i-S.a i c*2 else 0:=Jvt λi hi=>by
   split
   .have G:=B i hi;have u:S.a i c<=0:=by
     rcases Rat.le_total (a:=S.a i c) (b:=0) with k|k
     .exact k
     by_cases e:S.a i c=0
     .grind
     exact absurd ⟨i,hi,by grind⟩ h
    grind
   grind
  rw[if_pos rfl];grind
 have key:∀ i,i<m->(pck n A).a i c=1->False:=λi hi e=>by
  have k:=J i hi;have u:(pck n A).a i c*S.pt m c 2 c<=Jk (n+m) λj=>(pck n A).a i j*S.pt m c 2 j:=Jpp (f:=λj=>(pck n A).a i j*S.pt m c 2 j) (λj hj=>Qjl (by
   simp only[pck];split
   .rename_i hj2;exact h0 i j hi hj2
   split<;>grind) (y j)) D
  rw[k,e]at u;simp only[pck]at u;grind
 by_cases e:c<n
 .obtain⟨i,hi,e1⟩:=h1 c e;exact key i hi (by simp only[pck];rw[if_pos e,e1])
 exact key (c-n) om (by simp only[pck];rw[if_neg e];simp)
theorem Qmg{S:QT}(hw:WF m (n+m) S)(he:Eqv m (n+m) (pck n A) S)(hn:0<n+m)(hg:∀ j,j<n+m->0<=S.g j): (∀ j,j<n->1<=Jk m λi=>S.g (n+i)*A i j)/\S.z=Jk m λi=>S.g (n+i):=by
 refine⟨λj y=>?_,?_⟩
 .have h:=Jkk (Jjp n m A) he (s:=j) om;have B:=hg j om;simp only[pck,if_pos y]at h;grind
 have u:=he.val _ (Uf (Jjp n m A) (s:=0) hn 0);rw[Jxd (Jjp n m A) hn]at u;unfold QT.val at u;rw[Ke (Jjp n m A) hn 0 S.g,Zb (g:=λi=>S.g (n+i)) λi hi=>by simp only[pck];grind]at u;simp only[pck]at u;grind
end Bl
def Zj(A:List (List PR)): Nat->Nat->Rat:=λi j=>((A.getD i []).getD j pr0).val
theorem Jwh{α:Type}(d:α)(l k:List α)(j:Nat): (l++k).getD j d=if j<l.length then l.getD j d else k.getD (j-l.length) d:=by
 by_cases h:j<l.length
 .rw[if_pos h];simp[List.getD,List.getElem?_append_left h]
 rw[if_neg h];simp[List.getD,List.getElem?_append_right (Nat.le_of_not_lt h)]
theorem Jym: (PR.int 1).val=1:=by decide +kernel
theorem Jsv: (PR.int (-1)).val = -1:=by decide +kernel
theorem Ko: pr0.val=0:=by decide +kernel
theorem Jkt: ∀ i,i<A.length->(PT.ofP n A).rows.getD i []=A.getD i []++(List.range A.length).map (λk=>if k=i then PR.int 1 else pr0)++[PR.int (-1),PR.int 1]:=λi hi=>by
 unfold PT.ofP;exact Jbt [] [] _ hi
theorem Jxm(hA:∀ i,i<A.length->ROk n (A.getD i [])): ∀ i j,i<A.length->((PT.ofP n A).rows.getD i []).getD j pr0=if j<n then(A.getD i []).getD j pr0 else if j<n+A.length then(if j-n=i then PR.int 1 else pr0) else if j=n+A.length then PR.int (-1) else if j=n+A.length+1 then PR.int 1 else pr0:=λi j hi=>by
 have u:=(hA i hi).1;rw[Jkt i hi,Jwh];simp only[List.length_append,u,List.length_map,List.length_range];by_cases h1:j<n
 .rw[if_pos om,if_pos h1,Jwh,u,if_pos h1]
 rw[if_neg h1];by_cases h2:j<n+A.length
 .rw[if_pos h2,if_pos h2,Jwh,u,if_neg h1,Qv pr0 (by simp;omega)];simp
 rw[if_neg h2,if_neg h2];by_cases h3:j=n+A.length
 .rw[if_pos h3,h3,Nat.sub_self];rfl
 rw[if_neg h3];by_cases h4:j=n+A.length+1
 .rw[if_pos h4,h4,show n+A.length+1-(n+A.length)=1 by omega];rfl
 rw[if_neg h4];obtain⟨d,y⟩:∃ d,j-(n+A.length)=d+2:=⟨j-(n+A.length)-2,om⟩;rw[y];rfl
theorem Jyt: ∀ j,(PT.ofP n A).goal.getD j pr0=if j<n then PR.int (-1) else pr0:=λj=>by
 simp only[PT.ofP];rw[Jwh,List.length_replicate];by_cases h1:j<n
 .rw[if_pos h1,if_pos h1,Qv pr0 (by simpa using h1)];simp
 rw[if_neg h1,if_neg h1];by_cases h2:j-n<A.length+2
 .rw[Qv pr0 (by simpa using h2)];simp
 simp[List.getD,List.getElem?_eq_none (show(List.replicate (A.length+2) pr0).length<=j-n by simp;omega)]
theorem Qnb(hA:∀ i,i<A.length->ROk n (A.getD i [])): Agr (PT.ofP n A) (pck n (Zj A)):=by
 have G:=Jkt (n:=n) (A:=A);have B:=Jxm hA;have y:=Jyt (n:=n) (A:=A);have D:pr0.den≠0:=by decide
 refine⟨⟨by simp[PT.ofP],λi hi=>⟨?_,λj J=>?_⟩,⟨by simp[PT.ofP,PT.right];omega,λj J=>?_⟩,by simp[PT.ofP]⟩,λi j hi J=>?_,λi hi=>?_,λj J=>?_,?_,λi hi=>?_⟩
 .have u:i<A.length:=hi;rw[G i u,List.length_append,List.length_append,(hA i u).1];simp[PT.right,PT.ofP]
 .have u:i<A.length:=hi;rw[B i j u];split
  .rename_i h1;exact(hA i u).2 j h1
  split
  .split
   .decide
   exact D
  split
  .decide
  split
  .decide
  exact D
 .rw[y];split
  .decide
  exact D
 .have u:i<A.length:=hi;have O:j<n+A.length:=J;rw[B i j u];simp only[pck];by_cases h1:j<n
  .rw[if_pos h1,if_pos h1];rfl
  rw[if_neg h1,if_pos O,if_neg h1];split
  .exact Jym
  exact Ko
 .have u:i<A.length:=hi;rw[B i _ u];have e:(PT.ofP n A).right=n+A.length+1:=rfl;rw[e,if_neg om,if_neg om,if_neg om,if_pos rfl];exact Jym
 .rw[y];simp only[pck];split
  .exact Jsv
  exact Ko
 .have e:(PT.ofP n A).right=n+A.length+1:=rfl;rw[y,e,if_neg om];exact Ko
 have u:i<A.length:=hi;simp only[PT.ofP,pck];rw[Qv 0 (by simpa using u)];simp
end Go.Proofs.YtebiphhfkdbpfaaGreatDoor
namespace Go.Proofs.YtebiphhfkdbpfaaGreatDoor.Bl
variable {j k l m n:Nat}{b f x:Nat->Rat}
abbrev MQ:= Nat->Nat->Rat
def Qt(k:Nat)(M:MQ): MQ:=λi j=>M (i+1) (if j<k then j else j+1)
def sg(j:Nat): Rat:=if j % 2=0 then 1 else -1
def det: Nat->MQ->Rat
 | 0,_=>1
 | m+1,M=>Jk (m+1) λj=>sg j*M 0 j*det m (Qt j M)
theorem Qff(k:Nat): sg (k+1) = -sg k:=by
 unfold sg;by_cases h:k % 2=0
 .rw[if_pos h,if_neg om]
 rw[if_neg h,if_pos om];grind
theorem Jwt: ∀ {m:Nat} {M N:MQ},(∀ i j,i<m->j<m->M i j=N i j)->det m M=det m N
 | 0,_,_,_=>rfl
 | m+1,M,N,h=>by
  rw[det,det];refine Zb λj hj=>?_;rw[h 0 j om hj,Jwt (m:=m) (M:=Qt j M) (N:=Qt j N) λi k hi hk=>by
   unfold Qt;split<;>exact h _ _ om om]
def Jo(M:MQ)(k:Nat)(v:Nat->Rat): MQ:=λi j=>if j=k then v i else M i j
theorem Jhz(M:MQ)(k:Nat)(v:Nat->Rat): Qt k (Jo M k v)=Qt k M:=by
 funext i j
 simp only[Qt,Jo];rw[if_neg (by split<;>omega)]
theorem Jlb(M:MQ)(h:j≠k)(v:Nat->Rat): Qt j (Jo M k v)=Jo (Qt j M) (if k<j then k else k-1) (λi=>v (i+1)):=by
 funext i l
 simp only[Qt,Jo];by_cases e:l=if k<j then k else k-1
 .rw[if_pos e,if_pos (by split at e<;>split<;>omega)]
 rw[if_neg e,if_neg (by split at e<;>split<;>omega)]
theorem Jqc: ∀ {m:Nat} (M:MQ) {k:Nat} (hk:k<m) (u w:Nat->Rat) (s:Rat),det m (Jo M k λi=>u i+s*w i)=det m (Jo M k u)+s*det m (Jo M k w)
 | 0,_,_,hk,_,_,_=>by omega
 | m+1,M,k,hk,u,w,s=>by
  rw[det,det,det,<-Yh,<-Jvw];refine Zb λj hj=>?_;by_cases e:j=k
  .subst e;rw[Jhz,Jhz,Jhz];simp only[Jo,if_true];grind
  rw[Jlb M e,Jlb M e,Jlb M e,Jqc (m:=m) (Qt j M) (k:=if k<j then k else k-1) (by split<;>omega) (λi=>u (i+1)) (λi=>w (i+1)) s];simp only[Jo,if_neg e];grind
theorem Qcz(hk:k+1<n)(h:∀ j,j<n->j≠k->j≠k+1->f j=0): Jk n f=f k+f (k+1):=by
 induction n with
 | zero=>omega
 | succ n ih=>
  rw[Jk];by_cases e:n=k+1
  .subst e;rw[Gk (c:=k) om λj u i=>h j om i om]
  rw[ih om λj u B y=>h j om B y,h n om om om];grind
theorem Jch: ∀ {m:Nat} {M:MQ} {k:Nat},k+1<m->(∀ i,i<m->M i k=M i (k+1))->det m M=0
 | 0,_,_,hk,_=>by omega
 | m+1,M,k,hk,h=>by
  rw[det,Qcz (k:=k) hk]
  .have e:det m (Qt k M)=det m (Qt (k+1) M):=Jwt λi j hi hj=>by
    simp only[Qt];by_cases e1:j<k
    .rw[if_pos e1,if_pos om]
    by_cases e2:j=k
    .subst e2;rw[if_neg e1,if_pos om];exact(h (i+1) om).symm
    rw[if_neg e1,if_neg om]
   rw[e,Qff,h 0 om];grind
  intro j hj h1 h2;have:det m (Qt j M)=0:=by
   by_cases e:j<k
   .refine Jch (k:=k-1) om λi hi=>?_;simp only[Qt];rw[if_neg om,if_neg om,show k-1+1=k by omega];exact h (i+1) om
   refine Jch (k:=k) om λi hi=>?_;simp only[Qt];rw[if_pos om,if_pos om];exact h (i+1) om
  rw[this];grind
theorem Jds(M:MQ)(k:Nat): Jo M k (λi=>M i k)=M:=by
 funext i j;simp only[Jo];split
 .rename_i h;rw[h]
 rfl
theorem Jqw(M:MQ)(h:k≠l)(u w:Nat->Rat): Jo (Jo M k u) l w=Jo (Jo M l w) k u:=by
 funext i j;simp only[Jo]
 by_cases e:j=l
 .rw[if_pos e,if_neg om,if_pos e]
 rw[if_neg e];split<;>rfl
theorem Xqm(M:MQ)(hk:k+1<m)(u w:Nat->Rat): det m (Jo (Jo M k u) (k+1) w) = -det m (Jo (Jo M k w) (k+1) u):=by
 have z:∀ v:Nat->Rat,det m (Jo (Jo M k v) (k+1) v)=0:=λv=>Jch hk λi hi=>by simp[Jo]
 have h:=z (λi=>u i+1*w i);rw[Jqc _ hk,Jqw M om _ u,Jqw M om _ w,Jqc _ om,Jqc _ om]at h;rw[Jqw (k:=k+1) (l:=k) M om u u,Jqw (k:=k+1) (l:=k) M om w w,Jqw (k:=k+1) (l:=k) M om u w,Jqw (k:=k+1) (l:=k) M om w u,z,z]at h;grind
theorem Jlf{m:Nat}: ∀ {d:Nat} {M:MQ} {k:Nat},k+1+d<m->(∀ i,i<m->M i k=M i (k+1+d))->det m M=0
 | 0,M,k,hk,h=>Jch hk h
 | d+1,M,k,hk,h=>by
  have e:M=Jo (Jo M (k+1+d) λi=>M i (k+1+d)) (k+1+d+1) λi=>M i (k+1+d+1):=by
   rw[Jds,Jds]
  rw[e,Xqm M om];rw[Jlf (d:=d) (k:=k) om λi hi=>by
   simp only[Jo];rw[if_neg om,if_neg om,if_neg om,if_pos trivial];exact h i hi]
  grind
theorem Xqp{M:MQ}(hk:k<m)(hl:l<m)(hne:k≠l)(h:∀ i,i<m->M i k=M i l): det m M=0:=by
 rcases Nat.lt_or_gt_of_ne hne with e|e
 .exact Jlf (d:=l-k-1) (k:=k) om λi hi=>by rw[show k+1+(l-k-1)=l by omega];exact h i hi
 exact Jlf (d:=k-l-1) (k:=l) om λi hi=>by rw[show l+1+(k-l-1)=k by omega];exact(h i hi).symm
theorem Ic{M:MQ}(hk:k<m)(h:∀ i,i<m->Jk m (λj=>M i j*x j)=b i): det m (Jo M k b)=x k*det m M:=by
 have z0:det m (Jo M k λ_=>0)=0:=by
  have h0:=Jqc M hk (λ_=>0) (λ_=>0) 1;have e:(λ_:Nat=>(0:Rat)+1*0)=λ_=>0:=by funext i;grind
  rw[e]at h0;grind
 have key:∀ J,J<=m->det m (Jo M k λi=>Jk J λj=>M i j*x j)=Jk J λj=>x j*det m (Jo M k λi=>M i j):=by
  intro J;induction J with
  | zero=>intro _;simp only[Jk];exact z0
  | succ J ih=>
   intro B;simp only[Jk];rw[<-ih om,<-Jqc M hk];congr 2;funext i;grind
 have e:det m (Jo M k b)=det m (Jo M k λi=>Jk m λj=>M i j*x j):=Jwt λi j hi y=>by
  simp only[Jo];split
  .exact(h i hi).symm
  rfl
 rw[e,key m (Nat.le_refl _),Gk hk,Jds];intro j y u;rw[Xqp (k:=k) (l:=j) hk y (λh=>u h.symm) λi hi=>by
  simp only[Jo,if_true];rw[if_neg u]]
 grind
end Go.Proofs.YtebiphhfkdbpfaaGreatDoor.Bl
namespace Go.Proofs.YtebiphhfkdbpfaaGreatDoor.Bl
variable {B C c i k r:Nat}{S T0:QT}{p q:Rat}
variable {m n:Nat}
def fct: Nat->Nat
 | 0=>1
 | m+1=>(m+1)*fct m
def isI(q:Rat)(B:Nat): Prop:=∃ z:Int,q=z/\z.natAbs<=B
theorem isI.mono(h:isI q B)(hc:B<=C): isI q C:=by
 obtain⟨z,e,i⟩:=h;exact⟨z,e,om⟩
theorem isI.mul(h:isI p B)(k:isI q C): isI (p*q) (B*C):=by
 obtain⟨z,rfl,i⟩:=h;obtain⟨w,rfl,j⟩:=k;exact⟨z*w,by rw[Rat.intCast_mul],by rw[Int.natAbs_mul];exact Nat.mul_le_mul i j⟩
theorem isI.add(h:isI p B)(k:isI q C): isI (p+q) (B+C):=by
 obtain⟨z,rfl,i⟩:=h;obtain⟨w,rfl,j⟩:=k;exact⟨z+w,by rw[Rat.intCast_add],om⟩
theorem isI.neg(h:isI p B): isI (-p) B:=by
 obtain⟨z,rfl,i⟩:=h;exact⟨-z,by rw[Rat.intCast_neg],om⟩
theorem Jwg{f:Nat->Rat}(h:∀ j,j<k->isI (f j) B): isI (Jk k f) (k*B):=by
 induction k with
 | zero=>exact⟨0,rfl,by simp⟩
 | succ k ih=>
  have:=(ih λj i=>h j om).add (h k om);rw[Nat.succ_mul];exact this
theorem Jbn(j:Nat): isI (sg j) 1:=by
 unfold sg;split
 .exact⟨1,rfl,by simp⟩
 exact⟨-1,rfl,by simp⟩
theorem Gc: ∀ {m:Nat} {M:MQ},(∀ i j,i<m->j<m->isI (M i j) 1)->isI (det m M) (fct m)
 | 0,_,_=>⟨1,rfl,by simp[fct]⟩
 | m+1,M,h=>by
  rw[det,fct];refine Jwg λj hj=>?_;have h1:=((Jbn j).mul (h 0 j om hj)).mul (Gc (m:=m) (M:=Qt j M) λi k hi hk=>by
   unfold Qt;split<;>exact h _ _ om om)
  exact h1.mono (by simp)
theorem Qkj: ∀ {m:Nat} {M:MQ},(∀ i j,i<m->j<m->M i j=if i=j then 1 else 0)->det m M=1
 | 0,_,_=>rfl
 | m+1,M,h=>by
  rw[det,Gk (c:=0) om]
  .rw[Qkj (m:=m) (M:=Qt 0 M) λi j hi hj=>by
    simp only[Qt];rw[if_neg om,h _ _ om om];by_cases e:i=j
    .rw[if_pos e,if_pos om]
    rw[if_neg e,if_neg om],h 0 0 om om]
   simp[sg]
  intro j hj hne;rw[h 0 j om hj,if_neg (λh=>hne h.symm)];grind
def bas(T0 S:QT): MQ:=λi k=>T0.a i (S.β k)
theorem Ih(hw:WF m n S)(he:Eqv m n S T0)(hc:c<n)(hi:i<m): Jk m (λk=>bas T0 S i k*S.a k c)=T0.a i c/\Jk m (λk=>bas T0 S i k*S.b k)=T0.b i:=by
 have h0:=he.sol _ (Uf hw hc 0) i hi;have j:=he.sol _ (Uf hw hc 1) i hi;rw[Ke hw hc]at h0 j;have e:Jk m (λk=>T0.a i (S.β k)*(S.b k-S.a k c*1))=Jk m (λk=>T0.a i (S.β k)*(S.b k-S.a k c*0))-1*Jk m (λk=>T0.a i (S.β k)*S.a k c):=by
  rw[<-Jkg];congr 1;funext k;grind
 have u:Jk m (λk=>T0.a i (S.β k)*(S.b k-S.a k c*0))=Jk m (λk=>T0.a i (S.β k)*S.b k):=by
  congr 1;funext k;grind
 rw[e]at j;rw[u]at h0 j;unfold bas;exact⟨by grind,by grind⟩
theorem Xqn(hw:WF m n S)(he:Eqv m n S T0)(hr:r<m)(hc:c<n): det m (bas T0 (S.pivot r c))=S.a r c*det m (bas T0 S):=by
 rw[<-Ic (M:=bas T0 S) (x:=λk=>S.a k c) (b:=λi=>T0.a i c) hr λi hi=>(Ih hw he hc hi).1];refine Jwt λi j hi u=>?_;simp only[bas,Jo,QT.pivot];split<;>rfl
def isQ(q:Rat)(B D:Nat): Prop:=∃ a d:Rat,isI a B/\isI d D/\d≠0/\q=a / d
theorem Xjm(h0:∀ i j,i<m->j<n->isI (T0.a i j) 1)(h1:∀ i,i<m->isI (T0.b i) 1)(hw:WF m n S)(he:Eqv m n S T0)(hd:det m (bas T0 S)≠0)(hn:0<n): (∀ k c,k<m->c<n->isQ (S.a k c) (fct m) (fct m))/\∀ k,k<m->isQ (S.b k) (fct m) (fct m):=by
 have B:∀ i j,i<m->j<m->isI (bas T0 S i j) 1:=λi j hi u=>h0 i _ hi (hw.lt j u);have G:=Gc B;refine⟨λk c y D=>⟨_,_,Gc (M:=Jo (bas T0 S) k λi=>T0.a i c) λi j hi u=>?_,G,hd,?_⟩,λk y=>⟨_,_,Gc (M:=Jo (bas T0 S) k λi=>T0.b i) λi j hi u=>?_,G,hd,?_⟩⟩
 .simp only[Jo];split
  .exact h0 i c hi D
  exact B i j hi u
 .rw[Ic (x:=λk=>S.a k c) y λi hi=>(Ih hw he D hi).1];grind
 .simp only[Jo];split
  .exact h1 i hi
  exact B i j hi u
 rw[Ic (x:=λk=>S.b k) y λi hi=>(Ih hw he hn hi).2];grind
theorem Qgs(h0:∀ i j,i<m->j<n->isI (T0.a i j) 1)(h2:∀ j,j<n->isI (T0.g j) 1)(hw:WF m n S)(he:Eqv m n S T0)(hd:det m (bas T0 S)≠0): ∀ c,c<n->isQ (S.g c) (fct (m+1)) (fct m):=λc u=>by
 have J:∀ i j,i<m->j<m->isI (bas T0 S i j) 1:=λi j hi D=>h0 i _ hi (hw.lt j D);have G:=Gc J;refine⟨T0.g c*det m (bas T0 S) + -(Jk m λk=>T0.g (S.β k)*det m (Jo (bas T0 S) k λi=>T0.a i c)),_,?_,G,hd,?_⟩
 .refine(((h2 c u).mul G).add (Jwg (B:=fct m) λk y=>?_).neg).mono (by rw[fct,Nat.add_mul];omega);exact((h2 _ (hw.lt k y)).mul (Gc λi j hi D=>by
   simp only[Jo];split
   .exact h0 i c hi u
   exact J i j hi D)).mono (by simp)
 have h:=Jkk hw he u;rw[Zb (g:=λk=>det m (bas T0 S)*(T0.g (S.β k)*S.a k c)) λk y=>by
  rw[Ic (x:=λk=>S.a k c) y λi hi=>(Ih hw he u hi).1];grind]
 rw[Yh];grind
end Go.Proofs.YtebiphhfkdbpfaaGreatDoor.Bl
namespace Go.Proofs.YtebiphhfkdbpfaaGreatDoor
open Bl
variable {B D c k r:Nat}
structure PR.Nrm(a:PR): Prop where
 den:a.den≠0
 cop:Nat.gcd a.num a.den=1
 sgn:a.num=0->a.neg=false
theorem PR.norm_nrm{a:PR}(h:a.den≠0): a.norm.Nrm:=by
 refine⟨(PR.norm_val h).2,?_,?_⟩
 .unfold PR.norm;split
  .simp
  rename_i h1;have i:0<Nat.gcd a.num a.den:=Nat.gcd_pos_of_pos_left _ om;simp only;rw[Nat.gcd_div (Nat.gcd_dvd_left _ _) (Nat.gcd_dvd_right _ _),Nat.div_self i]
 unfold PR.norm;split
 .intro e;simp only at e ⊢;rw[e];simp
 rename_i h1;intro e;simp only at e;obtain⟨x,j⟩:=Nat.gcd_dvd_left a.num a.den;have i:0<Nat.gcd a.num a.den:=Nat.gcd_pos_of_pos_left _ om;rw[Nat.div_eq_zero_iff]at e;have:=Nat.le_of_dvd om (Nat.gcd_dvd_left a.num a.den);omega
theorem PR.int_nrm(z:Int): (PR.int z).Nrm:=⟨by simp[PR.int],by simp[PR.int],λe=>by
 simp only[PR.int]at e ⊢;simp only[decide_eq_false_iff_not];omega⟩
theorem Jxf: pr0.Nrm:=⟨by decide,by decide,λ_=>rfl⟩
theorem PR.Nrm.norm{a:PR}(h:a.Nrm): a.norm=a:=by
 unfold PR.norm;by_cases e:a.num=0
 .rw[if_pos (.inl e)];have i:=h.cop;rw[e,Nat.gcd_zero_left]at i;have j:=h.sgn e;cases a;simp_all
 rw[if_neg (by have:=h.den;omega),h.cop];simp
theorem PR.addN_nrm{a b:PR}(ha:a.den≠0)(hb:b.den≠0): (PR.addN a b).Nrm:=by
 have i:a.den*b.den≠0:=Nat.mul_ne_zero ha hb;unfold PR.addN;split
 .exact PR.norm_nrm i
 split<;>exact PR.norm_nrm i
theorem PR.sub_nrm{a b:PR}(ha:a.den≠0)(hb:b.den≠0): (PR.sub a b).Nrm:=PR.addN_nrm (PR.norm_val ha).2 (PR.norm_val (PR.opp_val hb).2).2
theorem PR.mul_nrm{a b:PR}(ha:a.den≠0)(hb:b.den≠0): (PR.mul a b).Nrm:=PR.norm_nrm (Nat.mul_ne_zero (PR.norm_val ha).2 (PR.norm_val hb).2)
theorem PR.div_nrm{a b:PR}(ha:a.den≠0)(hb:b.den≠0)(h0:b.val≠0): (PR.div a b).Nrm:=by
 have i:=PR.norm_val hb;have hn:b.norm.num≠0:=λe=>h0 (by
  rw[<-i.1];have:=Vc i.2;simp only[PR.val,e];split<;>grind)
 unfold PR.div;rw[if_neg hn];exact PR.mul_nrm ha hn
theorem PR.Nrm.le{a:PR}(h:a.Nrm)(hq:isQ a.val B D): a.num<=B/\a.den<=D:=by
 obtain⟨_,_,⟨p,rfl,hp⟩,⟨q,rfl,G⟩,h0,i⟩:=hq;have J:q≠0:=λe=>h0 (by rw[e];rfl);have hd:=Vc h.den;have key:∃ z:Int,z.natAbs=a.num/\z*q=p*a.den:=by
  unfold PR.val at i;cases hn:a.neg
  .refine⟨a.num,by simp,?_⟩;rw[hn]at i;simp only[Bool.false_eq_true,if_false]at i;rw[<-Rat.intCast_inj,Rat.intCast_mul,Rat.intCast_mul,Rat.intCast_natCast,Rat.intCast_natCast];grind
  refine⟨-a.num,by simp,?_⟩;rw[hn]at i;simp only[if_true]at i;rw[<-Rat.intCast_inj,Rat.intCast_mul,Rat.intCast_mul,Rat.intCast_neg,Rat.intCast_natCast,Rat.intCast_natCast];grind
 obtain⟨z,y,e⟩:=key;have j:a.num*q.natAbs=p.natAbs*a.den:=by
  rw[<-y,<-Int.natAbs_mul,e,Int.natAbs_mul];simp
 have u:Nat.Coprime a.num a.den:=h.cop;have U:a.den ∣ q.natAbs:=(u.symm).dvd_of_dvd_mul_left (⟨p.natAbs,by rw[j,Nat.mul_comm]⟩);have O:a.num ∣ p.natAbs:=u.dvd_of_dvd_mul_right (⟨q.natAbs,j.symm⟩);have Z:=Nat.le_of_dvd om U;refine⟨?_,om⟩;by_cases ep:p=0
 .rw[ep]at j;have:a.num*q.natAbs=0:=by rw[j];simp
  rcases Nat.mul_eq_zero.1 this with k|k
  .omega
  omega
 have:=Nat.le_of_dvd om O;omega
structure PNm(t:PT): Prop where
 row:∀ i j,i<t.m->j<t.right+1->((t.rows.getD i []).getD j pr0).Nrm
 goal:∀ j,j<t.right+1->(t.goal.getD j pr0).Nrm
theorem Qwr{row other:List PR}{f:PR}(hr:ROk k row)(ho:ROk k other)(hf:f.den≠0)(hn:∀ j,j<k->(row.getD j pr0).Nrm): ∀ j,j<k->((Zl row other f).getD j pr0).Nrm:=λj i=>by
 unfold Zl;split
 .exact hn j i
 have u:(List.zipWith (λa b=>if b.sign≠0 then PR.sub a (PR.mul f b) else a) row other).length=k:=by rw[List.length_zipWith,hr.1,ho.1,Nat.min_self]
 have key:(List.zipWith (λa b=>if b.sign≠0 then PR.sub a (PR.mul f b) else a) row other).getD j pr0=if(other.getD j pr0).sign≠0 then PR.sub (row.getD j pr0) (PR.mul f (other.getD j pr0)) else row.getD j pr0:=by
  rw[Qv pr0 om,Qv pr0 (l:=row) (by rw[hr.1];exact i),Qv pr0 (l:=other) (by rw[ho.1];exact i)];simp
 rw[key];split
 .exact PR.sub_nrm (hr.2 j i) (PR.mul_val hf (ho.2 j i)).2
 exact hn j i
theorem Xjt{row:List PR}{d:PR}(hr:ROk k row)(hd:d.den≠0)(h0:d.val≠0)(hn:∀ j,j<k->(row.getD j pr0).Nrm): ∀ j,j<k->((dvR row d).getD j pr0).Nrm:=λj i=>by
 have key:(dvR row d).getD j pr0=if(row.getD j pr0).sign≠0 then PR.div (row.getD j pr0) d else row.getD j pr0:=by
  have u:(dvR row d).length=k:=by rw[dvR,List.length_map,hr.1]
  rw[Qv pr0 om,Qv pr0 (l:=row) (by rw[hr.1];exact i)];simp[dvR]
 rw[key];split
 .exact PR.div_nrm (hr.2 j i) hd h0
 exact hn j i
theorem Qhz{t:PT}{T:QT}(h:Agr t T)(hn:PNm t)(hr:r<t.m)(hc:c<t.n+t.m)(h0:T.a r c≠0): PNm (t.pivot r c):=by
 have J:=h.ok.row r hr;have y:c<t.right+1:=by unfold PT.right;omega
 have D:((t.rows.getD r []).getD c pr0).val≠0:=by rw[h.a r c hr hc];exact h0
 have O:=(Jhx J (J.2 c y) D).1;refine⟨λi j hi B=>?_,λj B=>Qwr h.ok.goal O (h.ok.goal.2 c y) hn.goal j B⟩;have u:i<t.m:=hi;have G:j<t.right+1:=B;have e:(t.pivot r c).rows.getD i []=if i=r then dvR (t.rows.getD r []) ((t.rows.getD r []).getD c pr0) else Zl (t.rows.getD i []) (dvR (t.rows.getD r []) ((t.rows.getD r []).getD c pr0)) ((t.rows.getD i []).getD c pr0):=by
  unfold PT.pivot;exact Jbt [] [] _ (by rw[h.ok.rows];exact u)
 rw[e];split
 .exact Xjt J (J.2 c y) D (λj B=>hn.row r j hr B) j G
 exact Qwr (h.ok.row i u) O ((h.ok.row i u).2 c y) (λj B=>hn.row i j u B) j G
open Bl
variable {c m n r:Nat}{t:PT}{S T T0:QT}
namespace Bl
theorem z_isQ{m n:Nat}{T0 S:QT}(h0:∀ i j,i<m->j<n->isI (T0.a i j) 1)(h1:∀ i,i<m->isI (T0.b i) 1)(h2:∀ j,j<n->isI (T0.g j) 1)(hz:T0.z=0)(hw:WF m n S)(he:Eqv m n S T0)(hd:det m (bas T0 S)≠0)(hn:0<n): isQ S.z (fct (m+1)) (fct m):=by
 have G:∀ i j,i<m->j<m->isI (bas T0 S i j) 1:=λi j hi D=>h0 i _ hi (hw.lt j D);have u:=he.val _ (Uf hw hn 0);rw[Jxd hw hn]at u;unfold QT.val at u;rw[Ke hw hn 0 T0.g,hz]at u;have e:Jk m (λk=>T0.g (S.β k)*(S.b k-S.a k 0*0))=Jk m λk=>T0.g (S.β k)*S.b k:=by congr 1;funext k;grind
 rw[e]at u;refine⟨-(Jk m λk=>T0.g (S.β k)*det m (Jo (bas T0 S) k λi=>T0.b i)),_,?_,Gc G,hd,?_⟩
 .refine(Jwg (B:=fct m) λk y=>?_).neg.mono (by rw[fct,Nat.add_mul];omega);exact((h2 _ (hw.lt k y)).mul (Gc λi j hi D=>by
   simp only[Jo];split
   .exact h1 i hi
   exact G i j hi D)).mono (by simp)
 rw[Zb (g:=λk=>det m (bas T0 S)*(T0.g (S.β k)*S.b k)) λk y=>by
  rw[Ic (x:=λk=>S.b k) y λi hi=>(Ih hw he hn hi).2];grind]
 rw[Yh];grind
theorem isQ.neg{q:Rat}{B D:Nat}(h:isQ q B D): isQ (-q) B D:=by
 obtain⟨a,d,j,i,h0,e⟩:=h;exact⟨-a,d,j.neg,i,h0,by rw[e];grind⟩
theorem isQ.mono{q:Rat}{B C D:Nat}(h:isQ q B D)(k:B<=C): isQ q C D:=by
 obtain⟨a,d,j,i,h0,e⟩:=h;exact⟨a,d,j.mono k,i,h0,e⟩
theorem Jcb(m:Nat): fct m<=fct (m+1):=by rw[fct,Nat.add_mul];omega
end Bl
structure Art(t:PT): Prop where
 row:∀ i,i<t.m->((t.rows.getD i []).getD (t.n+t.m) pr0).val = -((t.rows.getD i []).getD t.right pr0).val
 goal:(t.goal.getD (t.n+t.m) pr0).val = -(t.goal.getD t.right pr0).val
theorem Xwz(h:Agr t T)(ha:Art t)(hr:r<t.m)(hc:c<t.n+t.m)(h0:T.a r c≠0): Art (t.pivot r c):=by
 have J:=h.ok.row r hr;have B:c<t.right+1:=by unfold PT.right;omega
 have u:t.right<t.right+1:=om
 have j:t.n+t.m<t.right+1:=by unfold PT.right;omega
 have D:((t.rows.getD r []).getD c pr0).val≠0:=by rw[h.a r c hr hc];exact h0
 obtain⟨O,dv⟩:=Jhx J (J.2 c B) D;have G:=Jcl h.ok.goal O (h.ok.goal.2 c B);refine⟨λi hi=>?_,?_⟩
 .have y:i<t.m:=hi;have e:(t.pivot r c).rows.getD i []=if i=r then dvR (t.rows.getD r []) ((t.rows.getD r []).getD c pr0) else Zl (t.rows.getD i []) (dvR (t.rows.getD r []) ((t.rows.getD r []).getD c pr0)) ((t.rows.getD i []).getD c pr0):=by
   unfold PT.pivot;exact Jbt [] [] _ (by rw[h.ok.rows];exact y)
  have U:(t.pivot r c).right=t.right:=rfl;have es:(t.pivot r c).n+(t.pivot r c).m=t.n+t.m:=rfl;rw[e,U,es];split
  .rw[dv _ j,dv _ u,ha.row r hr];grind
  have hc:=Jcl (h.ok.row i y) O ((h.ok.row i y).2 c B);rw[hc.2 _ j,hc.2 _ u,dv _ j,dv _ u,ha.row r hr,ha.row i y];grind
 refine(G.2 _ j).trans (Eq.trans ?_ (congrArg (- ·) (G.2 _ u).symm))
 rw[dv _ j,dv _ u,ha.row r hr,ha.goal];grind
structure PSt(n m:Nat)(T0:QT)(t:PT)(S:QT): Prop where
 agr:Agr t S
 nrm:PNm t
 art:Art t
 em:t.m=m
 en:t.n=n
 wf:WF m (n+m) S
 feas:Kf m S
 e1:Eqv m (n+m) T0 S
 e2:Eqv m (n+m) S T0
 det:det m (bas T0 S)≠0
theorem PSt.pivot(h:PSt n m T0 t S)(hB:Bst m (n+m) S r c): PSt n m T0 (t.pivot r c) (S.pivot r c):=by
 obtain⟨u,hn,j,rfl,rfl,y,D,J,B,G⟩:=h;have i:S.a r c≠0:=by have:=hB.pos;grind
 refine⟨Xvf u hB.rm hB.cn i,Qhz u hn hB.rm hB.cn i,Xwz u j hB.rm hB.cn i,rfl,rfl,Jnj y hB.rm hB.cn i,Qzp hB D,J.trans (Qzs hB.rm i),(Qzt hB.rm i).trans B,?_⟩;rw[Xqn y B hB.rm hB.cn];intro e;rcases Rat.mul_eq_zero.1 e with e|e
 .exact i e
 exact G e
theorem PSt.next(h:PSt n m T0 t S)(hb:Bnd m (n+m) T0)(hc:t.enter (n+m)=some c): c<n+m/\∃ r,t.leaving c=some r/\r<m/\Bst m (n+m) S r c/\PSt n m T0 (t.pivot r c) (S.pivot r c):=by
 have D:=Qzv h.agr (cols:=n+m) (by rw[h.em,h.en];exact Nat.le_refl _);rw[hc]at D;obtain⟨u,J,Z⟩:=D;obtain⟨i,hi,y⟩:=hb _ h.wf h.feas h.e1 h.e2 c u J;have j:=Qqf h.agr (c:=c) (by rw[h.em,h.en];exact u) t.m (Nat.le_refl _);rw[h.em]at j;cases hq:lvS t c m with
 | none=>rw[hq]at j;exact absurd y (j i hi)
 | some p=>
  obtain⟨r,q⟩:=p;rw[hq]at j;obtain⟨B,U,v3,v4,O⟩:=j;have G:Bst m (n+m) S r c:=⟨B,u,J,Z,U,O⟩;exact⟨u,r,by unfold PT.leaving;rw[h.agr.ok.rows,h.em,hq];rfl,B,G,h.pivot G⟩
theorem PSt.small(h:PSt n m T0 t S)(h0:∀ i j,i<m->j<n+m->isI (T0.a i j) 1)(h1:∀ i,i<m->isI (T0.b i) 1)(h2:∀ j,j<n+m->isI (T0.g j) 1)(hz:T0.z=0)(hnm:0<n+m): (∀ i j,i<m->j<n+m+2->((t.rows.getD i []).getD j pr0).num<=fct (m+1)/\((t.rows.getD i []).getD j pr0).den<=fct m)/\∀ j,j<n+m+2->(t.goal.getD j pr0).num<=fct (m+1)/\(t.goal.getD j pr0).den<=fct m:=by
 obtain⟨y,hn,u,rfl,rfl,B,hf,e1,G,D⟩:=h;obtain⟨Z,O⟩:=Xjm h0 h1 B G D hnm;have U:=Qgs h0 h2 B G D;have J:=z_isQ h0 h1 h2 hz B G D hnm;have er:t.right=t.n+t.m+1:=rfl;refine⟨λi j hi hj=>(hn.row i j hi om).le ?_,λj hj=>(hn.goal j om).le ?_⟩
 .by_cases c1:j<t.n+t.m
  .rw[y.a i j hi c1];exact(Z i j hi c1).mono (Jcb _)
  by_cases c2:j=t.right
  .rw[c2,y.b i hi];exact(O i hi).mono (Jcb _)
  rw[show j=t.n+t.m by omega,u.row i hi,y.b i hi];exact((O i hi).mono (Jcb _)).neg
 by_cases c1:j<t.n+t.m
 .rw[y.g j c1];exact U j c1
 by_cases c2:j=t.right
 .rw[c2,y.z];exact J
 rw[show j=t.n+t.m by omega,u.goal,y.z];exact J.neg
open Bl
variable {A:List (List PR)}{fuel i j n:Nat}
def Bin(n:Nat)(A:List (List PR)): Prop:=∀ i,i<A.length->(A.getD i []).length=n/\∀ j,j<n->(A.getD i []).getD j pr0=pr0∨(A.getD i []).getD j pr0=PR.int 1
theorem Bin.rok(h:Bin n A): ∀ i,i<A.length->ROk n (A.getD i []):=λi hi=>⟨(h i hi).1,λj u=>by
 rcases(h i hi).2 j u with e|e<;>rw[e]<;>decide⟩
theorem Bin.mat(h:Bin n A)(hi:i<A.length)(hj:j<n): Zj A i j=0∨Zj A i j=1:=by
 unfold Zj;rcases(h i hi).2 j hj with e|e<;>rw[e]
 .exact .inl Ko
 exact .inr Jym
theorem Qln(h:Bin n A): (∀ i j,i<A.length->j<n+A.length->isI ((pck n (Zj A)).a i j) 1)/\(∀ i,i<A.length->isI ((pck n (Zj A)).b i) 1)/\∀ j,j<n+A.length->isI ((pck n (Zj A)).g j) 1:=by
 have y:isI 0 1:=⟨0,rfl,by simp⟩;have u:isI 1 1:=⟨1,rfl,by simp⟩;refine⟨λi j hi B=>?_,λi hi=>u,λj B=>?_⟩
 .simp only[pck];split
  .rename_i h1;rcases h.mat hi h1 with e|e<;>rw[e]
   .exact y
   exact u
  split
  .exact u
  exact y
 simp only[pck];split
 .exact u.neg
 exact y
theorem PSt.start(h:Bin n A): PSt n A.length (pck n (Zj A)) (PT.ofP n A) (pck n (Zj A)):=by
 have y:=PR.int_nrm 1;have J:=PR.int_nrm (-1);refine⟨Qnb h.rok,⟨λi j hi B=>?_,λj B=>?_⟩,⟨λi hi=>?_,?_⟩,rfl,rfl,Jjp _ _ _,Jtm _ _ _,Eqv.refl _,Eqv.refl _,?_⟩
 .have u:i<A.length:=hi;rw[Jxm h.rok i j u];split
  .rename_i h1;rcases(h i u).2 j h1 with e|e<;>rw[e]
   .exact Jxf
   exact y
  split
  .split
   .exact y
   exact Jxf
  split
  .exact J
  split
  .exact y
  exact Jxf
 .rw[Jyt];split
  .exact J
  exact Jxf
 .have u:i<A.length:=hi;have G:(PT.ofP n A).n+(PT.ofP n A).m=n+A.length:=rfl;have D:(PT.ofP n A).right=n+A.length+1:=rfl;rw[Jxm h.rok i _ u,Jxm h.rok i _ u,G,D,if_neg om,if_neg om,if_pos rfl,if_neg om,if_neg om,if_neg om,if_pos rfl,Jsv,Jym]
 .have G:(PT.ofP n A).n+(PT.ofP n A).m=n+A.length:=rfl;have D:(PT.ofP n A).right=n+A.length+1:=rfl;rw[Jyt,Jyt,G,D,if_neg om,if_neg om,Ko];grind
 rw[Qkj λi j hi B=>by unfold bas;rw[(Jjp n A.length (Zj A)).unit j i B hi]];simp
theorem PSt.ends{n m:Nat}{T0:QT}(hb:Bnd m (n+m) T0): ∀(fuel:Nat) {K:Nat} {T:Nat->QT} {R C:Nat->Nat} {t:PT},Run m (n+m) K T R C->T 0=T0->PSt n m T0 t (T K)->(n+m)^m<=K+fuel->∃ t' S,PT.maxim (n+m) fuel t=some t'/\PSt n m T0 t' S/\∀ j,j<n+m->0<=S.g j
 | 0,K,T,R,C,t,h,h0,hs,hf=>by have:=h.short;omega
 | fuel+1,K,T,R,C,t,h,h0,hs,hf=>by
  cases hl:t.enter (n+m) with
  | none=>
   have he:=Qzv hs.agr (cols:=n+m) (by rw[hs.em,hs.en];exact Nat.le_refl _);rw[hl]at he;exact⟨t,T K,by simp only[PT.maxim,hl],hs,he⟩
  | some c=>
   obtain⟨hc,r,hlv,hr,hB,hn⟩:=hs.next hb hl;have hrun:Run m (n+m) (K+1) (λk=>if k<=K then T k else(T K).pivot r c) (λk=>if k<K then R k else r) (λk=>if k<K then C k else c):=by
    refine⟨by simp only[Nat.zero_le,if_true];exact h.w0,by simp only[Nat.zero_le,if_true];exact h.f0,λk hk=>?_,λk hk=>?_⟩
    .rw[if_pos (show k<=K by omega)];by_cases e:k<K
     .rw[if_pos e,if_pos e];exact h.st k e
     rw[if_neg e,if_neg e,show k=K by omega];exact hB
    rw[if_pos (show k<=K by omega)];by_cases e:k<K
    .rw[if_pos e,if_pos e,if_pos (show k+1<=K by omega)];exact h.nx k e
    rw[if_neg e,if_neg e,if_neg (show¬ k+1<=K by omega),show k=K by omega]
   obtain⟨t',S,g1,g2⟩:=PSt.ends hb fuel (t:=t.pivot r c) hrun (by simp only[Nat.zero_le,if_true];exact h0) (by
    simp only[if_neg (show¬ K+1<=K by omega)];exact hn) om
   exact⟨t',S,by simp only[PT.maxim,hl,hlv];exact g1,g2⟩
theorem Jfz(h:Bin n A)(h1:∀ j,j<n->∃ i,i<A.length/\Zj A i j=1)(hf:(n+A.length)^A.length<=fuel): Bnd A.length (n+A.length) (pck n (Zj A))/\∃ t' S,PT.maxim (n+A.length) fuel (PT.ofP n A)=some t'/\PSt n A.length (pck n (Zj A)) t' S/\∀ j,j<n+A.length->0<=S.g j:=by
 have u:Bnd A.length (n+A.length) (pck n (Zj A)):=Qlp (λi j hi B=>by rcases h.mat hi B with e|e<;>rw[e]<;>grind) h1;exact⟨u,PSt.ends u fuel (K:=0) (T:=λ_=>pck n (Zj A)) (R:=λ_=>0) (C:=λ_=>0) ⟨Jjp _ _ _,Jtm _ _ _,λk y=>om,λk y=>om⟩ rfl (PSt.start h) om⟩
open Bl
namespace Bl
variable {m n:Nat}{S:QT}
def bpt(m:Nat)(S:QT)(v:Nat): Rat:=Jk m λi=>if S.β i=v then S.b i else 0
theorem Jlz(m:Nat)(S:QT)(s v:Nat): S.pt m s 0 v=bpt m S v:=by
 unfold QT.pt bpt;have e:(λi=>if S.β i=v then S.b i-S.a i s*0 else 0)=λi=>if S.β i=v then S.b i else 0:=by
  funext i;split<;>grind
 rw[e];split<;>grind
theorem Qvf(hf:Kf m S)(v:Nat): 0<=bpt m S v:=Jvt λi hi=>by
 split
 .exact hf i hi
 grind
theorem Jpn(n m:Nat)(f:Nat->Rat): Jk (n+m) f=Jk n f+Jk m λi=>f (n+i):=by
 induction m with
 | zero=>simp only[Jk,Nat.add_zero];grind
 | succ m ih=>rw[<-Nat.add_assoc];simp only[Jk];rw[ih];grind
theorem Qmf{A:MQ}(hw:WF m (n+m) S)(hf:Kf m S)(he:Eqv m (n+m) S (pck n A))(hn:0<n+m): (∀ i,i<m->Jk n (λv=>A i v*bpt m S v)<=1)/\Jk n (bpt m S)=S.z:=by
 have G:=he.sol _ (Uf hw hn 0);have u:=he.val _ (Uf hw hn 0);refine⟨λi hi=>?_,?_⟩
 .have h:=G i hi;rw[Jpn]at h;have D:Jk n (λj=>(pck n A).a i j*S.pt m 0 0 j)=Jk n λv=>A i v*bpt m S v:=Zb λj y=>by
   rw[Jlz];simp only[pck];rw[if_pos y]
  have B:Jk m (λk=>(pck n A).a i (n+k)*S.pt m 0 0 (n+k))=bpt m S (n+i):=by
   rw[Gk hi λk _ J=>by
    simp only[pck];rw[if_neg om,if_neg om];grind]
   rw[Jlz];simp only[pck];rw[if_neg om,if_pos om];grind
  rw[D,B]at h;simp only[pck]at h;have:=Qvf hf (n+i);grind
 rw[Jxd hw hn]at u;unfold QT.val at u;rw[Jpn]at u;have D:Jk n (λj=>(pck n A).g j*S.pt m 0 0 j)=Jk n λv=>(-1)*bpt m S v:=Zb λj y=>by
  rw[Jlz];simp only[pck];rw[if_pos y]
 have B:Jk m (λk=>(pck n A).g (n+k)*S.pt m 0 0 (n+k))=0:=Ks λk O=>by
  simp only[pck];rw[if_neg om];grind
 rw[D,B,Yh]at u;simp only[pck]at u;grind
end Bl
theorem PSt.dual{n m:Nat}{T0 S:QT}{t:PT}(h:PSt n m T0 t S): t.dual.length=m/\∀ i,i<m->(t.dual.getD i pr0).val=S.g (n+i):=by
 obtain⟨y,hn,u,rfl,rfl,D,G,Z,U,J⟩:=h;have B:=y.ok.goal.1;have O:t.right=t.n+t.m+1:=rfl;have j:t.dual.length=t.m:=by unfold PT.dual;rw[List.length_take,List.length_drop,B];omega
 refine⟨j,λi hi=>?_⟩;rw[<-y.g (t.n+i) om,Qv pr0 om,Qv pr0 (l:=t.goal) om];simp[PT.dual]
theorem PSt.point{n m:Nat}{T0 S:QT}{t:PT}(h:PSt n m T0 t S): t.point.length=n/\∀ v,v<n->(t.point.getD v pr0).val=bpt m S v:=by
 obtain⟨u,hn,D,rfl,rfl,O,hf,e1,e2,hd⟩:=h;have hl:=u.ok.basis;have j:t.point.length=t.n:=by simp[PT.point]
 refine⟨j,λv Z=>?_⟩;rw[Qv pr0 om];simp only[PT.point,List.getElem_map,List.getElem_range];unfold bpt;cases hq:(List.range t.basis.length).reverse.find? λi=>t.basis.getD i 0 == v with
 | none=>
  simp only[];rw[Ko,Ks];intro i hi;have:=List.find?_eq_none.1 hq i (by simp;omega);rw[u.β i hi]at this;rw[if_neg (by simpa using this)]
 | some i=>
  simp only[];have J:=List.find?_some hq;have y:i<t.m:=by
   have:=List.mem_of_find?_eq_some hq;simp at this;omega
  rw[u.β i y]at J;have G:S.β i=v:=by simpa using J
  rw[u.b i y,Gk y λk U B=>by
   rw[if_neg (λe=>B (O.inj U y (by rw[e,G])))],if_pos G]
end Go.Proofs.YtebiphhfkdbpfaaGreatDoor
namespace Go.Proofs.YtebiphhfkdbpfaaGreatDoor.Bl
variable {k m:Nat}
def cnt: Nat->(Nat->Bool)->Nat
 | 0,_=>0
 | m+1,P=>cnt m P+(P m).toNat
theorem Qwj: ∀ {m:Nat} {P Q:Nat->Bool},(∀ j,j<m->P j=Q j)->cnt m P=cnt m Q
 | 0,_,_,_=>rfl
 | m+1,P,Q,h=>by rw[cnt,cnt,Qwj λj hj=>h j om,h m om]
def skp(j l:Nat): Nat:=if l<j then l else l+1
theorem Jln{P:Nat->Bool}{j:Nat}: ∀ {m:Nat},j<=m->cnt m (λl=>P (skp j l))+(P j).toNat=cnt (m+1) P
 | 0,h=>by(obtain rfl:j=0:=by omega);(simp[cnt])
 | m+1,h=>by
  by_cases e:j=m+1
  .subst e;rw[Qwj (Q:=P) λl hl=>by rw[skp,if_pos hl]];simp[cnt]
  have ih:=Jln (P:=P) (j:=j) (m:=m) om;rw[cnt,cnt];have:skp j m=m+1:=by rw[skp,if_neg om]
  rw[this];omega
theorem Jwp{p:Nat}: ∀ {q:Nat},p<=q->fct p<=fct q
 | 0,h=>by(obtain rfl:p=0:=by omega);(exact Nat.le_refl _)
 | q+1,h=>by
  by_cases e:p=q+1
  .rw[e];exact Nat.le_refl _
  have:=Jwp (p:=p) (q:=q) om;have h2:fct q<=fct (q+1):=by rw[fct,Nat.add_mul];omega
  omega
theorem Jhk{B:Nat}{f:Nat->Rat}{P:Nat->Bool}: ∀ {k:Nat},(∀ j,j<k->P j=true->isI (f j) B)->(∀ j,j<k->P j=false->f j=0)->isI (Jk k f) (cnt k P*B)
 | 0,_,_=>⟨0,rfl,by simp⟩
 | k+1,h,z=>by
  have ih:=Jhk (k:=k) (λj hj=>h j om) λj hj=>z j om;rw[Jk,cnt];cases e:P k with
  | true=>exact(ih.add (h k om e)).mono (by rw[Nat.add_mul];simp)
  | false=>
   rw[z k om e];have:Jk k f+0=Jk k f:=by grind
   rw[this];exact ih.mono (by simp)
theorem Xql{M:MQ}(hk:k<m)(h:∀ i,i<m->M i k=0): det m M=0:=by
 have h0:=Jqc M hk (λ_=>0) (λ_=>0) 1;have e:(λ_:Nat=>(0:Rat)+1*0)=λ_=>0:=by funext i;grind
 rw[e]at h0;have u:det m M=det m (Jo M k λ_=>0):=Jwt λi j hi y=>by
  simp only[Jo];split
  .rename_i hj2;rw[hj2];exact h i hi
  rfl
 rw[u];grind
def Uni(m:Nat)(M:MQ)(j:Nat): Prop:=∃ r,∀ i,i<m->M i j=if i=r then 1 else 0
theorem Jld: ∀ {m:Nat} {M:MQ} {P:Nat->Bool},(∀ i j,i<m->j<m->isI (M i j) 1)->(∀ j,j<m->P j=false->Uni m M j)->isI (det m M) (fct (cnt m P))
 | 0,_,_,_,_=>⟨1,rfl,by simp[fct,cnt]⟩
 | m+1,M,P,h,hu=>by
  have hd:∀ j,j<m+1->isI (det m (Qt j M)) (fct (cnt m λl=>P (skp j l))):=λj hj=>Jld (λi k hi hk=>by
   unfold Qt;split<;>exact h _ _ om om) λl hl hp=>by
   have hs:skp j l<m+1:=by unfold skp;split<;>omega
   obtain⟨r,hr⟩:=hu _ hs hp;refine⟨if r=0 then m else r-1,λi hi=>?_⟩;have:=hr (i+1) om;simp only[Qt];unfold skp at this;rw[this];by_cases e:r=0
   .rw[if_pos e,if_neg om,if_neg om]
   rw[if_neg e];by_cases e2:i+1=r
   .rw[if_pos e2,if_pos om]
   rw[if_neg e2,if_neg om]
  rw[det];rcases Classical.em (∃ j,j<m+1/\P j=false/\M 0 j=1) with⟨j,hj,hp,h1⟩|hno
  .obtain⟨r,hr⟩:=hu j hj hp;have hr0:r=0:=by
    have:=hr 0 om;by_cases e:r=0
    .exact e
    rw[if_neg (λh=>e h.symm),h1]at this;simp at this
   rw[Gk hj λl hl hne=>by
    rw[Xql (m:=m) (M:=Qt l M) (k:=if j<l then j else j-1) (by split<;>omega) λi hi=>by
     simp only[Qt];have e:(if(if j<l then j else j-1)<l then(if j<l then j else j-1) else(if j<l then j else j-1)+1)=j:=by
      by_cases e:j<l
      .rw[if_pos e,if_pos e]
      rw[if_neg e,if_neg om];omega
     rw[e,hr (i+1) om,if_neg om]]
    grind]
   have hc:=Jln (P:=P) (m:=m) (j:=j) om;rw[hp]at hc;have h2:=((Jbn j).mul (h 0 j om hj)).mul (hd j hj);exact h2.mono (by rw[<-hc];simp)
  have hz:∀ j,j<m+1->P j=false->sg j*M 0 j*det m (Qt j M)=0:=λj hj hp=>by
   obtain⟨r,hr⟩:=hu j hj hp;have h0:=hr 0 om;have:M 0 j=0:=by
    by_cases e:0=r
    .rw[if_pos e]at h0;exact absurd ⟨j,hj,hp,h0⟩ hno
    rw[if_neg e]at h0;exact h0
   rw[this];grind
  have ht:∀ j,j<m+1->P j=true->isI (sg j*M 0 j*det m (Qt j M)) (fct (cnt (m+1) P-1)):=λj hj hp=>by
   have hc:=Jln (P:=P) (m:=m) (j:=j) om;rw[hp]at hc;have e:cnt (m+1) P-1=cnt m λl=>P (skp j l):=by rw[<-hc];simp
   rw[e];exact(((Jbn j).mul (h 0 j om hj)).mul (hd j hj)).mono (by simp)
  have hs:=Jhk ht hz;refine hs.mono ?_;cases e:cnt (m+1) P with
  | zero=>simp
  | succ q=>simp[fct]
end Go.Proofs.YtebiphhfkdbpfaaGreatDoor.Bl
namespace Go.Proofs.YtebiphhfkdbpfaaGreatDoor
open Bl
namespace Bl
variable {B k m n:Nat}
theorem Qwh{P:Nat->Bool}: ∀ m,cnt m P=((List.range m).filter P).length
 | 0=>rfl
 | m+1=>by
  rw[cnt,Qwh m,List.range_succ,List.filter_append,List.length_append];cases e:P m<;>simp[e]
theorem cnt_le{P:Nat->Bool}{f:Nat->Nat}(h:∀ k,k<m->P k=true->f k<n)(hi:∀ k l,k<m->l<m->P k=true->P l=true->f k=f l->k=l): cnt m P<=n:=by
 rw[Qwh,<-List.length_map (f:=f)];refine Jyz n ?_ λu j=>?_
 .unfold List.Nodup;rw[List.pairwise_map];have hn:((List.range m).filter P).Pairwise (λa b=>a<b):=List.Pairwise.filter _ List.pairwise_lt_range;refine hn.imp_of_mem fun {a b} ha hb hab e=>?_
  simp only[List.mem_filter,List.mem_range]at ha hb;have:=hi a b ha.1 hb.1 ha.2 hb.2 e;omega
 obtain⟨k,i,rfl⟩:=List.mem_map.1 j;simp only[List.mem_filter,List.mem_range]at i;exact h k i.1 i.2
variable {n m:Nat} {A:MQ} {S:QT}
theorem Qvl(hw:WF m (n+m) S)(hk:k<m)(h:¬ S.β k<n): Uni m (bas (pck n A) S) k:=⟨S.β k-n,λi hi=>by
 simp only[bas,pck];rw[if_neg h];by_cases e:S.β k-n=i
 .rw[if_pos e,if_pos e.symm]
 rw[if_neg e,if_neg (λh=>e h.symm)]⟩
theorem Xwl(h0:∀ i j,i<m->j<n+m->isI ((pck n A).a i j) 1)(hw:WF m (n+m) S): isI (det m (bas (pck n A) S)) (fct n):=by
 refine(Jld (P:=λk=>decide (S.β k<n)) (λi j hi y=>h0 i _ hi (hw.lt j y)) λj y u=>Qvl hw y (by simpa using u)).mono (Jwp (cnt_le (f:=S.β) (λk B u=>by simpa using u) λk l B D _ _ e=>hw.inj B D e))
theorem Jcr(h0:∀ i j,i<m->j<n+m->isI ((pck n A).a i j) 1)(hw:WF m (n+m) S)(hk:k<m){v:Nat->Rat}(hv:∀ i,i<m->isI (v i) 1): isI (det m (Jo (bas (pck n A) S) k v)) (fct (n+1)):=by
 refine(Jld (P:=λl=>l == k || decide (S.β l<n)) (λi j hi D=>?_) λj D u=>?_).mono (Jwp (cnt_le (f:=λl=>if l=k then n else S.β l) (λl G u=>?_) λl J G B u y e=>?_))
 .simp only[Jo];split
  .exact hv i hi
  exact h0 i _ hi (hw.lt j D)
 .simp only[Bool.or_eq_false_iff,beq_eq_false_iff_ne,decide_eq_false_iff_not]at u;obtain⟨r,O⟩:=Qvl (A:=A) hw D u.2;exact⟨r,λi hi=>by simp only[Jo];rw[if_neg u.1];exact O i hi⟩
 .simp only[Bool.or_eq_true,beq_iff_eq,decide_eq_true_eq]at u;split<;>omega
 simp only[Bool.or_eq_true,beq_iff_eq,decide_eq_true_eq]at u y;by_cases e1:l=k<;>by_cases e2:J=k
 .omega
 .rw[if_pos e1,if_neg e2]at e;omega
 .rw[if_neg e1,if_pos e2]at e;omega
 rw[if_neg e1,if_neg e2]at e;exact hw.inj G B e
theorem Qvm(hw:WF m (n+m) S){f:Nat->Rat}(hf:∀ k,k<m->isI (f k) B): isI (Jk m λk=>(pck n A).g (S.β k)*f k) (n*B):=by
 refine(Jhk (P:=λk=>decide (S.β k<n)) (B:=B) (λk j i=>?_) λk j i=>?_).mono (nO B (cnt_le (f:=S.β) (λk j i=>by simpa using i) λk l j u _ _ e=>hw.inj j u e))
 .simp only[pck];rw[if_pos (by simpa using i)];exact(isI.mul (p:=-1) (B:=1) ⟨-1,rfl,by simp⟩ (hf k j)).mono (by simp)
 simp only[pck];rw[if_neg (by simpa using i)];grind
end Bl
theorem PSt.few{n m:Nat}{A:MQ}{S:QT}{t:PT}(h:PSt n m (pck n A) t S)(h0:∀ i j,i<m->j<n+m->isI ((pck n A).a i j) 1)(hnm:0<n+m): (∀ i j,i<m->j<n+m+2->((t.rows.getD i []).getD j pr0).num<=fct (n+1)/\((t.rows.getD i []).getD j pr0).den<=fct n)/\∀ j,j<n+m+2->(t.goal.getD j pr0).num<=(n+1)*fct (n+1)/\(t.goal.getD j pr0).den<=fct n:=by
 obtain⟨G,hn,D,rfl,rfl,y,hf,e1,Z,U⟩:=h;have er:t.right=t.n+t.m+1:=rfl;have J:=Xwl h0 y;have i1:∀ i,i<t.m->isI ((pck t.n A).b i) 1:=λi hi=>⟨1,rfl,by simp⟩;have cA:∀ k c,k<t.m->c<t.n+t.m->Bl.det t.m (Jo (bas (pck t.n A) S) k λi=>(pck t.n A).a i c)=S.a k c*Bl.det t.m (bas (pck t.n A) S):=λk c u B=>Ic (x:=λk=>S.a k c) u λi hi=>(Ih y Z B hi).1;have cB:∀ k,k<t.m->Bl.det t.m (Jo (bas (pck t.n A) S) k λi=>(pck t.n A).b i)=S.b k*Bl.det t.m (bas (pck t.n A) S):=λk u=>Ic (x:=λk=>S.b k) u λi hi=>(Ih y Z hnm hi).2;have k1:∀ k c,k<t.m->c<t.n+t.m->isQ (S.a k c) (fct (t.n+1)) (fct t.n):=λk c u B=>⟨_,_,Jcr h0 y u λi hi=>h0 i c hi B,J,U,by rw[cA k c u B];grind⟩;have k2:∀ k,k<t.m->isQ (S.b k) (fct (t.n+1)) (fct t.n):=λk u=>⟨_,_,Jcr h0 y u i1,J,U,by rw[cB k u];grind⟩;have a1:fct t.n<=fct (t.n+1):=Jcb _;have k3:∀ c,c<t.n+t.m->isQ (S.g c) ((t.n+1)*fct (t.n+1)) (fct t.n):=λc B=>by
  refine⟨(pck t.n A).g c*Bl.det t.m (bas (pck t.n A) S) + -(Jk t.m λk=>(pck t.n A).g (S.β k)*Bl.det t.m (Jo (bas (pck t.n A) S) k λi=>(pck t.n A).a i c)),_,?_,J,U,?_⟩
  .have hg:isI ((pck t.n A).g c) 1:=by
    simp only[pck];split
    .exact⟨-1,rfl,by simp⟩
    exact⟨0,rfl,by simp⟩
   exact((hg.mul J).add (Qvm y λk u=>Jcr h0 y u λi hi=>h0 i c hi B).neg).mono (by rw[Nat.add_mul];omega)
  have h:=Jkk y Z B;rw[Zb (g:=λk=>Bl.det t.m (bas (pck t.n A) S)*((pck t.n A).g (S.β k)*S.a k c)) λk u=>by rw[cA k c u B];grind];rw[Yh];grind
 have k4:isQ S.z ((t.n+1)*fct (t.n+1)) (fct t.n):=by
  have O:=Z.val _ (Uf y hnm 0);rw[Jxd y hnm]at O;unfold QT.val at O;rw[Ke y hnm 0 (pck t.n A).g]at O;have e:Jk t.m (λk=>(pck t.n A).g (S.β k)*(S.b k-S.a k 0*0))=Jk t.m λk=>(pck t.n A).g (S.β k)*S.b k:=by congr 1;funext k;grind
  have ez:(pck t.n A).z=0:=rfl;rw[e,ez]at O;refine⟨-(Jk t.m λk=>(pck t.n A).g (S.β k)*Bl.det t.m (Jo (bas (pck t.n A) S) k λi=>(pck t.n A).b i)),_,(Qvm y λk u=>Jcr h0 y u i1).neg.mono (by rw[Nat.add_mul];omega),J,U,?_⟩;rw[Zb (g:=λk=>Bl.det t.m (bas (pck t.n A) S)*((pck t.n A).g (S.β k)*S.b k)) λk u=>by rw[cB k u];grind];rw[Yh];grind
 refine⟨λi j hi hj=>(hn.row i j hi om).le ?_,λj hj=>(hn.goal j om).le ?_⟩
 .by_cases c1:j<t.n+t.m
  .rw[G.a i j hi c1];exact k1 i j hi c1
  by_cases c2:j=t.right
  .rw[c2,G.b i hi];exact k2 i hi
  rw[show j=t.n+t.m by omega,D.row i hi,G.b i hi];exact(k2 i hi).neg
 by_cases c1:j<t.n+t.m
 .rw[G.g j c1];exact k3 j c1
 by_cases c2:j=t.right
 .rw[c2,G.z];exact k4
 rw[show j=t.n+t.m by omega,D.goal,G.z];exact k4.neg
end Go.Proofs.YtebiphhfkdbpfaaGreatDoor
namespace Go.Proofs.YtebiphhfkdbpfaaGreatDoor.Bl
def is01(q:Rat): Prop:=q=0∨q=1
def fc2: Nat->Nat
 | 0=>1
 | 1=>1
 | 2=>1
 | n+3=>(n+3)*fc2 (n+2)
theorem is01.isI{q:Rat}(h:is01 q): isI q 1:=by
 rcases h with h|h
 .exact⟨0,h,by simp⟩
 exact⟨1,h,by simp⟩
theorem Qkk: ∀ {m:Nat} {M:MQ},(∀ i j,i<m->j<m->is01 (M i j))->isI (det m M) (fc2 m)
 | 0,_,_=>⟨1,rfl,by simp[fc2]⟩
 | 1,M,h=>by
  have e:det 1 M=M 0 0:=by simp[det,Jk,sg];grind
  rw[e];exact(h 0 0 om om).isI
 | 2,M,h=>by
  have e:det 2 M=M 0 0*M 1 1-M 0 1*M 1 0:=by simp[det,Jk,sg,Qt];grind
  rw[e];rcases h 0 0 om om with h1|h1<;>rcases h 0 1 om om with h2|h2<;>rcases h 1 0 om om with h3|h3<;>rcases h 1 1 om om with h4|h4<;>rw[h1,h2,h3,h4]
  all_goals first|exact⟨0,by grind,by simp⟩|exact⟨1,by grind,by simp[fc2]⟩|exact⟨-1,by grind,by simp[fc2]⟩
 | n+3,M,h=>by
  rw[det,fc2];refine Jwg λj hj=>?_;have h1:=((Jbn j).mul (h 0 j om hj).isI).mul (Qkk (m:=n+2) (M:=Qt j M) λi k hi hk=>by
   unfold Qt;split<;>exact h _ _ om om)
  exact h1.mono (by simp)
section
variable {m n:Nat} {T0 S:QT}
theorem Qgt(h0:∀ i j,i<m->j<n->is01 (T0.a i j))(h2:∀ j,j<n->isI (T0.g j) 1)(hw:WF m n S)(he:Eqv m n S T0): ∀ c,c<n->∃ B,isI (S.g c*det m (bas T0 S)) B:=λc u=>by
 have G:∀ i j,i<m->j<m->isI (bas T0 S i j) 1:=λi j hi D=>(h0 i _ hi (hw.lt j D)).isI;have J:=Gc G;have e:S.g c*det m (bas T0 S)=T0.g c*det m (bas T0 S) + -(Jk m λk=>T0.g (S.β k)*det m (Jo (bas T0 S) k λi=>T0.a i c)):=by
  have h:=Jkk hw he u;rw[Zb (g:=λk=>det m (bas T0 S)*(T0.g (S.β k)*S.a k c)) λk y=>by
   rw[Ic (x:=λk=>S.a k c) y λi hi=>(Ih hw he u hi).1];grind]
  rw[Yh];grind
 rw[e];refine⟨_,((h2 c u).mul J).add (Jwg (B:=fct m) λk y=>?_).neg⟩;exact((h2 _ (hw.lt k y)).mul (Gc λi j hi D=>by
  simp only[Jo];split
  .exact(h0 i c hi u).isI
  exact G i j hi D)).mono (by simp)
theorem PR.Nrm.dvd{a:PR}(h:a.Nrm){q:Int}(hq:∃ B,isI (a.val*q) B): a.den ∣ q.natAbs:=by
 obtain⟨_,p,i,_⟩:=hq;have D:=Vc h.den;have key:∃ z:Int,z.natAbs=a.num/\z*q=p*a.den:=by
  unfold PR.val at i;cases hn:a.neg
  .refine⟨a.num,by simp,?_⟩;rw[hn]at i;simp only[Bool.false_eq_true,if_false]at i;rw[<-Rat.intCast_inj,Rat.intCast_mul,Rat.intCast_mul,Rat.intCast_natCast,Rat.intCast_natCast];grind
  refine⟨-a.num,by simp,?_⟩;rw[hn]at i;simp only[if_true]at i;rw[<-Rat.intCast_inj,Rat.intCast_mul,Rat.intCast_mul,Rat.intCast_neg,Rat.intCast_natCast,Rat.intCast_natCast];grind
 obtain⟨z,j,e⟩:=key;have u:a.num*q.natAbs=p.natAbs*a.den:=by
  rw[<-j,<-Int.natAbs_mul,e,Int.natAbs_mul];simp
 have y:Nat.Coprime a.num a.den:=h.cop;exact(y.symm).dvd_of_dvd_mul_left (⟨p.natAbs,by rw[u,Nat.mul_comm]⟩)
theorem PSt.dens{A:MQ}{t:PT}(h:PSt n m (pck n A) t S)(h0:∀ i j,i<m->j<n->is01 (A i j)): ∃ D,0<D/\D<=fc2 m/\∀ j,j<n+m->(t.goal.getD j pr0).den ∣ D:=by
 have u:∀ i j,i<m->j<n+m->is01 ((pck n A).a i j):=λi j hi y=>by
  simp only[pck];split
  .exact h0 i j hi (by assumption)
  split
  .exact .inr rfl
  exact .inl rfl
 obtain⟨q,G,B⟩:=Qkk (M:=bas (pck n A) S) λi j hi y=>u i _ hi (h.wf.lt j y);have O:q≠0:=λe=>h.det (by rw[G,e];rfl);refine⟨q.natAbs,om,B,λj y=>?_⟩;have hn:=h.nrm.goal j (by have:=h.em;have:=h.en;simp only[PT.right];omega);refine PR.Nrm.dvd hn ?_;have J:=Qgt u (λj _=>by
  simp only[pck];split
  .exact⟨-1,rfl,by simp⟩
  exact⟨0,rfl,by simp⟩) h.wf h.e2 j y
 have e:(t.goal.getD j pr0).val=S.g j:=h.agr.g j (by have:=h.em;have:=h.en;omega);rw[e,<-G];exact J
end
end Go.Proofs.YtebiphhfkdbpfaaGreatDoor.Bl
namespace Go.Proofs.YtebiphhfkdbpfaaGreatDoor
namespace Nw
variable {n p x:Nat}
theorem young(z x:Int)(hz:0<=z)(hx:0<=x): ∀ n:Nat,((n:Int)+1)*z*x^n<=z^(n+1)+n*x^(n+1)
 | 0=>by simp[Int.pow_succ]
 | n+1=>by
  have ih:=young z x hz hx n;have h1:z*(((n:Int)+1)*z*x^n)<=z*(z^(n+1)+n*x^(n+1)):=Int.mul_le_mul_of_nonneg_left ih hz;have h2:0<=((n:Int)+1)*x^n*((x-z)*(x-z)):=Int.mul_nonneg (Int.mul_nonneg om (Int.pow_nonneg hx)) (by
   rcases Int.le_total 0 (x-z) with h|h
   .exact Int.mul_nonneg h h
   have:=Int.mul_nonneg (show 0<=-(x-z) by omega) (show 0<=-(x-z) by omega);rwa [Int.neg_mul_neg]at this)
  have e:z^(n+1+1)+((n+1:Nat):Int)*x^(n+1+1)-(((n+1:Nat):Int)+1)*z*x^(n+1)=(z*(z^(n+1)+n*x^(n+1))-z*(((n:Int)+1)*z*x^n))+((n:Int)+1)*x^n*((x-z)*(x-z)):=by
   rw[Int.natCast_add];grind
  omega
def Kd(p n x:Nat): Prop:=x^n<=p/\p<(x+1)^n
theorem Jfk{y:Nat}(hx:Kd p n x)(hy:Kd p n y): x=y:=by
 rcases Nat.lt_trichotomy x y with h|h|h
 .have:=Nat.pow_le_pow_left (show x+1<=y by omega) n;have:=hx.2;have:=hy.1;omega
 .exact h
 have:=Nat.pow_le_pow_left (show y+1<=x by omega) n;have:=hy.2;have:=hx.1;omega
def step(p n x:Nat): Nat:=((n-1)*x+p / x^(n-1)) / n
theorem Jps(hn:0<n)(hx:0<x): p<(step p n x+1)^n:=by
 obtain⟨k,rfl⟩:∃ k,n=k+1:=⟨n-1,om⟩;simp only[step,Nat.add_sub_cancel];generalize hq:p / x^k=q
 generalize hy:(k*x+q) / (k+1)=y
 have i:0<x^k:=Nat.pow_pos hx;have J:p<(q+1)*x^k:=by
  have:=Nat.div_add_mod p (x^k);have:=Nat.mod_lt p i;rw[hq]at *;grind
 have G:k*x+q+1<=(k+1)*(y+1):=by
  have:=Nat.div_add_mod (k*x+q) (k+1);have:=Nat.mod_lt (k*x+q) (show 0<k+1 by omega);rw[hy]at *;grind
 have j:=young ((y+1:Nat):Int) (x:Int) om om k;have D:(((q+1)*x^k+k*x^(k+1):Nat):Int)<=(((k+1)*(y+1)*x^k:Nat):Int):=by
  have:=nO (x^k) G;have e:(k*x+q+1)*x^k=(q+1)*x^k+k*x^(k+1):=by grind
  rw[e]at this;exact Int.ofNat_le.2 this
 have B:(((k+1)*(y+1)*x^k:Nat):Int)=((k:Int)+1)*((y+1:Nat):Int)*(x:Int)^k:=by
  rw[Int.natCast_mul,Int.natCast_mul,Int.natCast_add,Int.natCast_pow];rfl
 have u:(((y+1)^(k+1)+k*x^(k+1):Nat):Int)=((y+1:Nat):Int)^(k+1)+(k:Int)*(x:Int)^(k+1):=by
  rw[Int.natCast_add,Int.natCast_mul,Int.natCast_pow,Int.natCast_pow]
 rw[<-B,<-u]at j;have:=Int.ofNat_le.1 (Int.le_trans D j);omega
theorem Qdp(hn:0<n)(hx:0<x)(h:x<=step p n x): x^n<=p:=by
 obtain⟨k,rfl⟩:∃ k,n=k+1:=⟨n-1,om⟩;simp only[step,Nat.add_sub_cancel]at h;have j:x*(k+1)<=k*x+p / x^k:=(Nat.le_div_iff_mul_le om).1 h;have i:x<=p / x^k:=by grind
 have:=(Nat.le_div_iff_mul_le (Nat.pow_pos hx)).1 i;rw[Nat.pow_succ];grind
theorem Qdq(hn:1<n)(hp:0<p)(hx:0<x): 0<step p n x:=by
 have h:=Jps (p:=p) (n:=n) om hx;rcases Nat.eq_zero_or_pos (step p n x) with h0|h0
 .rw[h0,Nat.zero_add,Nat.one_pow]at h;omega
 exact h0
end Nw
namespace Kn
theorem Qtj{B E t W P V P' V' g:Nat}(hE:0<E)(hP:P=t*E+P')(hP':P'<E)(hV:V=W*E+V')(hV':V'<E)(hW:g<=W)(hg:g*W<=t)(hq:P / V<=g∨t<(g+1)*W)(h0:0<W): P / V<=g/\g<=P / V+1:=by
 have i:0<V:=by rw[hV];have:=Nat.mul_pos h0 hE;omega
 have D:P / V<=g:=by
  rcases hq with h|h
  .exact h
  have j:(P / V)*V<=P:=Nat.div_mul_le_self P V;have J:(P / V)*W*E<=(P / V)*V:=by rw[hV,Nat.mul_assoc];exact Nat.mul_le_mul_left _ om
  have y:(P / V)*W*E<(t+1)*E:=by rw[Nat.add_mul];omega
  have G:(P / V)*W<t+1:=Nat.lt_of_mul_lt_mul_right y;have u:(P / V)*W<(g+1)*W:=om
  have:=Nat.lt_of_mul_lt_mul_right u;omega
 refine⟨D,?_⟩;rcases Nat.eq_zero_or_pos g with h|h
 .rw[h];exact Nat.zero_le _
 obtain⟨k,rfl⟩:∃ k,g=k+1:=⟨g-1,om⟩;have j:k*V<=P:=by
  have e1:(k+1)*W*E<=t*E:=nO _ hg;have e2:k*V'<=k*E:=Nat.mul_le_mul_left _ om;have Z:k*E<=W*E:=nO _ om;have U:k*V=k*W*E+k*V':=by rw[hV,Nat.mul_add,Nat.mul_assoc]
  have O:(k+1)*W*E=k*W*E+W*E:=by grind
  omega
 have:=(Nat.le_div_iff_mul_le i).2 j;omega
end Kn
open Pl
namespace Kn
variable {l os u v:List UInt32}{b c d f hi i n s x:Nat}
structure ShlI(l:List UInt32)(s i c:Nat)(os:List UInt32): Prop where
 len:os.length=i
 lt:c<2^s
 val:Pl.val os+4294967296^i*c=Pl.val (l.take i)*2^s
theorem ShlI.step(h:ShlI l s i c os)(hs:s<32)(hx:x=c+(l.getD i 0).toNat*2^s): ShlI l s (i+1) (x / 4294967296) (os++[UInt32.ofNat x])/\x<18446744073709551616:=by
 obtain⟨u,J,B⟩:=h;have G:(l.getD i 0).toNat<4294967296:=(l.getD i 0).toNat_lt;have D:0<2^s:=Nat.two_pow_pos s;have y:2^s<=2^31:=Nat.pow_le_pow_right (by decide) om;have j:x<4294967296*2^s:=by
  have:((l.getD i 0).toNat+1)*2^s<=4294967296*2^s:=nO _ om;rw[Nat.add_mul]at this;omega
 refine⟨⟨by simp[u],Nat.div_lt_of_lt_mul j,?_⟩,om⟩;rw[Xa,u,Zr,Nat.add_mul,<-B];simp only[Pl.val,UInt32.toNat_ofNat'];have e:4294967296^(i+1)*(x / 4294967296)=4294967296^i*(4294967296*(x / 4294967296)):=by rw[Nat.pow_succ,Nat.mul_assoc]
 have U:4294967296^i*(x % 2^32+4294967296*0)+4294967296^i*(4294967296*(x / 4294967296))=4294967296^i*x:=by
  rw[<-Nat.mul_add];congr 1;omega
 have O:4294967296^i*x=4294967296^i*c+4294967296^i*(l.getD i 0).toNat*2^s:=by rw[hx,Nat.mul_add,Nat.mul_assoc]
 omega
structure SbI(u v:List UInt32)(f i c b:Nat)(os:List UInt32): Prop where
 len:os.length=i
 lt:c<4294967296
 le:b<=1
 val:Pl.val os+f*Pl.val (v.take i)=Pl.val (u.take i)+4294967296^i*(c+b)
theorem SbI.step(h:SbI u v f i c b os)(hf:f<4294967296)(hx:x=c+f*(v.getD i 0).toNat)(hd:d=dif (u.getD i 0).toNat b (x % 4294967296)):
  SbI u v f (i+1) (x / 4294967296) (d / 9223372036854775808) (os++[UInt32.ofNat d])/\x<18446744073709551616:=by
 obtain⟨B,Z,j,U⟩:=h;have J:(u.getD i 0).toNat<4294967296:=(u.getD i 0).toNat_lt;have G:(v.getD i 0).toNat<4294967296:=(v.getD i 0).toNat_lt;have O:=Jxt hf G;obtain⟨D,y⟩:=Jlc J j (Nat.mod_lt x (by decide:0<4294967296));rw[<-hd]at D y;refine⟨⟨by simp[B],om,y,?_⟩,om⟩;rw[Xa,B,Zr,Zr,Nat.mul_add];simp only[Pl.val,UInt32.toNat_ofNat'];have e:4294967296^(i+1)*(x / 4294967296+d / 9223372036854775808)=4294967296^i*(4294967296*(x / 4294967296)+4294967296*(d / 9223372036854775808)):=by rw[Nat.pow_succ,Nat.mul_assoc,Nat.mul_add]
 have e2:f*(4294967296^i*(v.getD i 0).toNat)=4294967296^i*(f*(v.getD i 0).toNat):=by grind
 have e3:4294967296^i*(c+b)+4294967296^i*(d % 2^32+4294967296*0)+4294967296^i*(f*(v.getD i 0).toNat)=4294967296^i*(u.getD i 0).toNat+4294967296^i*(4294967296*(x / 4294967296)+4294967296*(d / 9223372036854775808)):=by
  rw[<-Nat.mul_add,<-Nat.mul_add,<-Nat.mul_add];congr 1;omega
 omega
theorem SbI.last(h:SbI u v f n c b os)(hv:v.length=n)(hd:d=dif (u.getD n 0).toNat b c): Pl.val (os++[UInt32.ofNat d])+f*Pl.val v=Pl.val (u.take (n+1))+4294967296^(n+1)*(d / 9223372036854775808)/\d / 9223372036854775808<=1:=by
 obtain⟨J,G,i,D⟩:=h;have B:(u.getD n 0).toNat<4294967296:=(u.getD n 0).toNat_lt;obtain⟨y,j⟩:=Jlc B i G;rw[<-hd]at y j;refine⟨?_,j⟩;rw[List.take_of_length_le om]at D;rw[Xa,J,Zr];simp only[Pl.val,UInt32.toNat_ofNat'];have e:4294967296^(n+1)*(d / 9223372036854775808)=4294967296^n*(4294967296*(d / 9223372036854775808)):=by rw[Nat.pow_succ,Nat.mul_assoc]
 have O:4294967296^n*(c+b)+4294967296^n*(d % 2^32+4294967296*0)=4294967296^n*(u.getD n 0).toNat+4294967296^n*(4294967296*(d / 9223372036854775808)):=by
  rw[<-Nat.mul_add,<-Nat.mul_add];congr 1;omega
 omega
theorem Xvh(h:AddInv u v n c os)(hv:v.length=n): ∃ k,Pl.val (os++[UInt32.ofNat ((u.getD n 0).toNat+c)])+4294967296^(n+1)*k=Pl.val (u.take (n+1))+Pl.val v:=by
 obtain⟨j,B,i⟩:=h;have y:(u.getD n 0).toNat<4294967296:=(u.getD n 0).toNat_lt;rw[List.take_of_length_le (l:=v) om]at i;refine⟨((u.getD n 0).toNat+c) / 4294967296,?_⟩;rw[Xa,j,Zr];simp only[Pl.val,UInt32.toNat_ofNat'];have e:4294967296^(n+1)*(((u.getD n 0).toNat+c) / 4294967296)=4294967296^n*(4294967296*(((u.getD n 0).toNat+c) / 4294967296)):=by rw[Nat.pow_succ,Nat.mul_assoc]
 have D:4294967296^n*(((u.getD n 0).toNat+c) % 2^32+4294967296*0)+4294967296^n*(4294967296*(((u.getD n 0).toNat+c) / 4294967296))=4294967296^n*(u.getD n 0).toNat+4294967296^n*c:=by
  rw[<-Nat.mul_add,<-Nat.mul_add];congr 1;omega
 omega
theorem digit{P P1 V M neg:Nat}(hV:0<V)(h:P1+f*V=P+M*neg)(hP:P<M)(h1:P1<M)(hn:neg<=1)(hf:P / V<=f/\f<=P / V+1):
  (neg=0->f=P / V/\P1=P % V)/\(neg=1->f=P / V+1/\∀ P2 k,P2<M->P2+M*k=P1+V->P2=P % V):=by
 have j:=Nat.div_add_mod P V;have i:=Nat.mod_lt P hV;have u:=Nat.mul_comm V (P / V);generalize P / V=q at *
 generalize P % V=r at *
 rcases Nat.lt_or_ge f (q+1) with h2|h2
 .have e:f=q:=om
  subst e;refine⟨λh0=>⟨rfl,by rw[h0]at h;omega⟩,λh0=>?_⟩;rw[h0]at h;omega
 have e:f=q+1:=om
 subst e;rw[Nat.add_mul]at h;refine⟨λh0=>by rw[h0]at h;omega,λh0=>⟨rfl,λP2 k B y=>?_⟩⟩;rw[h0]at h;have:M*k=M∨M*k=0∨2*M<=M*k:=by
  match k with
  | 0=>simp
  | 1=>simp
  | k+2=>right;right;rw[Nat.mul_add];omega
 omega
theorem Qfb(hs:s<32)(hl:i<l.length)(hos:Pl.val os=Pl.val (l.drop (i+1)) / 2^s)(hhi:hi % 2^s=Pl.val (l.drop (i+1)) % 2^s):
  Pl.val (UInt32.ofNat ((hi*4294967296+(l.getD i 0).toNat) / 2^s)::os)=Pl.val (l.drop i) / 2^s/\(hi*4294967296+(l.getD i 0).toNat) % 2^s=Pl.val (l.drop i) % 2^s:=by
 have Z:(l.getD i 0).toNat<4294967296:=(l.getD i 0).toNat_lt;rw[Jvq hl];simp only[Pl.val,UInt32.toNat_ofNat'];rw[hos];generalize Pl.val (l.drop (i+1))=X at *
 generalize (l.getD i 0).toNat=x at *
 have j:0<2^s:=Nat.two_pow_pos s;obtain⟨t,ht⟩:∃ t,(4294967296:Nat)=2^s*t:=⟨2^(32-s),by rw[<-Nat.pow_add,show s+(32-s)=32 by omega]⟩;have D:(2:Nat)^32=2^s*t:=ht;generalize hpp:2^s=p at *
 have U:=Nat.div_add_mod X p;have u:=Nat.div_add_mod hi p;rw[hhi]at u;generalize X % p=r at *
 generalize X / p=q at *
 generalize hi / p=q2 at *
 have hr:r<p:=by
  rw[<-hhi];exact Nat.mod_lt _ j
 have O:hi*4294967296+x=(q2*4294967296)*p+(r*4294967296+x):=by rw[<-u];grind
 have J:x+4294967296*X=(q*4294967296)*p+(r*4294967296+x):=by rw[<-U];grind
 rw[O,J];have B:∀ a b,(a*p+b) / p=a+b / p:=λa b=>by rw[Nat.mul_comm,Nat.mul_add_div j]
 have y:∀ a b,(a*p+b) % p=b % p:=λa b=>by rw[Nat.mul_comm,Nat.mul_add_mod]
 rw[B,B,y,y];refine⟨?_,rfl⟩;have e3:(r*4294967296+x) / p<4294967296:=by
  refine Nat.div_lt_of_lt_mul ?_;have:=nO 4294967296 (show r+1<=p by omega);rw[Nat.add_mul]at this;omega
 generalize (r*4294967296+x) / p=z at *
 have G:(q2*4294967296+z) % 2^32=z:=om
 rw[G];omega
end Kn
end Go.Proofs.YtebiphhfkdbpfaaGreatDoor
namespace Go.Proofs.YtebiphhfkdbpfaaGreatDoor.Agm
variable {l:List Rat}
def Qd(l:List Rat): Rat:=l.foldr (· + ·) 0
def Xo(l:List Rat): Rat:=l.foldr (· * ·) 1
theorem Jvx(h:∀ x∈l,0<=x): 0<=Qd l:=by
 induction l with
 | nil=>simp[Qd]
 | cons a l ih=>simp only[Qd,List.foldr_cons]at ih ⊢;have:=h a (by simp);have:=ih λx i=>h x (by simp[i]);grind
theorem Qhp(h:∀ x∈l,0<=x): 0<=Xo l:=by
 induction l with
 | nil=>simp[Xo];decide
 | cons a l ih=>simp only[Xo,List.foldr_cons]at ih ⊢;exact Rat.mul_nonneg (h a (by simp)) (ih λx i=>h x (by simp[i]))
theorem Jyn{a:Rat}(h:0<=a): ∀ n:Nat,0<=a^n
 | 0=>by rw[Rat.pow_zero];decide
 | n+1=>by rw[Rat.pow_succ];exact Rat.mul_nonneg (Jyn h n) h
theorem Qpm{a b c d:Rat}(h1:a<=b)(h2:c<=d)(hc:0<=c)(hb:0<=b): a*c<=b*d:=by
 have j:a*c<=b*c:=Rat.mul_le_mul_of_nonneg_right h1 hc;have i:b*c<=b*d:=Rat.mul_le_mul_of_nonneg_left h2 hb;grind
theorem Jtf{a b:Rat}(ha:0<=a)(h:a<=b): ∀ n:Nat,a^n<=b^n
 | 0=>by rw[Rat.pow_zero,Rat.pow_zero];grind
 | n+1=>by
  rw[Rat.pow_succ,Rat.pow_succ];exact Qpm (Jtf ha h n) h ha (Jyn (by grind) n)
theorem young{z x:Rat}(hz:0<=z)(hx:0<=x): ∀ n:Nat,((n:Rat)+1)*z*x^n<=z^(n+1)+n*x^(n+1)
 | 0=>by
  rw[Rat.pow_zero,Rat.pow_succ,Rat.pow_zero];have:((0:Nat):Rat)=0:=rfl;rw[this];grind
 | n+1=>by
  have ih:=young hz hx n;have h1:z*(((n:Rat)+1)*z*x^n)<=z*(z^(n+1)+n*x^(n+1)):=Rat.mul_le_mul_of_nonneg_left ih hz;have hn:(0:Rat)<=(n:Rat):=Rat.natCast_nonneg;have hsq:0<=(x-z)*(x-z):=by
   rcases(Rat.le_total (a:=0) (b:=x-z)) with h|h
   .exact Rat.mul_nonneg h h
   have:=Rat.mul_nonneg (show 0<=-(x-z) by grind) (show 0<=-(x-z) by grind);grind
  have h2:0<=((n:Rat)+1)*x^n*((x-z)*(x-z)):=Rat.mul_nonneg (Rat.mul_nonneg (by grind) (Jyn hx n)) hsq;have e:z^(n+1+1)+((n+1:Nat):Rat)*x^(n+1+1)-(((n+1:Nat):Rat)+1)*z*x^(n+1)=(z*(z^(n+1)+n*x^(n+1))-z*(((n:Rat)+1)*z*x^n))+((n:Rat)+1)*x^n*((x-z)*(x-z)):=by
   rw[Rat.natCast_add,Rat.pow_succ z (n+1),Rat.pow_succ x (n+1),Rat.pow_succ x n];have:((1:Nat):Rat)=1:=rfl;rw[this];grind
  grind
theorem amgm: ∀ {l:List Rat},(∀ x∈l,0<=x)->l≠[]->Xo l<=(Qd l / (l.length:Rat))^l.length
 | [],_,h=>absurd rfl h
 | [a],h,_=>by
  simp only[Xo,Qd,List.foldr_cons,List.foldr_nil,List.length_singleton,Rat.pow_succ,Rat.pow_zero];have:((1:Nat):Rat)=1:=rfl;rw[this];grind
 | b::c::l,h,_=>by
  have ih:=amgm (l:=c::l) (λx hx=>h x (by simp[hx])) (by simp);have hb:=h b (by simp);have hs:=Jvx (l:=c::l) λx hx=>h x (by simp[hx]);have ep:Xo (b::c::l)=b*Xo (c::l):=rfl;have es:Qd (b::c::l)=b+Qd (c::l):=rfl;rw[ep,es,List.length_cons];generalize hk:(c::l).length=k at *
  generalize Qd (c::l)=s at *
  generalize Xo (c::l)=p at *
  have hk0:(0:Rat)<(k:Rat):=Rat.natCast_pos.2 (by rw[<-hk];simp);have hk1:(((k+1:Nat)):Rat)=(k:Rat)+1:=by rw[Rat.natCast_add];rfl
  have hx:0<=s / (k:Rat):=by rw[Rat.div_def];exact Rat.mul_nonneg hs (Rat.le_of_lt (Rat.inv_pos.2 hk0))
  have hz:0<=(b+s) / ((k:Rat)+1):=by rw[Rat.div_def];exact Rat.mul_nonneg (by grind) (Rat.le_of_lt (Rat.inv_pos.2 (by grind)))
  have hy:=young hz hx k;rw[hk1];have e1:((k:Rat)+1)*((b+s) / ((k:Rat)+1))=b+s:=by grind
  have e2:(k:Rat)*(s / (k:Rat))=s:=by grind
  rw[e1,Rat.pow_succ (s / (k:Rat)) k]at hy;have e3:(k:Rat)*((s / (k:Rat))^k*(s / (k:Rat)))=s*(s / (k:Rat))^k:=by
   rw[<-e2];have:(k:Rat)*(s / (k:Rat)) / (k:Rat)=s / (k:Rat):=by rw[e2]
   rw[this];grind
  rw[e3]at hy;have h1:b*p<=b*(s / (k:Rat))^k:=Rat.mul_le_mul_of_nonneg_left ih hb;grind
end Go.Proofs.YtebiphhfkdbpfaaGreatDoor.Agm
namespace Go.Proofs.YtebiphhfkdbpfaaGreatDoor
open Go.RowKit Pl Go.Wk
attribute [local irreducible] WC WL QX WD WDB WP WN WG WH
variable {b2 m n:Nat}{q:PR}{a p u v y:Value}{w w' w1:World}
def RtX(N:Nat->Prop)(w:World)(v:Value)(q:PR): Prop:=∃ x y,v=.agg #[.bool q.neg,x,y]/\NatX N w x q.num/\NatX N w y q.den
def RtC(N:Nat->Prop)(w:World)(cs:List Value)(q:PR): Prop:=∃ x y,cs=[.bool q.neg,x,y]/\NatX N w x q.num/\NatX N w y q.den
section
variable {N N':Nat->Prop} {w w':World} {v:Value} {cs:List Value} {q:PR}
theorem RtX.gr(h:RtX N w v q)(hg:GrN N w w'): RtX N w' v q:=by
 obtain⟨x,y,e,j,i⟩:=h;exact⟨x,y,e,j.gr hg,i.gr hg⟩
theorem RtX.ext(h:RtX N w v q)(hx:Ext w w'): RtX N w' v q:=h.gr (GrN.ext hx)
theorem RtX.old(h:RtX N w v q)(hN:∀ k,N' k->N k∨w.heap.size<=k): RtX N' w v q:=by
 obtain⟨x,y,e,j,i⟩:=h;exact⟨x,y,e,j.old hN,i.old hN⟩
theorem RtC.sta: Sta RtC:=⟨λh u=>by
 obtain⟨x,y,e,j,i⟩:=h;exact⟨x,y,e,j.gr u,i.gr u⟩,λh B=>by
 obtain⟨x,y,e,j,i⟩:=h;exact⟨x,y,e,j.old B,i.old B⟩⟩
theorem RtX.c(h:RtX N w v q): ∃ cs,v=.agg cs.toArray/\RtC N w cs q:=by
 obtain⟨x,y,e,j,i⟩:=h;exact⟨_,e,x,y,rfl,j,i⟩
theorem RtC.x(h:RtC N w cs q): RtX N w (.agg cs.toArray) q:=by
 obtain⟨x,y,rfl,j,i⟩:=h;exact⟨x,y,rfl,j,i⟩
end
theorem Qrq(h:n≠0): Jw n=32*((Jj n).length-1)+Jw ((Jj n).getD ((Jj n).length-1) 0).toNat:=by
 obtain⟨l,c,y,J⟩:=Jgx h;have Z:c.toNat≠0:=λe=>J (UInt32.toNat_inj.1 e);have j:=Zs n;rw[y,Xa]at j;simp only[Pl.val,Nat.mul_zero,Nat.add_zero]at j;have i:=Gq l;have B:4294967296^l.length=2^(32*l.length):=by rw[Nat.pow_mul]
 rw[B]at j i;have D:0<2^(32*l.length):=Nat.two_pow_pos _;have U:(Jj n).length-1=l.length:=by rw[y];simp
 have O:(Jj n).getD l.length 0=c:=by rw[y];simp[List.getD]
 rw[U,O];have u:2^(32*l.length)<=n:=by
  have:=Nat.mul_le_mul_left (2^(32*l.length)) (show 1<=c.toNat by omega);omega
 have G:n / 2^(32*l.length)=c.toNat:=by
  rw[<-j,Nat.add_mul_div_left _ _ D,Nat.div_eq_of_lt i,Nat.zero_add]
 rw[Jxx u,G]
theorem Um(hv:NatV w v n)(hs:(Jj n).length<=1000): Ret Tryz.prog 110 [v] w λr w'=>r=.int .i64 (Jw n:Int)/\w'=w:=by
 refine Jz Tryz.func110 Tryz.ntmps110 rfl kr rfl ?_;refine ρ ?_;refine cl (Za hv) ?_;rintro u w' ⟨⟨A,rfl,i⟩,rfl⟩;refine ρ ?_;refine ci (λh=>?_) (λh=>?_)
 .have h0:n=0:=by
   have:=oT h;rcases Nat.eq_zero_or_pos n with h1|h1
   .exact h1
   have:=limbs_pos' (n:=n) om;omega
  subst h0;refine ρ ?_;exact Jq ⟨rfl,rfl⟩
 have j:0<(Jj n).length:=by
  have:=oF h;omega
 have h0:n≠0:=Qqk j;refine ρ ?_;refine ix ((Jj n).length-1) i om ?_;refine ρ ?_;refine ld (i.cell (Qm (show(Jj n).length-1<(Jj n).length by omega))) ?_;refine ρ ?_;refine cl (Qqs _ (UInt32.toNat_lt _) w') ?_;rintro _ w1 ⟨rfl,rfl⟩;have:=Ys (x:=((Jj n).getD ((Jj n).length-1) 0).toNat) (k:=32) (UInt32.toNat_lt _);refine ρ ?_;refine Jq ⟨congrArg (Value.int .i64) ?_,rfl⟩;rw[Qrq h0];omega
abbrev Ol(w:World): Nat->Prop:=λk=>k<w.heap.size
theorem NatX.ol(h:NatX (Ol w1) w' v n)(hx:Ext w w1): NatX (Ol w) w' v n:=h.old λk i=>.inl (nM i hx.size)
theorem RtX.ol(h:RtX (Ol w1) w' v q)(hx:Ext w w1): RtX (Ol w) w' v q:=h.old λk i=>.inl (nM i hx.size)
theorem Fresh.o(h:Fresh w v)(hn:NatV w' v n): NatX (Ol w) w' v n:=h.x hn λ_ i=>i
theorem NatV.one(h:NatV w v n): v.oneCell'=true:=by obtain⟨A,c,rfl,_⟩:=h;rfl
def SF.nx(N:Nat->Prop)(n:Nat): SF:=⟨λv w=>NatX N w v n,λh hx=>h.ext hx⟩
theorem Zd(n:Nat)(h:n<18446744073709551616)(w:World): Ret Tryz.prog 21 [.int .u64 (n:Int)] w λv w'=>NatX (Ol w) w' v n/\Ext w w':=by
 refine Jz Tryz.func21 Tryz.ntmps21 rfl kr rfl ?_;refine ρ ?_;refine Zk rfl rfl (by decide) rfl ?_;refine ρ ?_;refine bsl (bsN _ _) ?_;intro w1 b j y i;rw[Zv,Jnw]at i;have u:Rd w1 1 (some ⟨b,0,none⟩) 2 (Nc [UInt32.ofNat n,UInt32.ofNat (n / 4294967296)]):=i.rd rfl;refine ρ ?_;refine cl (Gx (l:=[UInt32.ofNat n,UInt32.ofNat (n / 4294967296)]) (c:=2) u (Nat.le_refl _) (by simp)) ?_;rintro v w2 ⟨rfl,rfl⟩;have:=Kl u (by simp);rw[Jnp n h]at this ⊢;refine ρ ?_;exact Jq ⟨⟨this,λ_ D _ _ e B=>by grind⟩,j⟩
theorem Jjr(hv:NatV w v n)(hu:NatV w u m)(hn:(Jj n).length<=1000)(h0:0<m)(hm:m<4294967296):
  Ret Tryz.prog 102 [v,u] w λr w'=>(∃ x y,r=.tuple #[x,y,.int .i64 0]/\NatX (Ol w) w' x (n / m)/\NatX (Ol w) w' y (n % m))/\Ext w w':=by
 have J:Jj m=[UInt32.ofNat m]:=Jgw om hm;refine Jz Tryz.func102 Tryz.ntmps102 rfl kr rfl ?_;refine ρ ?_;refine cl (Za hv) ?_;rintro v' w' ⟨⟨A,rfl,ha⟩,rfl⟩;refine ρ ?_;refine cl (Za hu) ?_;rintro u' D ⟨⟨B,rfl,hb⟩,rfl⟩;rw[J]at hb ⊢;refine ρ ?_;refine cl (Jxs (n:=n) (m:=m) ⟨A,_,rfl,Nat.le_refl _,om,ha⟩ ⟨B,1,by rw[J],by rw[J];simp,by rw[J];simp,by rw[J];exact hb⟩) ?_;rintro t w' ⟨rfl,i⟩;refine ρ ?_;refine ci (λh=>?_) (λh=>?_)
 .have a1:n<m:=by
   have:=oT h;unfold Vt at this;grind
  refine ρ ?_;refine cl (Jwz (ha.ext i) (Jzr _) om) ?_;rintro v' w1 ⟨ho,hx⟩;obtain⟨A',c',rfl,hc,hf⟩:=Jv ho;refine ρ ?_;refine Jwn ⟨⟨.slice none 0 0,_,rfl,?_,?_⟩,i.trans hx⟩
  .rw[Nat.div_eq_of_lt a1];exact NatX.nil _
  rw[Nat.mod_eq_of_lt a1];exact⟨⟨A',c',rfl,hc,om,Rd.own ho⟩,λ_ ad m c e hk=>by
   injection e with e1 e2 e3
   subst e1;have:=(hf ad.block rfl).1;have:=i.size;have a5:ad.block<D.heap.size:=hk;omega⟩
 refine ρ ?_;refine cl (Jwz (ha.ext i) (Jzr _) om) ?_;rintro q w1 ⟨ho,Z⟩;obtain⟨A',c',rfl,hc,hf⟩:=Jv ho;have a2:=(hb.ext i).ext Z;refine ρ ?_;refine ix 0 a2 (by simp) ?_;refine ρ ?_;refine ld (a2.cell (Qm (l:=[UInt32.ofNat m]) (k:=0) (by simp))) ?_;have em:(([UInt32.ofNat m].getD 0 0).toNat:Int)=(m:Int):=by grind [UInt32.ofNat,UInt32.toNat_ofNat',Nat.mod_eq_of_lt]
 rw[em];refine ρ ?_;refine cl (Qkd rfl om ho h0 hm) ?_;rintro r w2 ⟨rfl,⟨os,a3,j,a4⟩,hg2⟩;rw[Zs]at j ⊢;have U:Ext D w2:=Ja (i.trans Z) hg2 (λk e=>nL i.size (hf k e).1);have G:=Rd.own a4;rw[<-a3]at G hc ⊢;refine ρ ?_;refine cl (Gx G hc om) ?_;rintro t w3 ⟨rfl,rfl⟩;have:=Kl G om;rw[j]at this ⊢;have hr:n % m<m:=Nat.mod_lt _ h0;refine ρ ?_;rw[Zt om];refine cl (Zd (n % m) om _) ?_;rintro y w4 ⟨hy,O⟩;refine ρ ?_;refine Jwn ⟨⟨_,y,rfl,⟨this.ext O,λ_ ad m c e hk=>?_⟩,hy.ol U⟩,U.trans O⟩;injection e with e1 e2 e3
 subst e1;have:=(hf ad.block rfl).1;have:=i.size;have a5:ad.block<D.heap.size:=hk;omega
theorem Yv: Qe Tryz.prog 58=some (.agg #[.bool false,.slice none 0 0,.slice none 0 0]):=kr
theorem NatV.sl(h:NatV w v n): ∃ A c,v=.slice A (Jj n).length c:=by obtain⟨A,c,e,_⟩:=h;exact⟨A,c,e⟩
theorem Ua(b:Bool)(A B:Option Addr)(m c m' c':Nat)(w:World): (Instr.build 58 #[(0,.bool b),(1,.slice A m c),(2,.slice B m' c')]).run Tryz.prog w=.ok (.agg #[.bool b,.slice A m c,.slice B m' c']) w:=kr
theorem zFnN: Qe Tryz.prog 70=some .nilFunc:=kr
theorem Qts{x:Value}(hx:NatV w x n)(hy:NatV w y m)(hn:n<18446744073709551616)(hm:m<18446744073709551616)(h0:0<m):
  Ret Tryz.prog 193 [x,y,p] w λr w'=>NatX (Ol w) w' r (Nat.gcd n m)/\Ext w w':=by
 have ln:=Qa hn;have lm:=Qa hm;have hb:=(Ky (x:=m) om).1;refine Jz Tryz.func193 Tryz.ntmps193 rfl kr rfl ?_;refine ρ ?_;refine cl (Um hy om) ?_;rintro _ w ⟨rfl,rfl⟩;refine ρ ?_;refine cf ?_ ?_
 .simp;omega
 refine ρ ?_;refine cl (Jgj hx hn) ?_;rintro _ w ⟨rfl,rfl⟩;refine ρ ?_;refine cl (Jgj hy hm) ?_;rintro _ w ⟨rfl,rfl⟩;refine ρ ?_;refine Qq (fun (a b:Nat)=>[(0,x),(1,y),(2,p),(6,.int .u64 (a:Int)),(8,.int .u64 (b:Int))]) (λa b w'=>Ext w w'/\a<18446744073709551616/\b<18446744073709551616/\Nat.gcd a b=Nat.gcd n m) (λ_ b=>b) n m sB ⟨Ext.refl _,hn,hm,rfl⟩ ?_;rintro a b w2 ⟨i,U,J,D⟩;refine ρ ?_;refine ci (λh=>?_) (λh=>?_)
 .have j:b≠0:=by intro e;subst e;simp at h
  clear h;have u:Ext w2 w2.drew:=(Ext.refl w2).drew;have G:(b:Int)≠0:=om
  refine ρ ?_;refine dr [(0,0),(0,1),(0,2),(0,3),(0,4),(0,5)] kr ?_;refine ρd ?_;refine drem G ?_;refine ρd ?_;refine ρ ?_;refine Ju b (a % b) ?_ ⟨i.trans u,J,Nat.lt_of_lt_of_le (Nat.mod_lt _ om) om,by rw[<-D,Nat.gcd_comm a b,Nat.gcd_rec b a];exact Nat.gcd_comm _ _⟩ (Nat.mod_lt _ om);have Z:(a:Int).tmod b=((a % b:Nat):Int):=rfl;rw[Z];exact sO
 have j:b=0:=by
  rcases Nat.eq_zero_or_pos b with h1|h1
  .exact h1
  simp at h;omega
 subst j;rw[Nat.gcd_zero_right]at D;subst D;refine ρ ?_;refine cl (Zd _ U w2) ?_;rintro r w3 ⟨O,B⟩;refine ρ ?_;exact Jq ⟨O.ol i,i.trans B⟩
theorem Xxs{x:Value}(hx:NatV w x n)(hy:NatV w y m)(hn:n<18446744073709551616)(hm:m<18446744073709551616)(h0:0<m):
  Ret Tryz.prog 166 [x,y] w λr w'=>NatX (Ol w) w' r (Nat.gcd n m)/\Ext w w':=by
 have lm:=Qa hm;have hl:Jw m<=64:=Ys hm;refine Jz Tryz.func166 Tryz.ntmps166 rfl kr rfl ?_;refine ρ ?_;refine alc zFnN ?_;intro w1 b B J O;refine ρ ?_;refine stb1 O ?_ rfl;intro w2 D hg2 j;have j:Ext w w2:=j w B J;refine ρ ?_;refine Js (fun (_:Unit)=>[(0,x),(1,y),(5,.pointer (some ⟨b,0,none⟩))]) (λ_ w'=>w'=w2) (λ_=>0) () sB rfl ?_;rintro _ w3 rfl;refine ρ ?_;refine cl (Um (hy.ext j) om) ?_;rintro _ Z ⟨rfl,rfl⟩;refine ρ ?_;refine cf ?_ ?_
 .exact dF om
 refine ρ ?_;refine ld (D.at (i:=0) rfl) ?_;refine ρ ?_;refine clv (Qts (p:=.pointer (some ⟨b,0,none⟩)) (hx.ext j) (hy.ext j) hn hm h0) ?_;rintro r U ⟨G,u⟩;refine ρ ?_;exact Jq ⟨G.ol j,j.trans u⟩
theorem len0: (((Jj n).length:Int) == 0)=decide (n=0):=by
 by_cases h:n=0
 .subst h;rw[limbs_0];rfl
 have:=limbs_pos' h;rw[decide_eq_false h];exact beq_eq_false_iff_ne.2 om
theorem Qz{b c:Value}{x:Bool}(ha:a=.bool x)(hb:b.oneCell'=true)(hc:c.oneCell'=true): ∀ u∈[a,b,c],u.oneCell'=true:=λu i=>by
 simp only[List.mem_cons,List.not_mem_nil,or_false]at i;rcases i with rfl|rfl|rfl
 .rw[ha];rfl
 .exact hb
 exact hc
theorem RtX.out{w2 w4 w5:World}{x:Value}{b:Bool}(hx:NatX (Ol w2) w4 x q.num)(hy:NatX (Ol w2) w4 y q.den)(hg:w4.grownBy w5 (some b2))(hb:b2<w2.heap.size)(hxw:Ext w w2)(e:b=q.neg): RtX (Ol w) w5 (.agg #[.bool b,x,y]) q:=by
 have i:GrN (Ol w2) w4 w5:=GrN.by hg λk j=>by injection j with j;subst j;exact hb
 exact⟨x,y,by rw[e],(hx.gr i).ol hxw,(hy.gr i).ol hxw⟩
theorem Qtr(h:0<m): 0<Nat.gcd n m:=Nat.gcd_pos_of_pos_right _ h
theorem Vd{N:Nat->Prop}(hv:RtX N w v q)(hn:q.num<18446744073709551616)(hd:q.den<4294967296):
  Ret Tryz.prog 101 [v] w λr w'=>RtX (Ol w) w' r q.norm/\Ext w w':=by
 obtain⟨x,y,rfl,⟨hx,_⟩,⟨hy,_⟩⟩:=hv;have ln:=Qa hn;have ak:=Qa (n:=q.den) om;refine Jz Tryz.func101 Tryz.ntmps101 rfl kr rfl ?_;refine ρ ?_;refine bx ?_;intro w1 b1 a5 av a6;refine ρ ?_;refine alc Yv ?_;intro w2 b2 aa au a3;have ah:=a3;have J:=a5.trans aa;have a4:Ext w2 w2.drew:=(Ext.refl w2).drew;have a9:=(a6.ext aa).ext a4;refine ρ ?_;refine drH (λ_=>false) ?_;refine Ux (fuel':=4) 14 [(0,0),(0,1),(0,3),(0,4)] #[true,true,false,true,true,false,false,false] kr kr rfl ?_;refine ρd ?_;refine dld (a9.at (i:=1) rfl) ?_;refine ρd ?_;refine dld (a9.at (i:=2) rfl) ?_;refine ρd ?_;refine Yq ?_;refine hmkS 14 2 _ #[true,true,true,true,true,true,false,false] [2,5] [8,11] [SF.nx (Ol w2) q.num,SF.nx (Ol w2) q.den] kr (by rfl) ?_ ?_
 .refine gsc (λvs v1 a7 hd=>?_) ?_
  .simp only[slM];refine cl (Qjk (hx.ext ((J.trans a4).trans a7)) om) ?_;rintro u v2 ⟨h1,h2,h3⟩;exact Je (Xs h3 ((h2.o h1).ol (a4.trans a7)))
  refine gsc (λvs v1 a7 hd=>?_) gse
  simp only[slM];refine cl (Qjk (hy.ext ((J.trans a4).trans a7)) om) ?_;rintro u v2 ⟨h1,h2,h3⟩;exact Je (Xs h3 ((h2.o h1).ol (a4.trans a7)))
 intro vs w3 ai hd;have hX:NatX (Ol w2) w3 (vs 0) q.num:=hd 0;have hY:NatX (Ol w2) w3 (vs 1) q.den:=hd 1;simp only[slM];generalize vs 0=x3 at *
 generalize vs 1=y3 at *
 refine Ux (fuel':=0) 14 [(0,6),(0,7)] #[true,true,true,true,true,true,true,true] kr kr rfl ?_;refine ρd ?_;refine Yq ?_;refine Vz kr ?_;have G:=a4.trans ai;have a2:=J.trans G;have a6:=(a6.ext aa).ext G;have a3:=a3.ext G;obtain⟨A,c,ex,ar,aq,ap⟩:=id hX.1;obtain⟨B,d,ey,a8,ao,an⟩:=id hY.1;subst ex;subst ey;refine ρ ?_;have U:=ah.lt;rw[len0];refine Go.Wk.ki 15 (λh=>?_) (λh=>?_)
 .have hz:=oT h;clear h;refine ρ ?_;refine ld (a6.at (i:=0) rfl) ?_;refine ρ ?_;have hq:q.norm=⟨false,q.num,1⟩:=by unfold PR.norm;rw[if_pos (.inl hz),hz];simp
  refine Go.Wk.ki 22 (λhs=>?_) (λhs=>?_)
  .refine ρ ?_;refine Go.Wk.kv 26 (u:=.bool false) (congrArg Value.bool ?_) ?_
   .exact dF (by rw[hz,limbs_0];simp)
   refine ρ ?_;refine cl (Zd 1 (by decide) _) ?_;rintro o w4 ⟨ho,j⟩;obtain⟨O,oc,rfl⟩:=ho.1.sl;refine ρ ?_;refine bld (Ua _ _ _ _ _ _ _ _) ?_;refine ρ ?_;refine stb (cs':=[.bool false,.slice A (Jj q.num).length c,.slice O (Jj 1).length oc]) (a3.ext j) ?_ (Qz rfl rfl ho.1.one);intro w5 a1 Z D;refine ρ ?_;refine Vp a1 ⟨?_,D w (a2.trans j) (by have:=a5.size;omega)⟩;rw[hq];exact RtX.out (hX.ext j) (ho.ol G) Z U J rfl
  refine ρ ?_;refine cl (Zd 1 (by decide) _) ?_;rintro o w4 ⟨ho,j⟩;obtain⟨O,oc,rfl⟩:=ho.1.sl;refine ρ ?_;refine bld (Ua _ _ _ _ _ _ _ _) ?_;refine ρ ?_;refine stb (cs':=[.bool false,.slice A (Jj q.num).length c,.slice O (Jj 1).length oc]) (a3.ext j) ?_ (Qz rfl rfl ho.1.one);intro w5 a1 Z D;refine ρ ?_;refine Vp a1 ⟨?_,D w (a2.trans j) (by have:=a5.size;omega)⟩;rw[hq];exact RtX.out (hX.ext j) (ho.ol G) Z U J rfl
 have hz:=oF h;clear h;refine ρ ?_;rw[len0];refine ci (λh=>?_) (λh=>?_)
 .have ae:=oT h;clear h;refine ρ ?_;refine ld (a6.at (i:=0) rfl) ?_;refine ρ ?_;have hq:q.norm=⟨q.neg,q.num,1⟩:=by unfold PR.norm;rw[if_pos (.inr ae)];simp[hz]
  refine Go.Wk.ki 22 (λhs=>?_) (λhs=>?_)
  .refine ρ ?_;refine Go.Wk.kv 26 (u:=.bool true) (congrArg Value.bool ?_) ?_
   .exact decide_eq_true (by have:=limbs_pos' hz;omega)
   refine ρ ?_;refine cl (Zd 1 (by decide) _) ?_;rintro o w4 ⟨ho,j⟩;obtain⟨O,oc,rfl⟩:=ho.1.sl;refine ρ ?_;refine bld (Ua _ _ _ _ _ _ _ _) ?_;refine ρ ?_;refine stb (cs':=[.bool true,.slice A (Jj q.num).length c,.slice O (Jj 1).length oc]) (a3.ext j) ?_ (Qz rfl rfl ho.1.one);intro w5 a1 Z D;refine ρ ?_;refine Vp a1 ⟨?_,D w (a2.trans j) (by have:=a5.size;omega)⟩;rw[hq];exact RtX.out (hX.ext j) (ho.ol G) Z U J hs.symm
  refine ρ ?_;refine cl (Zd 1 (by decide) _) ?_;rintro o w4 ⟨ho,j⟩;obtain⟨O,oc,rfl⟩:=ho.1.sl;refine ρ ?_;refine bld (Ua _ _ _ _ _ _ _ _) ?_;refine ρ ?_;refine stb (cs':=[.bool false,.slice A (Jj q.num).length c,.slice O (Jj 1).length oc]) (a3.ext j) ?_ (Qz rfl rfl ho.1.one);intro w5 a1 Z D;refine ρ ?_;refine Vp a1 ⟨?_,D w (a2.trans j) (by have:=a5.size;omega)⟩;rw[hq];exact RtX.out (hX.ext j) (ho.ol G) Z U J hs.symm
 have ae:=oF h;clear h;have hq:q.norm=⟨q.neg,q.num / Nat.gcd q.num q.den,q.den / Nat.gcd q.num q.den⟩:=by unfold PR.norm;rw[if_neg om]
 have aj:=Ys (x:=q.den) (k:=32) om;refine ρ ?_;refine cl (Um hY.1 om) ?_;rintro _ w3 ⟨rfl,rfl⟩;refine ρ ?_;refine Gn (fun (x5 y5:Value)=>[(1,.pointer (some ⟨b1,0,none⟩)),(2,.pointer (some ⟨b2,0,none⟩)),(3,x5),(4,y5)])
  (λx5 y5 w'=>Ext w3 w'/\NatX (Ol w2) w' x5 (q.num / Nat.gcd q.num q.den)/\NatX (Ol w2) w' y5 (q.den / Nat.gcd q.num q.den)) ?_ ?_
 .refine ci (λh=>?_) (λh=>?_)
  .clear h;refine ρ ?_;refine cl (Xxs hX.1 hY.1 hn om om) ?_;rintro g w4 ⟨hg,j⟩;have ag:0<Nat.gcd q.num q.den:=Qtr om;have am:Nat.gcd q.num q.den<=q.den:=Nat.le_of_dvd om (Nat.gcd_dvd_right _ _);have ab:=Ys (x:=Nat.gcd q.num q.den) (k:=32) om;refine ρ ?_;refine cl (Um hg.1 (by have:=Qa (n:=Nat.gcd q.num q.den) om;omega)) ?_;rintro _ w4 ⟨rfl,rfl⟩;refine ρ ?_;refine ci (λh=>?_) (λh=>?_)
   .clear h;refine ρ ?_;refine cl (Jjr (hX.ext j).1 hg.1 om ag om) ?_;rintro _ w5 ⟨⟨a,r,rfl,ha,_⟩,D⟩;refine ρ ?_;refine cl (Jjr ((hY.ext j).ext D).1 (hg.ext D).1 om ag om) ?_;rintro _ w6 ⟨⟨b,r2,rfl,hb,_⟩,af⟩;refine ρ ?_;exact Xe a b sB ⟨(j.trans D).trans af,(ha.ol (G.trans j)).ext af,hb.ol ((G.trans j).trans D)⟩
   have h1:=oF h;have ab:Nat.gcd q.num q.den=1:=by
    have:=Up (x:=Nat.gcd q.num q.den);have h2:2^Jw (Nat.gcd q.num q.den)<=2^1:=Nat.pow_le_pow_right (by decide) om;omega
   refine ρ ?_;refine Xe _ _ sB ⟨j,?_,?_⟩
   .rw[ab,Nat.div_one];exact hX.ext j
   rw[ab,Nat.div_one];exact hY.ext j
  have h1:=oF h;have a8:q.den=1:=by
   have:=Up (x:=q.den);have h2:2^Jw q.den<=2^1:=Nat.pow_le_pow_right (by decide) om;omega
  refine ρ ?_;refine Xe _ _ sB ⟨Ext.refl _,?_,?_⟩
  .rw[a8,Nat.gcd_one_right,Nat.div_one];exact hX
  rw[a8,Nat.gcd_one_right,Nat.div_one,<-a8];exact hY
 rintro x5 y5 w4 ⟨j,ad,ac⟩;obtain⟨X5,xc,rfl⟩:=ad.1.sl;obtain⟨Y5,yc,rfl⟩:=ac.1.sl;refine ρ ?_;refine ld ((a6.ext j).at (i:=0) rfl) ?_;refine ρ ?_;refine bld (Ua _ _ _ _ _ _ _ _) ?_;refine ρ ?_;refine stb (cs':=[.bool q.neg,.slice X5 _ xc,.slice Y5 _ yc]) (a3.ext j) ?_ (Qz rfl ad.1.one ac.1.one);intro w5 a1 Z D;refine ρ ?_;refine Vp a1 ⟨?_,D w (a2.trans j) (by have:=a5.size;omega)⟩;rw[hq];exact RtX.out ad ac Z U J rfl
end Go.Proofs.YtebiphhfkdbpfaaGreatDoor
