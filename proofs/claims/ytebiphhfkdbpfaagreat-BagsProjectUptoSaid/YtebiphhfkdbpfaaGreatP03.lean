/- Part 3. -/
import Derived.Test.YtebiphhfkdbpfaaGreatP02
import Derived.Maps.RangeWalk
import Derived.Laws.BitsAllLaws
set_option linter.unusedVariables false
set_option maxRecDepth 100000
set_option maxHeartbeats 40000000
namespace Go.Proofs.YtebiphhfkdbpfaaGreat
open Go.RowKit Pl Go.Wk
attribute [local irreducible] WC WL QX WD WDB WP WN
variable {J b c i j k n r s:Nat}{w w' w'':World}
theorem _root_.Go.Wk.GrN.newBy{N:Nat->Prop}(h:GrN N w w')(hg:w'.grownBy w'' (some b))(hb:w.heap.size<=b): GrN N w w'' :=
 ⟨hg.os.trans h.os,hg.tape.trans h.tape,hg.output.trans h.output,Nat.le_trans h.size hg.size,λk i hn=>(hg.block k (nM i h.size) (λe=>by grind)).trans (h.block k i hn)⟩
theorem Jlq{α:Type}{l:List α}(h:l.Nodup)(hi:i<l.length)(hj:j<l.length)(e:l[i]=l[j]): i=j:=by grind [List.pairwise_iff_getElem.1,Nat.lt_trichotomy]
theorem Qcb(h1:1<=s)(h2:s<n)(h3:s<=k): (k-s) % n≠k % n:=by
 intro e;have u:(k-s+s) % n=(k-s) % n:=by grind
 have j:((k-s) % n+s) % n=(k-s) % n:=by grind [Nat.mod_add_mod]
 generalize hx:(k-s) % n=x at *
 have i:x<n:=by rw[<-hx];exact Nat.mod_lt _ om
 rcases Nat.lt_or_ge (x+s) n with h6|h6
 .grind [Nat.mod_eq_of_lt]
 rw[Nat.mod_eq_sub_mod h6,Nat.mod_eq_of_lt om]at j;omega
theorem Qcc(hr:r<n)(hk:n<=k): ∃ s,1<=s/\s<=n/\(k-s) % n=r:=by
 have y:k % n<n:=Nat.mod_lt _ om;have j:=Nat.div_add_mod k n;by_cases h:r<k % n
 .refine⟨k % n-r,om,om,?_⟩;have:k-(k % n-r)=n*(k / n)+r:=om
  rw[this,Nat.mul_add_mod,Nat.mod_eq_of_lt hr]
 refine⟨k % n+n-r,om,om,?_⟩;have u:1<=k / n:=by grind
 obtain⟨q,i⟩:∃ q,k / n=q+1:=⟨k / n-1,om⟩;rw[i,Nat.mul_succ]at j;have:k-(k % n+n-r)=n*q+r:=om
 rw[this,Nat.mul_add_mod,Nat.mod_eq_of_lt hr]
theorem Jlz{F:Fix}{V':Lev}{I:List Nat}{p:Nat->Nat}{jr ja yv:Value}{B:Option Addr}(hO:OnS F V' I)(hne:0<I.length)(hnd:I.Nodup)(hIts:Its F V' I w p)(hJ:JB w J jr ja yv)(hJG:∀ i∈I,F.G i≠J)(hT:∀ i∈I,Off (NG F I J) w (λu=>TriA u (F.A i) (F.d i) (F.rs i)))(hB:Off (NG F I J) w (λu=>Rd u 1 B I.length (Iq F I)))(hp:∀ i∈I,V'.lo i<=p i/\p i<V'.e i)(hK:∀ i∈I,∀ a,V'.lo i<=a->a<p i->cmpV (F.val V' i a) (F.val V' (I.getD 0 0) (p (I.getD 0 0)))<0):
  Ret Tryz.prog 141 [.pointer (some ⟨J,0,none⟩),.slice B I.length c] w λu w'=>GrN (NG F I J) w w'/\JB w' J jr ja yv/\∃ p' t,u=.bool t/\Its F V' I w' p'/\(∀ i∈I,V'.lo i<=p' i/\p' i<=V'.e i) /\
   (t=true->∃ x,(∀ i∈I,p' i<V'.e i/\F.val V' i (p' i)=x)/\cmpV (F.val V' (I.getD 0 0) (p (I.getD 0 0))) x<=0/\∀ y,Cmn F V' I y->cmpV (F.val V' (I.getD 0 0) (p (I.getD 0 0))) y<=0->cmpV x y<=0) /\
   (t=false->∀ y,Cmn F V' I y->¬ cmpV (F.val V' (I.getD 0 0) (p (I.getD 0 0))) y<=0):=by
 have ac:I.getD 0 0∈I:=getD_mem' 0 I hne;obtain⟨K0,b4⟩:∃ K0,K0=F.val V' (I.getD 0 0) (p (I.getD 0 0)):=⟨_,rfl⟩;rw[<-b4]at hK ⊢;have cm:=hO.len;have ar:∀ i∈I,F.G i<w.heap.size:=λi hi=>by obtain⟨st,O⟩:=hIts i hi;exact O.lt
 have bo:J<w.heap.size:=by obtain⟨st,O⟩:=hJ;exact O.lt
 refine Jz Tryz.func141 Tryz.ntmps141 rfl kr rfl ?_;refine ρ ?_;refine ix 0 hB.here hne ?_;refine ρ ?_;refine ld (hB.here.cell (Ij hne)) ?_;refine ρ ?_;obtain⟨cq,bs⟩:=hIts _ ac;have ak:=hO.lev _ ac;have b1:=hp _ ac;have c4:=hO.rng _ ac;refine cl (Jyt bs (hT _ ac).here ak.2.1 ak.2.2 (λ_=>c4.1)) ?_;rintro u w1 ⟨be,v,rfl,hv⟩;have c3:=hv ⟨ak.1,b1.2⟩;have c2:v=K0:=by rw[c3,b4];rfl
 subst c2;rw[decide_eq_true (show 0<V'.L (I.getD 0 0)/\p (I.getD 0 0)<V'.e (I.getD 0 0) from⟨ak.1,b1.2⟩)];refine ρ ?_;refine alc (cs:=V0.cells) Jjm ?_;intro w2 bk bd b2 bu;refine ρ ?_;refine stb (cs':=v.cells) bu ?_ (V.one _);intro w3 av cd bc;have an:Ext w1 w3:=bc w1 bd b2;have a7:=be.trans an;have bj:w.heap.size<=bk:=nL be.size b2;refine ρ ?_;refine Kl (fun (same k:Nat) (key:V) (p:Nat->Nat)=>[(0,.pointer (some ⟨J,0,none⟩)),(1,.slice B I.length c),(5,.pointer (some ⟨bk,0,none⟩)),(7,.int .i64 (same:Int)),(8,.int .i64 (k:Int))])
  (λsame k key p w'=>GrN (NG F I J) w w'/\JB w' J jr ja yv/\Its F V' I w' p/\Blk w' bk 75 key.cells/\(∀ i∈I,V'.lo i<=p i/\p i<V'.e i)/\(∀ i∈I,∀ a,V'.lo i<=a->a<p i->cmpV (F.val V' i a) key<0)/\cmpV v key<=0/\(∀ y,Cmn F V' I y->cmpV v y<=0->cmpV key y<=0) /\
   1<=same/\same<=I.length/\same<=k/\k+(gtN (Kv F V' I) key*33+(I.length-same))<=2000000000/\(∀ s,1<=s->s<=same->F.val V' (I.getD ((k-s) % I.length) 0) (p (I.getD ((k-s) % I.length) 0))=key)) (λsame k key p=>gtN (Kv F V' I) key*33+(I.length-same)) 1 1 v p sB
  ⟨GrN.ext a7,?_,λi hi=>?_,av,hp,hK,by rw[Zr];omega,λy _ h'=>h',Nat.le_refl _,hne,Nat.le_refl _,?_,λs O h2=>?_⟩ ?_
 .obtain⟨st,hJ⟩:=hJ;exact⟨st,hJ.ext a7⟩
 .obtain⟨st,hI⟩:=hIts i hi;exact⟨st,hI.ext a7⟩
 .have O:=Qfq (Kv F V' I) v;have h2:=Jtm (F:=F) (V':=V') (I:=I) (λi hi=>(hO.rng i hi).2);omega
 .have:s=1:=om
  subst this;rw[Nat.sub_self,Nat.zero_mod];exact b4.symm
 clear av cd bc bu an a7 bd b2 hJ hIts hp hK bs b1;rintro same k key p w4 ⟨am,⟨sj,bq⟩,a5,au,a3,b3,ay,a9,cv,cu,cr,d1,bf⟩;refine ρ ?_;refine ci (λO=>?_) (λO=>?_)
 .have cy:same<I.length:=by have:=oT O;omega
  clear O;have c0:=hB w4 am;refine ρ ?_;refine rem (show((I.length:Nat):Int)≠0 by omega) ?_;rw[Qxd];have lr:k % I.length<I.length:=Nat.mod_lt _ hne;refine ρ ?_;refine ix (k % I.length) c0 lr ?_;refine ρ ?_;refine ld (c0.cell (Ij lr)) ?_;refine ρ ?_;obtain⟨i,hi⟩:∃ i,i=I.getD (k % I.length) 0:=⟨_,rfl⟩;rw[<-hi];have D:i∈I:=by rw[hi];exact getD_mem' 0 I lr
  refine lds (cs:=key.cells) (λj u hu=>au.at hu) ?_;refine ρ ?_;obtain⟨cp,cg⟩:=a5 i D;have a4:=hO.lev i D;have az:=hO.rng i D;have c8:=a3 i D;have bn:Off (λk=>k=F.G i) w4 (λu=>TriA u (F.A i) (F.d i) (F.rs i)):=((hT i D).gr am).mono λj _ ej=>.inr ⟨i,D,ej⟩;refine cl (Qdt (v:=key) cg bn a4.1 a4.2.1 a4.2.2 c8.2 az.1 az.2 (λa b O h2 h3=>hO.srt i D a b om h2 h3)) ?_;rintro u w5 ⟨af,q,c1,rfl,cx,cw,c7,c6,br⟩;have ch:∀ j∈I,j≠i->¬ (λk=>k=F.G i) (F.G j):=λj hj ca e=>ca (hO.inj j hj i D e);have bh:GrN (NG F I J) w4 w5:=af.mono λj _ ej=>.inr ⟨i,D,ej⟩;have ai:Its F V' I w5 (upd p i q):=λj hj=>by
   by_cases e:j=i
   .subst e;rw[Qw];exact⟨c1,br⟩
   rw[Jm _ _ e];obtain⟨st,a6⟩:=a5 j hj;exact⟨st,Ja a6 af (ch j hj e)⟩
  have bp:=Ja bq af (λe=>hJG i D e.symm);have bl:¬ (λk=>k=F.G i) bk:=λe=>by have O:=ar i D;omega
  have bt:=Ja au af bl;have ae:=am.trans bh;have Z:∀ a,V'.lo i<=a->a<q->cmpV (F.val V' i a) key<0:=λa O h2=>by
   by_cases h3:a<p i
   .exact b3 i D a O h3
   exact c7 a om h2
  refine ρ ?_;refine ci (λO=>?_) (λO=>?_)
  .have ab:¬ q<V'.e i:=by simpa using O
   refine ρ ?_;refine Jq ⟨ae,⟨sj,bp⟩,upd p i q,false,rfl,ai,λj hj=>?_,λe=>(by cases e),λ_ y hy ax=>?_⟩
   .by_cases e:j=i
    .subst e;rw[Qw];omega
    rw[Jm _ _ e];have:=a3 j hj;omega
   obtain⟨a,h2,h3,h4⟩:=hy i D;have h5:=a9 y hy ax;have h6:=Z a h2 om;rw[h4]at h6;have:=cmp_V.anti key y;omega
  have ab:q<V'.e i:=by simpa using O
  have c5:=c6 ab;clear O;refine ρ ?_;refine cl (Jyt br (bn w5 af) a4.2.1 a4.2.2 (λ_=>az.1)) ?_;rintro u w6 ⟨aw,nx,rfl,c9⟩;have a2:nx=F.val V' i q:=c9 ⟨a4.1,ab⟩;rw[decide_eq_true (show 0<V'.L i/\q<V'.e i from⟨a4.1,ab⟩)];refine ρ ?_;refine alc (cs:=V0.cells) Jjm ?_;intro w7 b7 bb bm bz;refine ρ ?_;refine stb (cs':=nx.cells) bz ?_ (V.one _);intro w8 bw cc ba;have a8:Ext w5 w8:=aw.trans (ba w6 bb bm);have ah:=bp.ext a8;refine ρ ?_;refine ld (ah.at (i:=2) rfl) ?_;refine ρ ?_;refine sto (p:=⟨J,2,none⟩) (ah.cell 2) (ah.frozen _) ?_;have ce:=ah.set 2 (.int .i64 (IntKind.i64.wrap (sj+1)));have cb:GrN (NG F I J) w8 (w8.setCell ⟨J,2,none⟩ (.int .i64 (IntKind.i64.wrap (sj+1)))):=GrN.set _ (.inl rfl);have cn:w.heap.size<=b7:=nL ae.size (nL aw.size bm);have bv:Blk (w8.setCell ⟨J,2,none⟩ (.int .i64 (IntKind.i64.wrap (sj+1)))) b7 75 nx.cells:=bw.far (by simp only;omega) _;have aj:Blk (w8.setCell ⟨J,2,none⟩ (.int .i64 (IntKind.i64.wrap (sj+1)))) bk 75 key.cells:=(bt.ext a8).far (by simp only;omega) _
  have b5:Its F V' I (w8.setCell ⟨J,2,none⟩ (.int .i64 (IntKind.i64.wrap (sj+1)))) (upd p i q):=λj hj=>by
   obtain⟨st,a6⟩:=ai j hj;exact⟨st,(a6.ext a8).far (hJG j hj) _⟩
  have ap:=(ae.trans (GrN.ext a8)).trans cb;clear cc ba bw bz bb aw ah;generalize w8.setCell ⟨J,2,none⟩ (.int .i64 (IntKind.i64.wrap (sj+1)))=w9 at *
  have bg:∀ j∈I,V'.lo j<=upd p i q j/\upd p i q j<V'.e j:=λj hj=>by
   by_cases e:j=i
   .subst e;rw[Qw];have:=a3 j hj;omega
   rw[Jm _ _ e];exact a3 j hj
  refine ρ ?_;refine lds (cs:=nx.cells) (λj u hu=>bv.at hu) ?_;refine ρ ?_;refine lds (cs:=key.cells) (λj u hu=>aj.at hu) ?_;refine ρ ?_;refine cl (Jxq nx key _) ?_;rintro u b9 ⟨rfl,a1⟩;refine ρ ?_;have aq:JB b9 J jr ja yv:=⟨_,ce.ext a1⟩;have aa:Its F V' I b9 (upd p i q):=λj hj=>by
   obtain⟨st,a6⟩:=b5 j hj;exact⟨st,a6.ext a1⟩
  refine ci (λO=>?_) (λO=>?_)
  .have bi:nx=key:=cmp_V.zero _ _ (Ud O);refine ρ ?_;refine Yz (same+1) (k+1) key (upd p i q) sO ⟨ap.trans (GrN.ext a1),aq,aa,aj.ext a1,bg,λj hj a h2 h3=>?_,ay,a9,om,om,om,om,λs h2 h3=>?_⟩ om
   .by_cases e:j=i
    .subst e;rw[Qw]at h3;exact Z a h2 h3
    rw[Jm _ _ e]at h3;exact b3 j hj a h2 h3
   by_cases e:s=1
   .subst e;rw[Nat.add_sub_cancel,<-hi,Qw,<-a2,bi]
   have h4:k+1-s=k-(s-1):=om
   rw[h4];have h5:(k-(s-1)) % I.length<I.length:=Nat.mod_lt _ hne;have h6:I.getD ((k-(s-1)) % I.length) 0≠i:=λe2=>by
    rw[hi,Ql 0 I h5,Ql 0 I lr]at e2;have e3:=Jlq hnd h5 lr e2;exact Qcb (n:=I.length) (k:=k) (s:=s-1) om om om e3
   rw[Jm _ _ h6];exact bf (s-1) om om
  have ck:=Vs O;have ad:cmpV key nx<0:=by
   have h2:=cmp_V.anti nx key;have h3:¬ cmpV nx key<0:=by rw[a2];exact c5
   omega
  have cz:=Jnl (U:=Kv F V' I) (by rw[a2];exact Qnn D om ab) ad;have b8:=aj.ext a1;refine ρ ?_;refine lds (cs:=nx.cells) (λj u hu=>(bv.ext a1).at hu) ?_;refine ρ ?_;refine stb (cs':=nx.cells) b8 ?_ (V.one _);intro co b6 ag cj;have ao:∀ {g:Nat},g<w.heap.size->some g≠some bk:=fun {g} hg e=>by injection e with e;omega
  refine ρ ?_;refine Yz 1 (k+1) nx (upd p i q) sO ⟨(ap.trans (GrN.ext a1)).newBy ag bj,?_,λj hj=>?_,b6,bg,λj hj a h2 h3=>?_,?_,λy hy ax=>?_,Nat.le_refl _,hne,om,om,λs h2 h3=>?_⟩ om
  .obtain⟨st,hJ⟩:=aq;exact⟨st,hJ.grown ag (ao bo)⟩
  .obtain⟨st,a6⟩:=aa j hj;exact⟨st,a6.grown ag (ao (ar j hj))⟩
  .by_cases e:j=i
   .subst e;rw[Qw]at h3;exact cmp_V.lt_trans (Z a h2 h3) ad
   rw[Jm _ _ e]at h3;exact cmp_V.lt_trans (b3 j hj a h2 h3) ad
  .exact Qlk ay om
  .obtain⟨a,h2,h3,h4⟩:=hy i D;have h5:=a9 y hy ax;have h6:q<=a:=by
    rcases Nat.lt_or_ge a q with h7|h7
    .have h8:=Z a h2 h7;rw[h4]at h8;have:=cmp_V.anti key y;omega
    exact h7
   rw[a2,<-h4];by_cases e:a=q
   .subst e;rw[Zr];omega
   have:=hO.srt i D q a om om h3;omega
  have:s=1:=om
  subst this;rw[Nat.add_sub_cancel,<-hi,Qw];exact a2.symm
 have d0:same=I.length:=by have:=oF O;omega
 refine ρ ?_;refine Jq ⟨am,⟨sj,bq⟩,p,true,rfl,a5,λi hi=>⟨(a3 i hi).1,Nat.le_of_lt (a3 i hi).2⟩,λ_=>⟨key,λi hi=>⟨(a3 i hi).2,?_⟩,ay,a9⟩,λe=>by cases e⟩;obtain⟨r,hr,er⟩:=List.getElem_of_mem hi;obtain⟨s,O,h2,h3⟩:=Qcc hr (show I.length<=k by omega);have:=bf s O om;rw[h3,Ql 0 I hr,er]at this;exact this
end Go.Proofs.YtebiphhfkdbpfaaGreat
namespace Go.Proofs.YtebiphhfkdbpfaaGreat
open Pl
variable {vs:List Nat}{d k l n u v:Nat}{q y z z':Row}
def Qo(vs:List Nat): Prop:=vs.Pairwise (· < ·)
def lv(vs:List Nat)(v:Nat): Nat:=(vs.filter λu=>decide (u<v)).length
theorem Jmj(vs:List Nat)(v:Nat): lv vs v<=vs.length:=List.length_filter_le _ _
theorem Jqq(vs:List Nat): lv vs 0=0:=by simp[lv]
theorem Jml(h:∀ u∈vs,u<n): lv vs n=vs.length:=by grind [lv,List.filter_eq_self.2]
theorem Jzw(u:Nat)(vs:List Nat)(v:Nat): lv (u::vs) v=(if u<v then 1 else 0)+lv vs v:=by grind [lv,List.filter_cons_of_pos,List.length_cons,List.filter_cons_of_neg]
theorem Jmh(h:∀ u∈vs,v<=u): lv vs v=0:=by grind [lv,List.filter_eq_nil_iff.2]
theorem Ga(h:v ∉ vs): lv vs (v+1)=lv vs v:=by
 induction vs with
 | nil=>rfl
 | cons u vs ih=>
  grind [Jzw,List.mem_cons_of_mem,List.mem_cons_self]
theorem Vc(ha:Qo vs)(h:v∈vs): lv vs (v+1)=lv vs v+1/\lv vs v<vs.length/\vs.getD (lv vs v) 0=v:=by
 induction vs with
 | nil=>cases h
 | cons u vs ih=>
  obtain⟨j,i⟩:=List.pairwise_cons.1 ha;rw[Jzw,Jzw];rcases List.mem_cons.1 h with rfl|h'
  .grind [lv,Jmh,Nat.le_of_lt,List.length_cons]
  have G:=j v h';obtain⟨F,D,y⟩:=ih i h';grind
theorem Qcp(ha:Qo vs): vs.take (lv vs v)=vs.filter λu=>decide (u<v):=by
 induction vs with
 | nil=>rfl
 | cons u vs ih=>
  obtain⟨j,i⟩:=List.pairwise_cons.1 ha;by_cases h:u<v
  .rw[Jzw,if_pos h,Nat.add_comm 1,List.take_succ_cons,ih i,List.filter_cons_of_pos (by simpa using h)]
  repeat grind [lv,Jmh,List.mem_cons.1,List.filter_eq_nil_iff.2]
theorem Jfm(h:z.take v=z'.take v)(hu:u<v): z.getD u V0=z'.getD u V0:=by
 have:=congrArg (λl=>l.getD u V0) h;grind
theorem Jvz(ha:Qo vs)(h:z.take v=z'.take v): (pmR vs z).take (lv vs v)=(pmR vs z').take (lv vs v):=by
 unfold pmR;rw[<-List.map_take,<-List.map_take,Qcp ha];grind [List.map_congr_left,Jfm,List.mem_filter.1]
theorem Jhw(h:k<vs.length): (pmR vs z).getD k V0=z.getD (vs.getD k 0) V0:=Jht h
theorem Jhv(ha:Qo vs)(h:v∈vs): (pmR vs z).take (lv vs v+1)=(pmR vs z).take (lv vs v)++[z.getD v V0]:=by
 obtain⟨_,i,j⟩:=Vc ha h;rw[Xu V0 (by rw[Zj];exact i),Jhw i,j]
theorem Jrs: ∀(v:Nat) (z z':Row),z.take v=z'.take v->v<z.length->v<z'.length->cmpV (z.getD v V0) (z'.getD v V0)<0->Jw z z' []<0
 | 0,a::z,b::z',_,_,_,h=>by
  simp only[List.getD_cons_zero]at h;simp only[Jw];rw[if_neg om];exact h
 | v+1,a::z,b::z',h,h1,h2,h3=>by
  simp only[List.take_succ_cons,List.cons.injEq]at h;simp only[Jw];rw[if_pos (by grind [Zr])];exact Jrs v z z' h.2 (by simpa using h1) (by simpa using h2) (by simpa using h3)
 | _,[],_,_,h,_,_=>by simp at h
 | _,_::_,[],_,_,h,_=>by simp at h
def Gw(n m:Nat)(vars:Nat->List Nat)(rs:Nat->List Row)(z:Row): Prop:=z.length=n/\∀ i,i<m->pmR (vars i) z∈rs i
theorem Qxh(h1:q.length=l+1)(h2:q.take l=y): q=y++[q.getD l V0]:=by
 have:=Xu V0 (l:=q) (k:=l) om;grind
theorem Qvs{rs:List Row}(h:Srt [] rs)(hl:∀ r∈rs,r.length=d)(hld:l<=d)(hq:q∈pfx rs l): q.length=l:=by grind [Jqg,List.length_take]
theorem Qzm(x:V): (z.set v x).take v=z.take v:=List.take_set_of_le (nR _)
theorem Qzn(x:V)(h:v<z.length): (z.set v x).getD v V0=x:=by grind
theorem Jfl(h:z.take v=z'.take v)(hu:u<=v): z.take u=z'.take u:=by
 have:=congrArg (List.take u) h;grind
theorem Qxg(h:z.take v=z'.take v)(h1:v<z.length)(h2:v<z'.length)(h3:z.getD v V0=z'.getD v V0): z.take (v+1)=z'.take (v+1):=by grind [Xu,V0]
open Go.RowKit Pl Go.Wk
attribute [local irreducible] WC WL QX WD WDB WP WN
variable {L' e' i k v:Nat}{f' h' p':Nat->Nat}
structure JC where
 F: Fix
 n:Nat
 m:Nat
 vars:Nat->List Nat
 J:Nat
 Ra:Option Addr
 base:Nat
 ja:Value
 yv:Value
 vat:Nat->Value
 N:Nat->Prop
def JC.I(c:JC)(v:Nat): List Nat:=(List.range c.m).filter λi=>decide (v∈c.vars i)
theorem JC.mem_I{c:JC}: i∈c.I v↔i<c.m/\v∈c.vars i:=by simp[JC.I]
theorem JC.nodup_I(c:JC)(v:Nat): (c.I v).Nodup:=List.Nodup.sublist List.filter_sublist List.nodup_range
theorem JC.len_I(c:JC)(v:Nat): (c.I v).length<=c.m:=by have:=List.length_filter_le (λi=>decide (v∈c.vars i)) (List.range c.m);rw[List.length_range]at this;exact this
def JC.rowv(c:JC): Value:=.slice c.Ra c.n c.n
abbrev JC.Ans(c:JC)(z:Row): Prop:=Gw c.n c.m c.vars c.F.rs z
def JC.NI(c:JC)(k:Nat): Prop:=k=c.J∨(∃ i,i<c.m/\k=c.F.G i)∨c.rowv.ownBlock=some k
structure JOk(c:JC): Prop where
 n32:c.n<=32
 m32:c.m<=32
 asc:∀ i,i<c.m->Qo (c.vars i)
 lt:∀ i,i<c.m->∀ u∈c.vars i,u<c.n
 d:∀ i,i<c.m->c.F.d i=(c.vars i).length
 d32:∀ i,i<c.m->c.F.d i<=32
 ne:∀ i,i<c.m->c.F.rs i≠[]
 srt:∀ i,i<c.m->Lt [] (c.F.rs i)
 len:∀ i,i<c.m->∀ r∈c.F.rs i,r.length=c.F.d i
 big:∀ i,i<c.m->(c.F.rs i).length<=65536
 inj:∀ i j,i<c.m->j<c.m->c.F.G i=c.F.G j->i=j
 gj:∀ i,i<c.m->c.F.G i≠c.J
 cov:∀ v,v<c.n->∃ i,i<c.m/\v∈c.vars i
 sub:∀ k,c.NI k->c.N k
structure JEnv(c:JC)(w:World): Prop where
 tri:∀ i,i<c.m->Off c.N w (λu=>TriA u (c.F.A i) (c.F.d i) (c.F.rs i))
 at_:∃ B cc,c.ja=.slice B c.n cc/\Off c.N w (λu=>Rd u 1 B c.n ((List.range c.n).map c.vat))
 lists:∀ v,v<c.n->∃ B cc,c.vat v=.slice B (c.I v).length cc/\Off c.N w (λu=>Rd u 1 B (c.I v).length (Iq c.F (c.I v)))
theorem JEnv.gr{c:JC}{w w':World}(h:JEnv c w)(hg:GrN c.N w w'): JEnv c w':=by
 refine⟨λi hi=>(h.tri i hi).gr hg,?_,λv y=>?_⟩
 .obtain⟨B,u,e,j⟩:=h.at_;exact⟨B,u,e,j.gr hg⟩
 obtain⟨B,u,e,j⟩:=h.lists v y;exact⟨B,u,e,j.gr hg⟩
def AllIt(c:JC)(w:World)(L p e:Nat->Nat)(f h:Nat->Nat->Nat): Prop:=∀ i,i<c.m->∃ st,ItB w (c.F.G i) (c.F.A i) (c.F.d i) (L i) (p i) (e i) (f i) (h i) st
structure YC(c:JC)(Y:List Row->World->Prop)(NY:Nat->Prop): Prop where
 sub:∀ k,NY k->c.N k
 off:∀ k,NY k->¬ c.NI k
 keep:∀ l w w',Y l w->GrN c.NI w w'->Y l w'
 call:∃ fid first cap,c.yv=.func (.func fid) first cap/\∀ l w vr z,Y l w->RowV w vr z->l.length<65536->Ret Tryz.prog fid (first.toList++[vr]++cap.toList) w λr w'=>r=.bool true/\Y (l++[z]) w'/\GrN NY w w'
structure Cfg(c:JC)(Y:List Row->World->Prop)(w:World)(z:Row)(L p e:Nat->Nat)(f h:Nat->Nat->Nat)(l:List Row): Prop where
 env:JEnv c w
 its:AllIt c w L p e f h
 row:Vu w c.base c.rowv z
 zl:z.length=c.n
 jb:JB w c.J c.rowv c.ja c.yv
 y:Y l w
section
variable {c:JC} {Y:List Row->World->Prop} {NY:Nat->Prop} {w w':World} {z:Row} {L p e:Nat->Nat} {f h:Nat->Nat->Nat} {l:List Row}
theorem Cfg.ext(H:Cfg c Y w z L p e f h l)(hY:YC c Y NY)(hx:Ext w w'): Cfg c Y w' z L p e f h l :=
 ⟨H.env.gr (GrN.ext hx),λi hi=>by obtain⟨st,j⟩:=H.its i hi;exact⟨st,j.ext hx⟩,Jc H.row hx,H.zl,by obtain⟨st,j⟩:=H.jb;exact⟨st,j.ext hx⟩,hY.keep _ _ _ H.y (GrN.ext hx)⟩
theorem Cfg.rowG(H:Cfg c Y w z L p e f h l)(hi:i<c.m)(hk:c.rowv.ownBlock=some k): k≠c.F.G i:=λu=>by
 obtain⟨st,j⟩:=H.its i hi;exact j.ne_own H.row rfl (by rw[hk,u])
theorem Cfg.rowJ(H:Cfg c Y w z L p e f h l)(hk:c.rowv.ownBlock=some k): k≠c.J:=λj=>by
 obtain⟨st,i⟩:=H.jb;exact i.ne_own H.row rfl (by rw[hk,j])
theorem Cfg.it(H:Cfg c Y w z L p e f h l)(hok:JOk c)(hY:YC c Y NY)(hi:i<c.m)(hg:GrN (λk=>k=c.F.G i) w w'){p':Nat}{st:Int}(hI:ItB w' (c.F.G i) (c.F.A i) (c.F.d i) L' p' e' f' h' st):
  Cfg c Y w' z (upd L i L') (upd p i p') (upd e i e') (upd f i f') (upd h i h') l:=by
 have u:GrN c.NI w w':=hg.mono λk _ D=>.inr (.inl ⟨i,hi,D⟩);refine⟨H.env.gr (u.mono λk _ U=>hok.sub k U),λj O=>?_,Jo H.row hg (λg Z=>H.rowG hi Z),H.zl,?_,hY.keep _ _ _ H.y u⟩
 .by_cases ej:j=i
  .grind [Qw]
  rw[Jm _ _ ej,Jm _ _ ej,Jm _ _ ej,Jm _ _ ej,Jm _ _ ej];obtain⟨st,J⟩:=H.its j O;exact⟨st,Ja J hg (λD=>ej (hok.inj j i O hi D))⟩
 obtain⟨st,J⟩:=H.jb;exact⟨st,Ja J hg (λD=>hok.gj i hi D.symm)⟩
theorem Cfg.mt(H:Cfg c Y w z L p e f h l)(hok:JOk c)(hY:YC c Y NY)(hg:GrN (NG c.F (c.I v) c.J) w w')(hJ:JB w' c.J c.rowv c.ja c.yv)(hI:Its c.F ⟨L,λ_=>0,e,f,h⟩ (c.I v) w' p'):
  Cfg c Y w' z L (λi=>if i∈c.I v then p' i else p i) e f h l:=by
 have D:GrN c.NI w w':=hg.mono λk _ u=>by
  rcases u with u|⟨i,hi,u⟩
  .exact .inl u
  exact .inr (.inl ⟨i,(JC.mem_I.1 hi).1,u⟩)
 refine⟨H.env.gr (D.mono λk _ U=>hok.sub k U),λj G=>?_,Jo H.row hg (λg O=>?_),H.zl,hJ,hY.keep _ _ _ H.y D⟩
 .by_cases ej:j∈c.I v
  .simp only[if_pos ej];exact hI j ej
  simp only[if_neg ej];obtain⟨st,Z⟩:=H.its j G;refine⟨st,Ja Z hg ?_⟩;rintro(u|⟨i,hi,u⟩)
  .exact hok.gj j G u
  have:=hok.inj j i G (JC.mem_I.1 hi).1 u;subst this;exact ej hi
 rintro(u|⟨i,hi,u⟩)
 .exact H.rowJ O u
 exact H.rowG (JC.mem_I.1 hi).1 O u
end
end Go.Proofs.YtebiphhfkdbpfaaGreat
namespace Go.Wk
open Go.RowKit
open Go.Maps (Keyed)
variable {kl:Lit}{f:Lit->Option Value}{b k m:Nat}{x y:Operand}{kd:TK}{e t:TypeId}{key u v z:Value}
abbrev DV:= DataW Value
def RT(v:Value): Option (DV×List MemPlace):=some (.held v,[])
theorem Jtn{ps:List MemPlace}(h:RT v=some (.held u,ps)): v=u:=by grind [RT,Option.some.injEq]
def MapS(P:Program)(k:TypeId)(w:World)(b n:Nat)(f:Lit->Option Value): Prop :=
 ∃ D:DV,w.ownsMap P k RT b n D/\(∀ kl,Maps.has D kl=(f kl).isSome)/\∀ kl zd,D.atKey kl zd=(match f kl with|some v=>.held v|none=>zd)
def upL(f:Lit->Option Value)(kl:Lit)(x:Option Value): Lit->Option Value:=λz=>if z.sameKey kl=true then x else f z
section
variable {P:Program} {k:TypeId} {w w':World} {b n:Nat} {f:Lit->Option Value}
theorem MapS.lt(h:MapS P k w b n f): b<w.heap.size:=by obtain⟨D,i,_⟩:=h;exact i.lt
theorem MapS.kept{row:Option Nat}(h:MapS P k w b n f)(hg:w.grownBy w' row)(hne:some b≠row): MapS P k w' b n f:=by
 obtain⟨D,j,i⟩:=h;exact⟨D,j.kept hg hne,i⟩
theorem MapS.gr{N:Nat->Prop}(h:MapS P k w b n f)(hg:GrN N w w')(hn:¬ N b): MapS P k w' b n f:=by
 obtain⟨D,⟨G,i,u,F⟩,y⟩:=h;have j:b<w.heap.size:=by grind
 exact⟨D,⟨G,i,(hg.block b j hn).trans u,F⟩,y⟩
theorem MapS.ext(h:MapS P k w b n f)(hx:Ext w w'): MapS P k w' b n f:=h.gr (N:=λ_=>False) (GrN.ext hx) (λe=>e)
theorem MapS.mono(h:MapS P k w b n f){m:Nat}(hm:n<=m): MapS P k w b m f:=by obtain⟨D,j,i⟩:=h;exact⟨D,j.mono hm,i⟩
theorem MapS.made(w:World)(P:Program)(k:TypeId): MapS P k (w.alloc (.map #[] 0)) w.heap.size 0 (λ_=>none) :=
 ⟨.map [],World.ownsMap_made w P k RT,λi=>rfl,λi j=>rfl⟩
theorem Jjt(hk:WideAt.IsKeyLit kl)(x:Option Value): upL f kl x kl=x:=by unfold upL;rw[if_pos (WideAt.sameKey_self hk)]
theorem Jjs{z:Lit}(h:z≠kl)(x:Option Value): upL f kl x z=f z:=by
 unfold upL;rw[if_neg (by rw[Maps.sameKey_ne h];simp)]
theorem MapS.look(h:MapS P k w b n f)(K:Keyed P k)(ht:P.underlying t=some (.map k e))(hz:(zeroValue e).run P w=.ok z w)(hkey:keyOf P k key=some kl):
  (Instr.lookup t (.map (some b)) key true).run P w=.ok (.tuple #[(f kl).getD z,.bool (f kl).isSome]) w/\(Instr.lookup t (.map (some b)) key false).run P w=.ok ((f kl).getD z) w:=by
 obtain⟨D,i,F,y⟩:=h;have G:D.atKey kl (.held z)=.held ((f kl).getD z):=by grind
 constructor
 .obtain⟨v,ps,u,j⟩:=i.look_ok K ht hz (zd:=.held z) (zp:=[]) rfl hkey;grind [Jtn]
 obtain⟨v,ps,u,j⟩:=i.lookup K ht hz (zd:=.held z) (zp:=[]) rfl hkey;grind [Jtn]
theorem MapS.put(h:MapS P k w b n f)(K:Keyed P k)(ht:P.underlying t=some (.map k e))(hn:n<maxLen)(hkey:keyOf P k key=some kl)(v:Value):
  ∃ w',(Instr.mapUpdate t (.map (some b)) key v).run P w=.ok () w'/\MapS P k w' b (n+1) (upL f kl (some v))/\w.grownBy w' (some b):=by
 obtain⟨D,j,J,G⟩:=h;obtain⟨w',u,y,F⟩:=j.update K ht hn hkey (val:=v) (d:=.held v) (ps:=[]) rfl;have i:=K.key hkey;refine⟨w',u,⟨_,y,λx=>?_,λx O=>?_⟩,F⟩
 .by_cases e:x=kl
  .subst e;rw[Jjt i,Maps.has_put_same j.isMap i];rfl
  rw[Jjs e,Maps.has_put_other e,J]
 by_cases e:x=kl
 .subst e;rw[Jjt i,Maps.atKey_put_same j.isMap i]
 rw[Jjs e,Maps.atKey_put_other e,G]
theorem MapS.drop(h:MapS P k w b n f)(K:Keyed P k){t e:TypeId}(ht:P.underlying t=some (.map k e)){key:Value}{kl:Lit}(hkey:keyOf P k key=some kl)(ty:TypeId):
  ∃ w',(Builtin.delete_ #[t,k] ty #[.map (some b),key]).run P w=.ok (.tuple #[]) w'/\MapS P k w' b n (upL f kl none)/\w.grownBy w' (some b):=by
 obtain⟨D,J,G,F⟩:=h;obtain⟨w',j,u,y⟩:=J.drop K ht hkey ty;have i:=K.key hkey;refine⟨w',j,⟨_,u,λx=>?_,λx O=>?_⟩,y.grown⟩
 .by_cases e:x=kl
  .subst e;rw[Jjt i,Maps.has_del_same];rfl
  rw[Jjs e,Maps.has_del_other e,G]
 by_cases e:x=kl
 .subst e;rw[Jjt i,Maps.atKey_del_same]
 rw[Jjs e,Maps.atKey_del_other e,F]
theorem MapS.len0(h:MapS P k w b n f)(ht:P.underlying t=some (.map k e))(K:Keyed P k)(ty:TypeId): ∃ m:Nat,(Builtin.len_ #[t] ty #[.map (some b)]).run P w=.ok (.int .i64 (m:Int)) w/\(m=0↔∀ kl,f kl=none):=by
 obtain⟨D,y,u,F⟩:=h;refine⟨Maps.size D,y.len ht ty,?_⟩;obtain⟨j,rfl,_,i⟩:=y.entries K;constructor
 .intro h0 kl;have:j=[]:=List.eq_nil_of_length_eq_zero h0;subst this;have:=u kl;cases hf:f kl with
  | none=>rfl
  | some v=>rw[hf]at this;cases this
 intro hn;cases j with
 | nil=>rfl
 | cons p j=>
  have:=u p.1;rw[hn p.1,Maps.has_eq,List.any_cons,WideAt.sameKey_self (i p (mC ..))]at this;cases this
theorem Qzp(hz:Qu P t=some z)(w:World): (zeroValue t).run P w=.ok z w:=by
 unfold Qu at hz;obtain⟨i,u,j⟩:=Option.bind_eq_some_iff.1 hz;simp[zeroValue,typeInfo,u,j]
end
section
variable {N:Nat->Prop} {P:Program} {n:Nat} {al:AL} {w:World} {Q:Exit->Act->World->Prop} {ops:Array Oper} {rest:List Oper} {drest:List (Nat×Oper)}
variable {d ty:Nat} {pos:String} {aft:Array Edge} {tt:TT}
theorem mkm{t:Nat}(k:TypeId)(kk:∀ w1 b,Ext w w1->w.heap.size<=b->MapS P k w1 b 0 (λ_=>none)->WL P n ops Q rest ((d,.map (some b))::al) w1)(hd:Nat.blt d n=true:=by rfl):
  WL P n ops Q (⟨some d,.makeMap t none,ty,pos,aft,none⟩::rest) al w :=
 wop hd (λa i=>by
  show _=Result.ok (Next.value (.map (some w.heap.size))) (w.alloc (.map #[] 0));simp[execOp,run_makeMap]) (kk _ _ ((Ext.refl w).alloc _) (nR _) (MapS.made w P k))
theorem mlk[hT:Tab P tt]{t e:Nat}(K:Keyed P k)(hM:MapS P k w b m f)(hz:Qu P e=some z)(hkey:keyOf P k key=some kl)(kk:WL P n ops Q rest ((d,(f kl).getD z)::al) w)(ht:tk tt t=some kd:=by rfl)(hk:kd.desc=.map k e:=by rfl)(hx:ev al x=some (.map (some b)):=by rfl)(hy:ev al y=some key:=by rfl)(hd:Nat.blt d n=true:=by rfl):
  WL P n ops Q (⟨some d,.lookup t x y false,ty,pos,aft,none⟩::rest) al w :=
 wop hd (λa i=>by
  have:=(hM.look K (Yl hT.ok ht hk rfl) (Qzp hz w) hkey).2;simp[execOp,i.ev hx,i.ev hy,this]) kk
theorem mup[hT:Tab P tt]{t e:Nat}{z:Operand}(K:Keyed P k)(hM:MapS P k w b m f)(hm:m<maxLen)(hkey:keyOf P k key=some kl)(kk:∀ w1,MapS P k w1 b (m+1) (upL f kl (some v))->w.grownBy w1 (some b)->WL P n ops Q rest al w1)(ht:tk tt t=some kd:=by rfl)(hk:kd.desc=.map k e:=by rfl)(hx:ev al x=some (.map (some b)):=by rfl)(hy:ev al y=some key:=by rfl)(hv:ev al z=some v:=by rfl):
  WL P n ops Q (⟨none,.mapUpdate t x y z,ty,pos,aft,none⟩::rest) al w:=by
 obtain⟨w',j,D,u⟩:=hM.put K (Yl hT.ok ht hk rfl) hm hkey v;exact Kh (λa i=>by simp[execOp,i.ev hx,i.ev hy,i.ev hv,j]) (kk w' D u)
end
end Go.Wk
namespace Go.Wk
open Go.RowKit
variable {cs:List Value}{b d n ty:Nat}{α β:Type}{v v' z:Value}
def Vr(base:Nat)(v:Value)(k:Nat): Prop:=k<base∨v.ownBlock=some k
def Jd(ps:List (List Value×α)): List Value:=ps.flatMap (·.1)
theorem Jpc{α:Type}{sz:Nat}: ∀ {ps:List (List Value×α)},(∀ p∈ps,p.1.length=sz)->(Jd ps).length=ps.length*sz
 | [],_=>by simp[Jd]
 | p::ps,h=>by
  have:=Jpc (ps:=ps) λq hq=>h q (List.mem_cons_of_mem _ hq);grind [Jd,List.length_append,List.length_cons,List.mem_cons_self,Nat.succ_mul]
theorem Jbf{α:Type}{sz:Nat}: ∀ {ps:List (List Value×α)} {i j:Nat} {p:List Value×α},(∀ p∈ps,p.1.length=sz)->ps[i]?=some p->j<sz->(Jd ps)[i*sz+j]?=p.1[j]?
 | [],_,_,_,_,h,_=>by cases h
 | q::ps,0,j,p,hl,h,hj=>by
  simp only[List.getElem?_cons_zero,Option.some.injEq]at h;subst h;simp only[Jd,List.flatMap_cons,Nat.zero_mul,Nat.zero_add];grind
 | q::ps,i+1,j,p,hl,h,hj=>by
  simp only[List.getElem?_cons_succ]at h;have ih:=Jbf (i:=i) (j:=j) (λp hp=>hl p (List.mem_cons_of_mem _ hp)) h hj;grind [Jd,List.getElem?_append_right,List.mem_cons_self,Nat.succ_mul]
section
variable {α:Type} {E:TypeId} {sz:Nat} {Φ:World->List Value->α->Prop} {w w':World} {base:Nat} {v:Value} {ls:List α}
def OwnG(E:TypeId)(sz:Nat)(Φ:World->List Value->α->Prop)(w:World)(base:Nat)(v:Value)(ls:List α): Prop :=
 ∃ ps:List (List Value×α),ls=ps.map (·.2)/\w.ownsRow base E sz v ps.length (Jd ps)/\∀ p∈ps,p.1.length=sz/\Off (Vr base v) w (λu=>Φ u p.1 p.2)
def GV(sz:Nat)(Φ:World->List Value->α->Prop)(w:World)(v:Value)(ls:List α): Prop :=
 ∃(ps:List (List Value×α)) (A:Option Addr) (c:Nat),ls=ps.map (·.2)/\v=.slice A ps.length c/\ps.length<=c/\ps.length<=1100000/\Rd w sz A ps.length (Jd ps)/\∀ p∈ps,p.1.length=sz/\Φ w p.1 p.2
theorem OwnG.nil(w:World)(base:Nat): OwnG E sz Φ w base (.slice none 0 0) []:=⟨[],rfl,Xk _ _ _ _,λp i=>by cases i⟩
theorem OwnG.gr{N:Nat->Prop}(h:OwnG E sz Φ w base v ls)(hg:GrN N w w')(hN:∀ k,N k->k<base): OwnG E sz Φ w' base v ls:=by
 obtain⟨ps,e,u,i⟩:=h;refine⟨ps,e,Jo u hg (λg D hn=>?_),λp j=>⟨(i p j).1,(i p j).2.gr (hg.mono λk _ y=>.inl (hN k y))⟩⟩;grind [Jy]
theorem OwnG.ext(h:OwnG E sz Φ w base v ls)(hx:Ext w w'): OwnG E sz Φ w' base v ls:=h.gr (N:=λ_=>False) (GrN.ext hx) (λk e=>e.elim)
theorem OwnG.form(h:OwnG E sz Φ w base v ls): ∃ A c,v=.slice A ls.length c/\ls.length<=c/\∀ g,v.ownBlock=some g->base<=g/\g<w.heap.size:=by
 obtain⟨ps,e,j,i⟩:=h;grind [Jy,List.length_map]
theorem OwnG.gv(h:OwnG E sz Φ w base v ls)(hm:ls.length<=1100000): GV sz Φ w v ls:=by
 obtain⟨ps,e,j,i⟩:=h;obtain⟨A,c,y,u,D⟩:=Jy j;subst y;exact⟨ps,A,c,e,rfl,u,by grind,Rd.own j,λp hm=>⟨(i p hm).1,(i p hm).2.here⟩⟩
theorem OwnG.off(h:OwnG E sz Φ w base v ls)(hm:ls.length<=1100000): Off (λk=>k<base) w (λu=>GV sz Φ u v ls):=λw' j=>(h.gr j λk i=>i).gv hm
theorem GV.ext(h:GV sz Φ w v ls)(hx:Ext w w')(hΦ:∀ cs a,Φ w cs a->Φ w' cs a): GV sz Φ w' v ls:=by
 obtain⟨ps,A,c,e,F,D,y,u,i⟩:=h;exact⟨ps,A,c,e,F,D,y,u.ext hx,λp j=>⟨(i p j).1,hΦ _ _ (i p j).2⟩⟩
theorem GV.imp{Ψ:World->List Value->β->Prop}{f:α->β}(h:GV sz Φ w v ls)(hΦ:∀ cs a,a∈ls->Φ w cs a->Ψ w cs (f a)): GV sz Ψ w v (ls.map f):=by
 obtain⟨ps,A,c,e,G,F,D,i,j⟩:=h;have y:Jd (ps.map λp=>(p.1,f p.2))=Jd ps:=by simp[Jd,List.flatMap_map]
 refine⟨ps.map λp=>(p.1,f p.2),A,c,by rw[e];simp,by grind,by grind,by grind,by grind,λp u=>?_⟩;grind
theorem GV.len(h:GV sz Φ w v ls): ∃ A c,v=.slice A ls.length c/\ls.length<=c/\ls.length<=1100000:=by
 obtain⟨ps,A,c,e,D,y,u,i,j⟩:=h;grind
theorem GV.parts(h:GV sz Φ w v ls): ∃ A c cs,v=.slice A ls.length c/\ls.length<=c/\ls.length<=1100000/\Rd w sz A ls.length cs/\∀ i (hi:i<ls.length),∃ ce,ce.length=sz/\Φ w ce ls[i]/\∀ j u,ce[j]?=some u->w.cell? ((adr A (i*sz)).add j)=some u:=by
 obtain⟨ps,A,c,e,e1,Z,U,G,D⟩:=h;subst e;refine⟨A,c,Jd ps,by grind,by grind,by grind,by grind,λi hi=>?_⟩;rw[List.length_map]at hi;have J:=D ps[i] (List.getElem_mem hi);refine⟨ps[i].1,J.1,by grind,λj u F=>?_⟩;have O:j<sz:=by grind
 rw[Ky];exact G.cell ((Jbf (λp y=>(D p y).1) (gE hi) O).trans F)
theorem OwnG.after{ps:List (List Value×α)}(e:ls=ps.map (·.2))(hp:∀ p∈ps,p.1.length=sz/\Off (Vr base v) w (λu=>Φ u p.1 p.2)){w':World}{x:α}(hl:cs.length=sz)(hx:Off (Vr base v) w (λu=>Φ u cs x))(ho:w'.ownsRow base E sz v' (ps.length+1) (Jd ps++cs))(hg:w.grownBy w' v.ownBlock)(hn:∀ g,v'.ownBlock=some g->v.ownBlock=some g∨w.heap.size<=g): OwnG E sz Φ w' base v' (ls++[x]):=by
 have i:∀(cs:List Value) (x:α),Off (Vr base v) w (λu=>Φ u cs x)->Off (Vr base v') w' (λu=>Φ u cs x):=λcs x y=>by
  have J:Off (Vr base v) w' (λu=>Φ u cs x):=y.gr (GrN.by hg λk j=>.inr j);have F:Off (λk=>Vr base v k∨Vr base v' k) w (λu=>Φ u cs x):=y.mono λk j h=>by
   rcases h with h|h|h
   .exact h
   .exact .inl h
   rcases hn k h with h4|h4
   .exact .inr h4
   omega
  exact(F.gr (GrN.by hg λk j=>.inl (.inr j))).mono λk _ h=>.inr h
 refine⟨ps++[(cs,x)],by rw[e];simp,?_,λp D=>?_⟩
 .have G:Jd (ps++[(cs,x)])=Jd ps++cs:=by simp[Jd]
  rw[List.length_append,G];exact ho
 rcases List.mem_append.1 D with h'|h'
 .exact⟨(hp p h').1,i _ _ (hp p h').2⟩
 rw[List.mem_singleton.1 h'];exact⟨hl,i _ _ hx⟩
end
theorem apG{P:Program}{al:AL}{w:World}{Q:Exit->Act->World->Prop}{ops:Array Oper}{rest:List Oper}{pos:String}{aft:Array Edge}{t E sz bytes base:Nat}(hE:ElT P t E sz bytes z){Φ:World->List Value->α->Prop}{x y:Operand}{ls:List α}{a:α}(ho:OwnG E sz Φ w base v ls)(hb:Blk w b E cs)(hl:cs.length=sz)(h1:∀ u∈cs,u.oneCell'=true)(hΦ:Off (Vr base v) w (λu=>Φ u cs a))(hm:ls.length<=1100000)(hby:bytes<=64)(hbase:base<=w.heap.size)(kk:∀ v' w',OwnG E sz Φ w' base v' (ls++[a])->w.grownBy w' v.ownBlock->(∀ g,v'.ownBlock=some g->v.ownBlock=some g∨w.heap.size<=g)->WL P n ops Q rest ((d,v')::al) w')(hx:ev al x=some v:=by rfl)(hy:ev al y=some (.slice (some ⟨b,0,none⟩) 1 1):=by rfl)(hd:Nat.blt d n=true:=by rfl):
  WL P n ops Q (⟨some d,.call { callee:=.builtin .append,args:=#[x,y],argTypes:=#[t,t] },ty,pos,aft,none⟩::rest) al w:=by
 obtain⟨ps,e,j,F⟩:=ho;have i:ps.length<=1100000:=by grind
 have D:(ps.length+1)*bytes<=1100001*64:=Nat.mul_le_mul om hby;refine apb hE j (hb.rd (n:=1) om) h1 (by unfold maxLen;omega) om hbase ?_ hx hy hd;grind [OwnG.after]
end Go.Wk
namespace Go.Proofs.YtebiphhfkdbpfaaGreat
namespace Pl
variable {cs l:List Nat}{c j n v:Nat}{g h:Nat->Nat}
def Uy: Nat->(Nat->Nat)->Nat
 | 0,_=>1
 | n+1,g=>Uy n g*g n
theorem Qvc(e:∀ c,c<n->g c=h c): Uy n g=Uy n h:=by
 induction n with
 | zero=>rfl
 | succ n ih=>rw[Uy,Uy,ih (λc i=>e c om),e n om]
theorem prodR_pos: 0<Uy n g↔∀ c,c<n->0<g c:=by
 induction n with
 | zero=>exact⟨λ_ c i=>om,λ_=>Nat.one_pos⟩
 | succ n ih=>
  grind [Uy,Nat.pos_of_mul_pos_right,Nat.pos_of_mul_pos_left,Nat.mul_pos]
section
variable {α:Type}
def tot: List (α×Nat)->Nat
 | []=>0
 | p::l=>p.2+tot l
def prj(d0:α)(cs:List Nat)(y:List α): List α:=cs.map λc=>y.getD c d0
theorem Qvf{d0:α}{y z:List α}(h:∀ c∈cs,y.getD c d0=z.getD c d0): prj d0 cs y=prj d0 cs z:=List.map_congr_left h
theorem Jns{d0:α}{y z:List α}(h:c<y.length): (y++z).getD c d0=y.getD c d0:=by grind
structure AX(α:Type) where
 d0: α
 F:Nat
 ks:Nat->List Nat
 par:Nat->Int
 E:Nat->List α->List (α×Nat)
def AX.key(X:AX α)(c:Nat)(y:List α): List α:=prj X.d0 (X.ks c) y
def AX.T(X:AX α)(c:Nat)(y:List α): Nat:=tot (X.E c (X.key c y))
structure AX.Ok(X:AX α): Prop where
 kl:∀ v,v<X.F->∀ u∈X.ks v,(u:Int)<=X.par v
 pl:∀ v,v<X.F->-1<=X.par v/\X.par v<v
 wt:∀ v,v<X.F->∀ y,y.length=v->∀ p∈X.E v (X.key v y),0<p.2/\p.2=Uy X.F (λc=>if X.par c=v then X.T c (y++[p.1]) else 1)
def AX.ext(X:AX α): Nat->List α->List (List α)
 | 0,y=>[y]
 | n+1,y=>(X.E y.length (X.key y.length y)).flatMap λp=>X.ext n (y++[p.1])
variable {X:AX α}
theorem AX.ext_mem: ∀(n:Nat) (y x:List α),x∈X.ext n y↔x.length=y.length+n/\x.take y.length=y/\∀ v,y.length<=v->v<y.length+n->x.getD v X.d0∈(X.E v (X.key v (x.take v))).map (·.1)
 | 0,y,x=>by grind [AX.ext,List.mem_singleton,List.take_length,List.take_of_length_le]
 | n+1,y,x=>by
  rw[AX.ext,List.mem_flatMap];constructor
  .rintro⟨p,hp,hx⟩;obtain⟨h1,h2,h3⟩:=(AX.ext_mem n _ x).1 hx;rw[List.length_append,List.length_singleton]at h1 h2 h3;have hy:x.take y.length=y:=by
    have:=congrArg (List.take y.length) h2;grind
   refine⟨om,hy,λv h4 h5=>?_⟩;by_cases e:v=y.length
   .subst e;rw[hy];have:x.getD y.length X.d0=p.1:=by
     have:=congrArg (λl=>l.getD y.length X.d0) h2;grind
    grind
   repeat grind
  rintro⟨h1,h2,h3⟩;obtain⟨p,hp,e⟩:=List.mem_map.1 (h3 y.length (nR _) om);rw[h2]at hp;refine⟨p,hp,(AX.ext_mem n _ x).2 ⟨?_,?_,λv h4 h5=>h3 v ?_ ?_⟩⟩
  .simp;omega
  .rw[List.length_append,List.length_singleton,e];have hl:y.length<x.length:=om
   grind [List.take_add_one,List.getD,List.getElem?_eq_getElem]
  repeat grind
end
structure BX(α:Type) where
 d0: α
 N:Nat
 F:Nat
 K:Nat->List Nat
 par:Nat->Int
 pl:Nat->Nat
 ats:List (List Nat×List (List α))
 T:Nat->List α->Nat
 E:Nat->List α->List (α×Nat)
section
variable {α:Type}
def BX.bag(X:BX α)(v:Nat)(z:List α): Prop:=∀ a∈X.ats,∃ r∈a.2,∀ j,j<a.1.length->(a.1.getD j 0=v∨a.1.getD j 0∈X.K v)->r.getD j X.d0=z.getD (a.1.getD j 0) X.d0
def BX.W(X:BX α)(v:Nat)(z:List α): Nat:=Uy X.N (λc=>if X.par c=v then X.T c (prj X.d0 (X.K c) z) else 1)
structure BX.Ok(X:BX α): Prop where
 FN:X.F<=X.N
 plN:∀ v,v<X.N->X.pl v<X.N
 inj:∀ u v,u<X.N->v<X.N->X.pl u=X.pl v->u=v
 k1:∀ v,v<X.N->∀ u∈X.K v,u<X.N/\X.pl v<X.pl u
 k2:∀ v,v<X.N->(X.K v=[]/\X.par v = -1)∨∃ p:Nat,X.par v=p/\p∈X.K v/\∀ u∈X.K v,X.pl p<=X.pl u
 k3:∀ v,v<X.N->∀ p:Nat,X.par v=p->∀ x∈X.K v,x=p∨x∈X.K p
 k4:∀ a∈X.ats,∀ v∈a.1,(∀ u∈a.1,X.pl v<=X.pl u)->∀ u∈a.1,u=v∨u∈X.K v
 k5:∀ u v,u<X.F->v<u->X.pl u<X.pl v
 k6:∀ u v,u<X.F->X.F<=v->v<X.N->X.pl v<X.pl u
 al:∀ a∈X.ats,(∀ u∈a.1,u<X.N)/\∀ r∈a.2,r.length=a.1.length
 t1:∀ v,X.F<=v->v<X.N->∀ k,X.T v k<=1/\(0<X.T v k↔∃ z,z.length=X.N/\X.bag v z/\prj X.d0 (X.K v) z=k/\0<X.W v z)
 t2:∀ v,v<X.F->∀ k,X.T v k=tot (X.E v k)/\∀ p,p∈X.E v k↔∃ z,z.length=X.N/\X.bag v z/\prj X.d0 (X.K v) z=k/\z.getD v X.d0=p.1/\p.2=X.W v z/\0<p.2
def BX.Roots(X:BX α): Prop:=(∀ v,v<X.N->X.par v = -1->0<X.T v [])/\∀ a∈X.ats,a.2≠[]
variable {X:BX α}
theorem Jhs(d0:α){y:List α}(h:j<cs.length): (prj d0 cs y).getD j d0=y.getD (cs.getD j 0) d0:=by
 simp[prj,List.getD,List.getElem?_eq_getElem h]
theorem BX.Ok.kpar(h:X.Ok)(hc:c<X.N)(hp:X.par c=v): v∈X.K c/\v<X.N/\X.pl c<X.pl v/\∀ u∈X.K c,u=v∨u∈X.K v:=by
 rcases h.k2 c hc with⟨_,i⟩|⟨p,i,h3,_⟩
 .rw[i]at hp;omega
 have:p=v:=om
 subst this;exact⟨h3,(h.k1 c hc p h3).1,(h.k1 c hc p h3).2,h.k3 c hc p hp⟩
theorem BX.bag_congr{z z':List α}(e:∀ u,u=v∨u∈X.K v->z.getD u X.d0=z'.getD u X.d0)(hb:X.bag v z): X.bag v z':=λa i=>by
 obtain⟨r,j,y⟩:=hb a i;grind
theorem BX.Ok.W_congr(h:X.Ok){z z':List α}(e:∀ u,u=v∨u∈X.K v->z.getD u X.d0=z'.getD u X.d0): X.W v z=X.W v z':=by
 refine Qvc λc j=>?_;split
 .rename_i hp;rw[Qvf λu i=>e u ((h.kpar j hp).2.2.2 u i)]
 rfl
theorem BX.Ok.choose(h:X.Ok){y:List α}(hy:y.length=X.F)(hE:∀ v,v<X.F->y.getD v X.d0∈(X.E v (prj X.d0 (X.K v) y)).map (·.1))(hR:X.Roots):
  ∀ n,n<=X.N->∃ z,z.length=X.N/\(∀ u,u<X.F->z.getD u X.d0=y.getD u X.d0)/\∀ v,v<X.N->(v<X.F∨X.N<=X.pl v+n)->X.bag v z/\0<X.W v z:=by
 intro n;induction n with
 | zero=>
  intro _;refine⟨y++List.replicate (X.N-X.F) X.d0,by have:=h.FN;simp[hy];omega,λu G=>Jns om,λv hv J=>?_⟩;have hF:v<X.F:=J.resolve_right (by have:=h.plN v hv;omega);obtain⟨p,hp,e⟩:=List.mem_map.1 (hE v hF);obtain⟨z,hz,hb,hk,a4,hw,h0⟩:=((h.t2 v hF _).2 p).1 hp;have i:∀ u,u=v∨u∈X.K v->z.getD u X.d0=(y++List.replicate (X.N-X.F) X.d0).getD u X.d0:=by
   intro u G;have ac:u<X.F:=by
    rcases G with rfl|G
    .exact hF
    have:=h.k1 v hv u G;rcases Nat.lt_or_ge u X.F with h'|h'
    .exact h'
    have:=h.k6 v u hF h' this.1;omega
   rw[Jns om];rcases G with rfl|G
   .rw[a4,e]
   obtain⟨j,hj,ej⟩:=List.getElem_of_mem G;have:=congrArg (λl=>l.getD j X.d0) hk;grind [Jhs,List.getD,List.getElem?_eq_getElem]
  exact⟨BX.bag_congr i hb,by rw[<-h.W_congr i,<-hw];exact h0⟩
 | succ n ih=>
  intro hn;obtain⟨z,hz,a8,hg⟩:=ih om;by_cases hv:∃ v,v<X.N/\X.F<=v/\X.pl v+(n+1)=X.N
  .obtain⟨v,D,Z,ab⟩:=hv;have hT:0<X.T v (prj X.d0 (X.K v) z):=by
    rcases h.k2 v D with⟨h1,h2⟩|⟨p,h2,h3,_⟩
    .rw[h1];exact hR.1 v D h2
    have hp:=h.kpar D h2;have:=(hg p hp.2.1 (.inr om)).2;have h5:=prodR_pos.1 this v D;grind
   obtain⟨O,a9,a7,a6,a3⟩:=(h.t1 v Z D _).2.1 hT;have aa:v<z.length:=om
   have far:∀ u,u≠v->(z.set v (O.getD v X.d0)).getD u X.d0=z.getD u X.d0:=by grind
   refine⟨z.set v (O.getD v X.d0),by simp[hz],λu G=>by grind,λu G J=>?_⟩;by_cases e:u=v
   .subst e;have i:∀ x,x=u∨x∈X.K u->O.getD x X.d0=(z.set u (O.getD u X.d0)).getD x X.d0:=by
     intro x U;by_cases ex:x=u
     .grind
     rw[far x ex];have a2:=U.resolve_left ex;obtain⟨j,hj,ej⟩:=List.getElem_of_mem a2;have:=congrArg (λl=>l.getD j X.d0) a6;grind [Jhs,List.getD,List.getElem?_eq_getElem]
    exact⟨BX.bag_congr i a7,by rw[<-h.W_congr i];exact a3⟩
   have a5:X.pl v<X.pl u:=by
    rcases J with J|J
    .exact h.k6 u v J Z D
    have:X.pl u≠X.pl v:=λe'=>e (h.inj u v G D e');omega
   have i:∀ x,x=u∨x∈X.K u->z.getD x X.d0=(z.set v (O.getD v X.d0)).getD x X.d0:=by
    intro x U;refine(far x ?_).symm;rintro rfl;rcases U with rfl|U
    .exact e rfl
    have:=(h.k1 u G x U).2;omega
   have a1:=hg u G (by grind);exact⟨BX.bag_congr i a1.1,by rw[<-h.W_congr i];exact a1.2⟩
  repeat grind
def BX.ix(X:BX α): AX α:=⟨X.d0,X.F,X.K,X.par,X.E⟩
end
def Jxv(v:Nat)(nb:Nat->Nat->Bool): Nat->Nat->Bool:=λu x=>if nb v u then(nb u x || nb v x) && (x != u) && (x != v) else nb u x
def nbAt(nb:Nat->Nat->Bool): List Nat->Nat->Nat->Bool
 | []=>nb
 | v::l=>nbAt (Jxv v nb) l
structure NbInv(l:List Nat)(nb:Nat->Nat->Bool): Prop where
 sym:∀ u x,u ∉ l->x ∉ l->nb u x=nb x u
 gone:∀ u x,u ∉ l->nb u x=true->x ∉ l/\x≠u
theorem NbInv.step{nb:Nat->Nat->Bool}(h:NbInv l nb)(hv:v ∉ l): NbInv (l++[v]) (Jxv v nb):=by
 have D:∀ {u},u ∉ l++[v]->u ∉ l/\u≠v:=by grind
 constructor
 .intro u x F i;obtain⟨j,O⟩:=D F;obtain⟨J,Z⟩:=D i;have U:=h.sym u x j J;unfold Jxv;by_cases e1:nb v u=true<;>by_cases e2:nb v x=true
  .grind
  .rw[if_pos e1,if_neg e2];have G:(x != v)=true:=bne_iff_ne.2 Z;rw[Bool.not_eq_true]at e2;rw[e2,G,Bool.or_false,Bool.and_true,<-U];cases e3:nb u x with
   | false=>rfl
   | true=>rw[bne_iff_ne.2 (h.gone u x j e3).2];rfl
  .rw[if_neg e1,if_pos e2];have G:(u != v)=true:=bne_iff_ne.2 O;rw[Bool.not_eq_true]at e1;rw[e1,G,Bool.or_false,Bool.and_true,U];cases e3:nb x u with
   | false=>rfl
   | true=>rw[bne_iff_ne.2 (h.gone x u J e3).2];rfl
  repeat grind
 intro u x F i;obtain⟨j,O⟩:=D F;unfold Jxv at i;rw[List.mem_append,List.mem_singleton,not_or];by_cases e1:nb v u=true
 .rw[if_pos e1]at i;simp only[Bool.and_eq_true,Bool.or_eq_true,bne_iff_ne]at i;refine⟨⟨?_,i.2⟩,i.1.2⟩;rcases i.1.1 with y|y
  .exact(h.gone u x j y).1
  exact(h.gone v x hv y).1
 rw[if_neg e1]at i;obtain⟨y,h2⟩:=h.gone u x j i;refine⟨⟨y,λe=>?_⟩,h2⟩;subst e;exact e1 ((h.sym x u y j).trans i)
theorem NbInv.at{nb:Nat->Nat->Bool}(h:NbInv [] nb): ∀ {l:List Nat},l.Nodup->NbInv l (nbAt nb l):=by
 intro l;have key:∀(l m:List Nat) (i:Nat->Nat->Bool),NbInv m i->(m++l).Nodup->NbInv (m++l) (nbAt i l):=by
  intro l;induction l with
  | nil=>intro m i h _;rw[List.append_nil];exact h
  | cons v l ih=>
   intro m i h hn;have j:v ∉ m:=by grind
   have e:m++v::l=(m++[v])++l:=by simp
   rw[e]at hn ⊢;exact ih (m++[v]) _ (h.step j) hn
 intro hn;exact key l [] nb h hn
def pre(ord:List Nat)(v:Nat): List Nat:=ord.takeWhile (· != v)
section
variable {nb:Nat->Nat->Bool} {ord:List Nat} (h0:NbInv [] nb) (hn:ord.Nodup)
end
end Pl
namespace Pl
variable {m n:Nat}{x y z:Row}{a b:V}
theorem Jrr{ds:List Bool}: ∀ {m:Nat} {x z:Row},x.take m=z.take m->m<x.length->m<z.length->cmpV (x.getD m V0) (z.getD m V0)≠0->Jw x z ds=neg (ds.getD m false) (cmpV (x.getD m V0) (z.getD m V0))
 | 0,a::x,b::z,_,_,_,h=>by grind [List.getD_cons_zero,Jw]
 | m+1,a::x,b::z,h,h1,h2,h3=>by
  simp only[List.take_succ_cons,List.cons.injEq]at h;simp only[List.getD_cons_succ]at h3 ⊢;simp only[Jw];rw[if_pos (by grind [Zr]),Jrr h.2 (by simpa using h1) (by simpa using h2) h3];simp[List.getD]
 | _,[],_,_,h,_,_=>by simp at h
 | _,_::_,[],_,_,h,_=>by simp at h
theorem Qbs{d:Bool}(h:neg d (cmpV a b)<0): cmpV a b≠0:=by
 intro e;rw[e]at h;unfold neg at h;split at h<;>omega
theorem Qlm{ds:List Bool}(h:x.take m=z.take m)(h1:m<x.length)(h2:m<z.length)(h3:neg (ds.getD m false) (cmpV (x.getD m V0) (z.getD m V0))<0): Jw x z ds<0:=by grind [Jrr,Qbs]
def SrtE(d:Bool)(l:List (V×Nat)): Prop:=l.Pairwise λp q=>neg d (cmpV p.1 q.1)<0
abbrev IX:= AX V
structure AX.Srt(X:IX)(ds:List Bool): Prop where
 d0:X.d0=V0
 srt:∀ v,v<X.F->∀ k,SrtE (ds.getD v false) (X.E v k)
theorem AX.ext_at_col{X:IX}(hx:x∈X.ext n (y++[a])): x.length=y.length+1+n/\x.take y.length=y/\x.getD y.length V0=a:=by
 obtain⟨j,i,_⟩:=(AX.ext_mem n _ x).1 hx;rw[List.length_append,List.length_singleton]at j i;refine⟨j,?_,?_⟩
 .have:=congrArg (List.take y.length) i;grind
 have:=congrArg (λl=>l.getD y.length V0) i;grind
theorem AX.Srt.ext{X:IX}{ds:List Bool}(h:X.Srt ds): ∀(n:Nat) (y:Row),y.length+n=X.F->Lt ds (X.ext n y)
 | 0,y,_=>List.pairwise_singleton _ _
 | n+1,y,e=>by
  rw[AX.ext];refine List.pairwise_flatMap.2 ⟨λp _=>h.ext n _ (by simp;omega),(h.srt y.length om _).imp fun {p q} hpq x hx z hz=>?_⟩;obtain⟨h1,h2,h3⟩:=AX.ext_at_col hx;obtain⟨h4,h5,h6⟩:=AX.ext_at_col hz;exact Qlm (m:=y.length) (by rw[h2,h5]) om om (by rw[h3,h6];exact hpq)
end Pl
namespace Pl
inductive Tr where
 | nil
 | node (l:Tr) (v:V) (x:Nat) (r:Tr)
namespace Tr
def ht: Tr->Nat
 | .nil=>0
 | .node l _ _ r=>max l.ht r.ht+1
def sz: Tr->Nat
 | .nil=>0
 | .node l _ _ r=>l.sz+1+r.sz
def toL: Tr->List (V×Nat)
 | .nil=>[]
 | .node l v x r=>l.toL++(v,x)::r.toL
def left: Tr->Tr
 | .nil=>.nil
 | .node l _ _ _=>l
def right: Tr->Tr
 | .nil=>.nil
 | .node _ _ _ r=>r
def bal(l:Tr)(v:V)(x:Nat)(r:Tr): Tr :=
 if r.ht+1<l.ht then
  match l with
  | .nil=>.node .nil v x r
  | .node ll lv lx lr=>
   if lr.ht<=ll.ht then .node ll lv lx (.node lr v x r)
   else match lr with
    | .nil=>.node (.node ll lv lx .nil) v x r
    | .node ml mv mx mr=>.node (.node ll lv lx ml) mv mx (.node mr v x r)
 else if l.ht+1<r.ht then
  match r with
  | .nil=>.node l v x .nil
  | .node rl rv rx rr=>
   if rl.ht<=rr.ht then .node (.node l v x rl) rv rx rr
   else match rl with
    | .nil=>.node l v x (.node .nil rv rx rr)
    | .node ml mv mx mr=>.node (.node l v x ml) mv mx (.node mr rv rx rr)
 else .node l v x r
theorem Jfk(l:Tr)(v:V)(x:Nat)(r:Tr): (bal l v x r).toL=l.toL++(v,x)::r.toL:=by
 unfold bal;split
 .cases l with
  | nil=>rfl
  | node ll lv lx lr=>
   simp only;split
   repeat grind [toL]
 split
 .cases r with
  | nil=>rfl
  | node rl rv rx rr=>
   simp only;split
   repeat grind [toL]
 rfl
def put(d:Bool)(v:V)(x:Nat): Tr->Tr
 | .nil=>.node .nil v x .nil
 | .node l a y r=>if neg d (cmpV v a)<0 then bal (put d v x l) a y r else if 0<neg d (cmpV v a) then bal l a y (put d v x r) else .node l v x r
theorem put_last{d:Bool}{v:V}{x:Nat}: ∀ {t:Tr},(∀ p∈t.toL,0<neg d (cmpV v p.1))->(put d v x t).toL=t.toL++[(v,x)]
 | .nil,_=>rfl
 | .node l a y r,h=>by
  have h1:=h (a,y) (by simp[toL]);have h2:=put_last (d:=d) (v:=v) (x:=x) (t:=r) (λp hp=>h p (by simp[toL,hp]));grind [put,Jfk,toL]
theorem put_first{d:Bool}{v:V}{x:Nat}: ∀ {t:Tr},(∀ p∈t.toL,neg d (cmpV v p.1)<0)->(put d v x t).toL=(v,x)::t.toL
 | .nil,_=>rfl
 | .node l a y r,h=>by
  have h1:=h (a,y) (by simp[toL]);have h2:=put_first (d:=d) (v:=v) (x:=x) (t:=l) (λp hp=>h p (by simp[toL,hp]));grind [put,Jfk,toL]
end Tr
end Pl
namespace Pl
variable {rs:List Row}{m:Nat}{k x:Row}{wt:Row->Nat}
def Xt(wt:Row->Nat)(m:Nat)(rs:List Row)(k:Row): List (V×Nat):=(rs.filter λx=>decide (x.take m=k) && decide (0<wt x)).map λx=>(x.getD m V0,wt x)
def Jwz(d:Bool)(wt:Row->Nat)(m:Nat)(bs:List (Row×Tr))(x:Row): List (Row×Tr) :=
 if wt x=0 then bs
 else if(bs.getLast?.map (·.1))=some (x.take m) then bs.dropLast++[(x.take m,Tr.put d (x.getD m V0) (wt x) ((bs.getLast?.map (·.2)).getD .nil))]
 else bs++[(x.take m,Tr.put d (x.getD m V0) (wt x) .nil)]
def Jqx(d:Bool)(l:List (V×Nat)): List (V×Nat):=if d then l.reverse else l
structure GInv(d:Bool)(wt:Row->Nat)(m:Nat)(rs:List Row)(bs:List (Row×Tr)): Prop where
 lt:Lt [] (bs.map (·.1))
 con:∀ b∈bs,b.2.toL=Jqx d (Xt wt m rs b.1)/\Xt wt m rs b.1≠[]
 all:∀ k,Xt wt m rs k≠[]->k∈bs.map (·.1)
theorem Jbm(wt:Row->Nat)(m:Nat)(rs:List Row)(x k:Row): Xt wt m (rs++[x]) k=Xt wt m rs k++if x.take m=k/\0<wt x then[(x.getD m V0,wt x)] else[]:=by grind [Xt,List.filter_cons_of_pos,List.filter_cons_of_neg]
theorem entL_mem{p:V×Nat}: p∈Xt wt m rs k↔∃ x∈rs,x.take m=k/\x.getD m V0=p.1/\wt x=p.2/\0<p.2:=by
 unfold Xt;grind
theorem entL_ne: Xt wt m rs k≠[]↔∃ x∈rs,x.take m=k/\0<wt x:=by
 constructor
 .intro h;obtain⟨p,y⟩:=List.exists_mem_of_ne_nil _ h;obtain⟨x,u,j,i,F,D⟩:=entL_mem.1 y;grind
 rintro⟨x,u,j,i⟩ e;have:=(entL_mem (p:=(x.getD m V0,wt x))).2 ⟨x,u,j,rfl,rfl,i⟩;grind
theorem Jrm: ∀(m:Nat) {x y:Row},Jw x y []<0->Jw (x.take m) (y.take m) []<=0
 | 0,x,y,_=>by simp[Jw]
 | m+1,[],[],h=>by simp[Jw]
 | m+1,[],b::y,h=>by simp[Jw]
 | m+1,a::x,[],h=>by simp[Jw]at h
 | m+1,a::x,b::y,h=>by
  simp only[Jw,List.take_succ_cons,List.drop_nil]at h ⊢;by_cases e:cmpV a b=0
  .rw[if_pos e]at h ⊢;exact Jrm m h
  repeat grind
theorem Jrp: ∀(m:Nat) {x y:Row},Jw x y []<0->x.take m=y.take m->x.length=m+1->y.length=m+1->cmpV (x.getD m V0) (y.getD m V0)<0
 | 0,[a],[b],h,_,_,_=>by
  simp only[Jw]at h;by_cases e:cmpV a b=0
  .grind
  rw[if_neg e]at h;exact h
 | m+1,a::x,b::y,h,ht,h1,h2=>by
  simp only[List.take_succ_cons,List.cons.injEq]at ht;simp only[Jw,List.drop_nil]at h;rw[if_pos (by grind [Zr])]at h;simp only[List.getD_cons_succ];exact Jrp m h ht.2 (by simpa using h1) (by simpa using h2)
theorem Jnm{α:Type}{l:List α}(h:l≠[]): ∃ i z,l=i++[z]/\l.getLast?=some z/\l.dropLast=i:=by grind [List.dropLast_concat_getLast,List.getLast?_eq_some_getLast]
theorem GInv.step{d:Bool}{bs:List (Row×Tr)}(h:GInv d wt m rs bs)(hs:Lt [] (rs++[x]))(hl:∀ y∈rs++[x],y.length=m+1): GInv d wt m (rs++[x]) (Jwz d wt m bs x):=by
 have a2:=hl x (by simp);have a4:∀ y∈rs,Jw y x []<0:=λy hy=>(List.pairwise_append.1 hs).2.2 y hy x (by simp);by_cases h0:wt x=0
 .have e:∀ k,Xt wt m (rs++[x]) k=Xt wt m rs k:=by grind [Jbm]
  rw[Jwz,if_pos h0];exact⟨h.lt,λb j=>by rw[e];exact h.con b j,λk u=>h.all k (by rw[<-e k];exact u)⟩
 have h1:0<wt x:=om
 have eo:∀ k,k≠x.take m->Xt wt m (rs++[x]) k=Xt wt m rs k:=by grind [Jbm]
 have ex:Xt wt m (rs++[x]) (x.take m)=Xt wt m rs (x.take m)++[(x.getD m V0,wt x)]:=by grind [Jbm]
 have G:∀ k∈bs.map (·.1),Jw k (x.take m) []<=0:=λk u=>by
  obtain⟨b,j,rfl⟩:=List.mem_map.1 u;obtain⟨y,hy,e,_⟩:=entL_ne.1 (h.con b j).2;grind [Jrm]
 have J:∀ p∈Xt wt m rs (x.take m),cmpV p.1 (x.getD m V0)<0:=λp O=>by
  obtain⟨y,hy,D,e2,_⟩:=entL_mem.1 O;rw[<-e2];exact Jrp m (a4 y hy) D (hl y (by simp[hy])) a2
 have F:∀ t:Tr,t.toL=Jqx d (Xt wt m rs (x.take m))->(Tr.put d (x.getD m V0) (wt x) t).toL=Jqx d (Xt wt m (rs++[x]) (x.take m)):=λt ht=>by
  rw[ex];cases d with
  | false=>
   rw[Tr.put_last,ht];· rfl
   intro p O;rw[ht]at O;have:=J p O;have:=cmp_V.anti p.1 (x.getD m V0);grind [neg]
  | true=>
   rw[Tr.put_first,ht];· simp[Jqx]
   intro p O;rw[ht]at O;have:=J p (by simpa [Jqx] using O);have:=cmp_V.anti p.1 (x.getD m V0);grind [neg]
 rw[Jwz,if_neg h0];by_cases hl2:(bs.getLast?.map (·.1))=some (x.take m)
 .rw[if_pos hl2];have Z:bs≠[]:=by grind
  obtain⟨i,z,D,e2,e3⟩:=Jnm Z;rw[e2]at hl2 ⊢;have hz:z.1=x.take m:=by simpa using hl2
  rw[e3];have a6:=h.con z (by rw[D];simp);have a3:∀ b∈i,b.1≠x.take m:=λb j e=>by
   have:=h.lt;rw[D,List.map_append]at this;have:=(List.pairwise_append.1 this).2.2 b.1 (List.mem_map_of_mem j) z.1 (by simp);grind [Yc]
  refine⟨?_,λb j=>?_,λk u=>?_⟩
  .have:=h.lt;grind
  .rcases List.mem_append.1 j with j|j
   .rw[eo _ (a3 b j)];exact h.con b (by rw[D];simp[j])
   rw[List.mem_singleton.1 j];refine⟨F _ (by grind),?_⟩;simp only;rw[ex];simp
  by_cases e:k=x.take m
  .rw[e];simp
  rw[eo k e]at u;have:=h.all k u;grind
 rw[if_neg hl2];have U:x.take m ∉ bs.map (·.1):=λu=>by
  have Z:bs≠[]:=by grind
  obtain⟨i,z,D,e2,e3⟩:=Jnm Z;rw[e2]at hl2;have hz:z.1≠x.take m:=λe=>hl2 (by simp[e]);rw[D,List.map_append,List.mem_append]at u;have h5:=h.lt;rw[D,List.map_append]at h5;rcases u with u|u
  .have h6:=(List.pairwise_append.1 h5).2.2 _ u z.1 (by simp);have h7:=G z.1 (by rw[D];simp);have:=Kk [] |>.anti (x.take m) z.1;omega
  repeat grind
 have he:Xt wt m rs (x.take m)=[]:=Classical.byContradiction λh'=>U (h.all _ h');refine⟨?_,λb j=>?_,λk u=>?_⟩
 .rw[List.map_append];refine List.pairwise_append.2 ⟨h.lt,by simp,λk u k' a1=>?_⟩;rw[List.map_singleton,List.mem_singleton]at a1;rw[a1];have h7:=G k u;have h8:Jw k (x.take m) []≠0:=λe=>U (by rw[<-(Kk []).zero _ _ e];exact u);simp only;omega
 .rcases List.mem_append.1 j with j|j
  .have a5:b.1∈bs.map (·.1):=List.mem_map_of_mem j
   rw[eo _ (λe=>U (by rw[<-e];exact a5))];exact h.con b j
  rw[List.mem_singleton.1 j];refine⟨F _ (by rw[he];cases d<;>rfl),?_⟩;grind
 by_cases e:k=x.take m
 .rw[e];simp
 rw[eo k e]at u;rw[List.map_append,List.mem_append];exact .inl (h.all k u)
theorem GInv.nil(d:Bool)(wt:Row->Nat)(m:Nat): GInv d wt m [] []:=⟨List.Pairwise.nil,λb j=>(by cases j),λk i=>absurd rfl i⟩
end Pl
open Go.RowKit Pl Go.Wk
attribute [local irreducible] WC WL QX WD WDB WP WN
variable {c:JC}{l:List Row}{Y:List Row->World->Prop}{L e p:Nat->Nat}{f h:Nat->Nat->Nat}{x z:Row}{w:World}
structure Pth(c:JC)(v:Nat)(z:Row)(p e:Nat->Nat): Prop where
 path:∀ i,i<c.m->Vv (c.F.rs i) (lv (c.vars i) v) (p i)=(pmR (c.vars i) z).take (lv (c.vars i) v)
 rng:∀ i,i<c.m->0<lv (c.vars i) v->p i<e i/\e i<=(pfx (c.F.rs i) (lv (c.vars i) v)).length
def Jtr(c:JC)(Y:List Row->World->Prop)(v:Nat)(z:Row)(p e:Nat->Nat)(f h:Nat->Nat->Nat)(l:List Row)(w:World)(u:Value)(w':World): Prop :=
 u=.bool true/\GrN c.N w w'/\∃ z' f' h' l',Cfg c Y w' z' (λi=>lv (c.vars i) v) p e f' h' l'/\z'.take v=z.take v/\(∀ i,i<c.m->∀ k,k<lv (c.vars i) v->f' i k=f i k/\h' i k=h i k)/\Lt [] l'/\∀ x,x∈l'↔x∈l∨(c.Ans x/\x.take v=z.take v)
theorem Cfg.rowV(H:Cfg c Y w z L p e f h l)(hok:JOk c): RowV w c.rowv z:=by
 have i:=H.row;have j:=hok.n32;refine⟨c.Ra,c.n,by rw[H.zl];rfl,by rw[H.zl];exact nR _,by rw[H.zl];omega,?_⟩;rw[Vu,H.zl]at i;rw[RdR,H.zl];exact Rd.own i
theorem Pth.ans(h:Pth c c.n z p e)(hok:JOk c)(hz:z.length=c.n): c.Ans z:=by
 refine⟨hz,λi hi=>?_⟩;have u:=h.path i hi;have j:=Jml (hok.lt i hi);rw[j,List.take_of_length_le (by rw[Zj];exact nR _)]at u;rw[<-u];have G:=hok.d i hi;by_cases h0:(c.vars i).length=0
 .rw[Vv,if_pos h0];obtain⟨r,y⟩:=List.exists_mem_of_ne_nil _ (hok.ne i hi);have:=hok.len i hi r y;grind
 rw[Vv,if_neg h0];have D:=h.rng i hi om;rw[j]at D;have F:=Qvt (hok.srt i hi) (hok.len i hi);grind
theorem Qxj{n:Nat}(h1:x.length=n)(h2:z.length=n)(h:x.take n=z.take n): x=z:=by grind
theorem Qgb{NY:Nat->Prop}(hok:JOk c)(hY:YC c Y NY)(hcap:∀ l:List Row,Lt [] l->(∀ x∈l,c.Ans x)->l.length<=65536)(H:Cfg c Y w z (λi=>lv (c.vars i) c.n) p e f h l)(hP:Pth c c.n z p e)(hl:Lt [] l)(hla:∀ x∈l,c.Ans x)(hls:∀ x∈l,∀ z',c.Ans z'->z'.take c.n=z.take c.n->Jw x z' []<0):
  Ret Tryz.prog 114 [.pointer (some ⟨c.J,0,none⟩),.int .i64 (c.n:Int)] w (Jtr c Y c.n z p e f h l w):=by
 have ab:=hP.ans hok H.zl;obtain⟨st,Z⟩:=H.jb;have aa:=hok.n32;obtain⟨ac,first,ad,a1,G⟩:=hY.call;have a2:c.rowv=.slice c.Ra c.n c.n:=rfl;rw[a2,a1]at Z;refine Jz Tryz.func114 Tryz.ntmps114 rfl kr rfl ?_;refine ρ ?_;refine ld (Z.at (i:=0) rfl) ?_;refine ρ ?_;refine ct ?_ ?_
 .exact beq_t rfl
 refine ρ ?_;refine ld (Z.at (i:=2) rfl) ?_;refine ρ ?_;refine sto (p:=⟨c.J,2,none⟩) (Z.cell 2) (Z.frozen _) ?_;have a7:=Z.set 2 (.int .i64 (IntKind.i64.wrap (st+1)));have a5:GrN (λk=>k=c.J) w (w.setCell ⟨c.J,2,none⟩ (.int .i64 (IntKind.i64.wrap (st+1)))):=GrN.set _ rfl;have F:GrN c.NI w (w.setCell ⟨c.J,2,none⟩ (.int .i64 (IntKind.i64.wrap (st+1)))):=GrN.set _ (.inl rfl);refine ρ ?_;generalize w.setCell ⟨c.J,2,none⟩ (.int .i64 (IntKind.i64.wrap (st+1)))=w2 at *
 have H2:Cfg c Y w2 z (λi=>lv (c.vars i) c.n) p e f h l:=by
  refine⟨H.env.gr (F.mono λk _ U=>hok.sub k U),λi hi=>?_,Jo H.row a5 (λg eg=>H.rowJ eg),H.zl,⟨_,by rw[a2,a1];exact a7⟩,hY.keep _ _ _ H.y F⟩;obtain⟨st,O⟩:=H.its i hi;exact⟨st,Ja O a5 (hok.gj i hi)⟩
 refine drN (λ_=>False) 10 [(0,0),(0,1),(0,2),(0,3),(0,4),(0,5),(0,6),(0,7),(2,8),(2,9)] kr ?_;have D:Ext w2 w2.drew:=(Ext.refl w2).drew;have a6:=a7.ext D;have H3:=H2.ext hY D;refine ρn ?_;refine nld (Qf (a6.at (i:=3) rfl) (λe=>e)) ?_;refine ρn ?_;refine nld (Qf (a6.at (i:=0) rfl) (λe=>e)) ?_;refine ρn ?_;refine Xm ?_;have a9:Lt [] (l++[z]):=by
  refine List.pairwise_append.2 ⟨hl,List.pairwise_singleton _ _,λx hx y hy=>?_⟩;grind
 have a3:l.length<65536:=by grind
 refine clv (G l _ c.rowv z H3.y (H3.rowV hok) a3) ?_;rintro u w4 ⟨rfl,a8,j⟩;refine ρ ?_;refine Uf ?_;refine Xm ?_;refine ρ ?_;have a4:GrN c.N w w4:=((F.mono λk _ U=>hok.sub k U).trans (GrN.ext D)).trans (j.mono λk _ U=>hY.sub k U);refine Jq ⟨rfl,a4,z,f,h,l++[z],⟨H.env.gr a4,λi hi=>?_,Jo H3.row j (λg eg hn=>hY.off g hn (.inr (.inr eg))),H.zl,?_,a8⟩,rfl,λi hi k U=>⟨rfl,rfl⟩,a9,λx=>?_⟩
 .obtain⟨st,O⟩:=H3.its i hi;exact⟨st,Ja O j (λhn=>hY.off _ hn (.inr (.inl ⟨i,hi,rfl⟩)))⟩
 .obtain⟨st,O⟩:=H3.jb;exact⟨st,Ja O j (λhn=>hY.off _ hn (.inl rfl))⟩
 rw[List.mem_append,List.mem_singleton];constructor
 .grind
 rintro(h'|⟨O,h2⟩)
 .exact .inl h'
 exact .inr (Qxj O.1 H.zl h2)
open Go.RowKit Pl Go.Wk
variable {a i:Nat}{e e1 p p1:Nat->Nat}{y z z2:Row}
structure LS where
 L: Nat->Nat
 p:Nat->Nat
 e:Nat->Nat
 f:Nat->Nat->Nat
 h:Nat->Nat->Nat
def LS.upd(S:LS)(i L p e:Nat)(f h:Nat->Nat): LS:=⟨Wk.upd S.L i L,Wk.upd S.p i p,Wk.upd S.e i e,Wk.upd S.f i f,Wk.upd S.h i h⟩
theorem Cfg.congr{c:JC}{Y:List Row->World->Prop}{w:World}{L L' p' e':Nat->Nat}{f h f' h':Nat->Nat->Nat}{l:List Row}(H:Cfg c Y w z L p e f h l)(h1:∀ i,i<c.m->L' i=L i/\p' i=p i/\e' i=e i/\f' i=f i/\h' i=h i): Cfg c Y w z L' p' e' f' h' l :=
 ⟨H.env,λi hi=>by obtain⟨G,F,D,u,j⟩:=h1 i hi;rw[G,F,D,u,j];exact H.its i hi,H.row,H.zl,H.jb,H.y⟩
def JC.vl(c:JC)(v i a:Nat): V:=(lvl (c.F.rs i) (lv (c.vars i) v)).getD a V0
structure Sib(c:JC)(v:Nat)(z:Row)(lo hi:Nat->Nat): Prop where
 lt:∀ i∈c.I v,lo i<hi i/\hi i<=(pfx (c.F.rs i) (lv (c.vars i) v+1)).length
 ch:∀ i∈c.I v,∀ a,a<(pfx (c.F.rs i) (lv (c.vars i) v+1)).length->(((pfx (c.F.rs i) (lv (c.vars i) v+1)).getD a []).take (lv (c.vars i) v)=(pmR (c.vars i) z).take (lv (c.vars i) v)↔lo i<=a/\a<hi i)
section
variable {c:JC} {v:Nat} {z:Row} {lo hi:Nat->Nat}
theorem JOk.lvd(hok:JOk c)(hi:i∈c.I v): lv (c.vars i) v+1<=c.F.d i:=by
 obtain⟨j,u⟩:=JC.mem_I.1 hi;rw[hok.d i j];exact(Vc (hok.asc i j) u).2.1
theorem Sib.node(hok:JOk c)(hS:Sib c v z lo hi)(him:i∈c.I v)(h1:lo i<=a)(h2:a<hi i): (pfx (c.F.rs i) (lv (c.vars i) v+1)).getD a []=(pmR (c.vars i) z).take (lv (c.vars i) v)++[c.vl v i a]:=by
 obtain⟨j,D⟩:=JC.mem_I.1 him;have y:=hS.lt i him;have u:a<(pfx (c.F.rs i) (lv (c.vars i) v+1)).length:=om
 have J:=(hS.ch i him a u).2 ⟨h1,h2⟩;have G:=Qvs (Yr (hok.srt i j)) (hok.len i j) (hok.lvd him) (getD_mem' [] _ u);rw[Qxh G J,JC.vl,Qcn u]
theorem Sib.srt(hok:JOk c)(hS:Sib c v z lo hi){i a b:Nat}(him:i∈c.I v)(h1:lo i<=a)(h2:a<b)(h3:b<hi i): cmpV (c.vl v i a) (c.vl v i b)<0:=by
 obtain⟨j,F⟩:=JC.mem_I.1 him;have D:=hS.lt i him;have u:=(Jqf (Yr (hok.srt i j)) (lv (c.vars i) v+1)).1.at h2 om;rw[hS.node hok him h1 om,hS.node hok him om h3]at u;have key:∀(y:Row) (a b:V),Jw (y++[a]) (y++[b]) []<0->cmpV a b<0:=λy a b=>by
  induction y with
  | nil=>
   intro h;simp only[List.nil_append,Jw]at h;by_cases e:cmpV a b=0
   .grind
   rw[if_neg e]at h;exact h
  | cons x y ih=>
   grind [Jw,Zr]
 exact key _ _ _ u
theorem Sib.ans(hok:JOk c)(hS:Sib c v z lo hi)(hy:c.Ans y)(ht:y.take v=z.take v)(him:i∈c.I v): ∃ a,lo i<=a/\a<hi i/\c.vl v i a=y.getD v V0:=by
 obtain⟨j,D⟩:=JC.mem_I.1 him;have G:=(Jqg (Yr (hok.srt i j)) (l:=lv (c.vars i) v+1)).2 ⟨_,hy.2 i j,rfl⟩;obtain⟨a,J,U⟩:=List.getElem_of_mem G;rw[Jhv (hok.asc i j) D,Jvz (hok.asc i j) ht]at U;have O:(pfx (c.F.rs i) (lv (c.vars i) v+1)).getD a []=(pmR (c.vars i) z).take (lv (c.vars i) v)++[y.getD v V0]:=by grind
 have Z:((pmR (c.vars i) z).take (lv (c.vars i) v)).length=lv (c.vars i) v:=by grind [List.length_take,Zj,Jmj]
 have u:=(hS.ch i him a J).1 (by grind);refine⟨a,u.1,u.2,?_⟩;have:=hS.node hok him u.1 u.2;grind [List.append_cancel_left]
theorem Pth.step(hok:JOk c)(hP:Pth c v z p e)(hS:Sib c v z lo hi)(hv:v<z.length){x:V}(h1:∀ i∈c.I v,lo i<=p1 i/\p1 i<hi i/\c.vl v i (p1 i)=x)(hz2:z2.take v=z.take v)(hz3:z2.getD v V0=x)(h2:∀ i,i<c.m->i ∉ c.I v->p1 i=p i/\e1 i=e i)(h3:∀ i∈c.I v,e1 i=hi i): Pth c (v+1) z2 p1 e1:=by
 refine⟨λi j=>?_,λi j h0=>?_⟩
 .by_cases him:i∈c.I v
  .obtain⟨u,y⟩:=JC.mem_I.1 him;have F:=h1 i him;rw[(Vc (hok.asc i u) y).1,Jhv (hok.asc i u) y,Jvz (hok.asc i u) hz2,hz3,Vv,if_neg om,hS.node hok him F.1 F.2.1,F.2.2]
  have D:v ∉ c.vars i:=λG=>him (JC.mem_I.2 ⟨j,G⟩);rw[Ga D,(h2 i j him).1,hP.path i j,Jvz (hok.asc i j) hz2]
 by_cases him:i∈c.I v
 .obtain⟨u,y⟩:=JC.mem_I.1 him;have F:=h1 i him;rw[(Vc (hok.asc i u) y).1,h3 i him];exact⟨F.2.1,(hS.lt i him).2⟩
 have D:v ∉ c.vars i:=λG=>him (JC.mem_I.2 ⟨j,G⟩);rw[Ga D]at h0 ⊢;rw[(h2 i j him).1,(h2 i j him).2];exact hP.rng i j h0
end
open Go.RowKit Pl Go.Wk
structure ES where
 t: Bool
 z:Row
 p:Nat->Nat
 f:Nat->Nat->Nat
 h:Nat->Nat->Nat
 l:List Row
theorem Kn{α:Type}(f:Nat->α)(i:Nat): upd f i (f i)=f:=by
 funext k;unfold upd;split
 repeat grind
theorem Qgc{c:JC}{Y:List Row->World->Prop}{NY:Nat->Prop}(hok:JOk c)(hY:YC c Y NY)(hcap:∀ l:List Row,Lt [] l->(∀ x∈l,c.Ans x)->l.length<=65536): ∀(k v:Nat) (z:Row) (p e:Nat->Nat) (f h:Nat->Nat->Nat) (l:List Row) (w:World),v+k=c.n ->
  Cfg c Y w z (λi=>lv (c.vars i) v) p e f h l->Pth c v z p e->Lt [] l->(∀ x∈l,c.Ans x)->(∀ x∈l,∀ z',c.Ans z'->z'.take v=z.take v->Jw x z' []<0) ->
  Ret Tryz.prog 114 [.pointer (some ⟨c.J,0,none⟩),.int .i64 (v:Int)] w (Jtr c Y v z p e f h l w):=by
 intro k;induction k with
 | zero=>
  intro v z p e f h l w dg H hP hl bz bw;have:v=c.n:=om
  subst this;exact Qgb hok hY hcap H hP hl bz bw
 | succ k ih=>
 intro v z p e f h l w dg H hP hl bz bw;have hv:v<c.n:=om
 have dd:v<z.length:=by rw[H.zl];exact hv
 have e8:=hok.n32;obtain⟨B,cc,dj,d0⟩:=H.env.at_;obtain⟨B2,ai,c7,hlist⟩:=H.env.lists v hv;have d4:(c.I v).length<=32:=nL (c.len_I v) hok.m32;have ag:0<(c.I v).length:=by
  obtain⟨i,h1,h2⟩:=hok.cov v hv;exact List.length_pos_of_mem (JC.mem_I.2 ⟨h1,h2⟩)
 have D:(c.I v).getD 0 0∈c.I v:=getD_mem' 0 _ ag;have b4:c.rowv=.slice c.Ra c.n c.n:=rfl;have a4:∀ k,c.NI k->c.N k:=hok.sub;refine Jz Tryz.func114 Tryz.ntmps114 rfl kr rfl ?_;refine ρ ?_;obtain⟨st,hJ⟩:=H.jb;rw[b4,dj]at hJ;refine ld (hJ.at (i:=0) rfl) ?_;refine ρ ?_;refine cf ?_ ?_
 .exact Jsv om
 refine ρ ?_;refine ld (hJ.at (i:=1) rfl) ?_;refine ρ ?_;refine ix v d0.here hv ?_;refine ρ ?_;have cz:w.cell? (adr B v)=some (.slice B2 (c.I v).length ai):=d0.here.cell (by simp[hv,c7]);refine ld cz ?_;clear hJ cz;refine ρ ?_;refine Qd (fun (q:Nat) (S:LS)=>[(0,.pointer (some ⟨c.J,0,none⟩)),(1,.int .i64 (v:Int)),(5,.slice B2 (c.I v).length ai),(42,.slice B2 (c.I v).length ai),(43,.int .i64 ((c.I v).length:Int)),(44,.int .i64 (q:Int))])
  (λq S w'=>q<=(c.I v).length/\GrN c.N w w'/\Cfg c Y w' z S.L S.p S.e S.f S.h l /\
   (∀ i∈(c.I v).take q,S.L i=lv (c.vars i) v+1/\S.p i<S.e i/\S.e i<=(pfx (c.F.rs i) (lv (c.vars i) v+1)).length/\(∀ a,a<(pfx (c.F.rs i) (lv (c.vars i) v+1)).length->(((pfx (c.F.rs i) (lv (c.vars i) v+1)).getD a []).take (lv (c.vars i) v)=(pmR (c.vars i) z).take (lv (c.vars i) v)↔S.p i<=a/\a<S.e i))/\S.f i=upd (f i) (lv (c.vars i) v) (p i)/\S.h i=upd (h i) (lv (c.vars i) v) (e i)) /\
   (∀ i,i<c.m->i ∉ (c.I v).take q->S.L i=lv (c.vars i) v/\S.p i=p i/\S.e i=e i/\S.f i=f i/\S.h i=h i)) (λq _=>(c.I v).length-q) 0 ⟨λi=>lv (c.vars i) v,p,e,f,h⟩ sB
  ⟨Nat.zero_le _,GrN.refl _ _,H,λi hi=>by simp at hi,λi _ _=>⟨rfl,rfl,rfl,rfl,rfl⟩⟩ ?_
 rintro q S w1 ⟨hq,ax,H1,a1,ac⟩;refine ρ ?_;refine ci (λh1=>?_) (λh1=>?_)
 .have lq:q<(c.I v).length:=by have:=oT h1;omega
  clear h1;have d2:=hlist w1 ax;refine ρ ?_;refine ix q d2 lq ?_;refine ρ ?_;refine ld (d2.cell (Ij lq)) ?_;refine ρ ?_;obtain⟨i,hi⟩:∃ i,i=(c.I v).getD q 0:=⟨_,rfl⟩;rw[<-hi];have Z:i∈c.I v:=by rw[hi];exact getD_mem' 0 _ lq
  obtain⟨U,cj⟩:=JC.mem_I.1 Z;have a7:(c.I v).take (q+1)=(c.I v).take q++[i]:=by rw[Xu 0 lq,hi]
  have bt:i ∉ (c.I v).take q:=λhm=>by
   have h1:((c.I v).take (q+1)).Nodup:=(c.nodup_I v).sublist (List.take_sublist _ _);rw[a7,List.nodup_append]at h1;exact h1.2.2 _ hm _ (List.mem_singleton.2 rfl) rfl
  obtain⟨e1,e2,e3,e4,e5⟩:=ac i U bt;obtain⟨d8,b1⟩:=H1.its i U;rw[e1,e2,e3,e4,e5]at b1;have dm:Off (λk=>k=c.F.G i) w1 (λu=>TriA u (c.F.A i) (c.F.d i) (c.F.rs i)):=(H1.env.tri i U).mono λj _ ej=>a4 j (.inr (.inl ⟨i,U,ej⟩));have ea:=hok.big i U;refine cl (Qdv b1 dm (hok.lvd Z) (hok.d32 i U) (hP.rng i U) (hok.ne i U) (Yr (hok.srt i U)) om (hok.len i U)) ?_;rintro u w2 ⟨rfl,a8,lo,dk,h2,h3,h4,dx⟩;have H2:=H1.it hok hY U a8 dx;refine ρ ?_;refine Qy (q+1) (S.upd i (lv (c.vars i) v+1) lo dk (upd (f i) (lv (c.vars i) v) (p i)) (upd (h i) (lv (c.vars i) v) (e i))) sO ⟨om,ax.trans (a8.mono λj _ ej=>a4 j (.inr (.inl ⟨i,U,ej⟩))),H2,λj hj=>?_,λj hj ae=>?_⟩ om
  .rw[a7,List.mem_append,List.mem_singleton]at hj;by_cases ej:j=i
   .subst ej;simp only[LS.upd,Qw];rw[<-hP.path j U];exact⟨trivial,h2,h3,h4,trivial,trivial⟩
   simp only[LS.upd,Jm _ _ ej];exact a1 j (hj.resolve_right ej)
  rw[a7,List.mem_append,List.mem_singleton,not_or]at ae;simp only[LS.upd,Jm _ _ ae.2];exact ac j hj ae.1
 have eq:q=(c.I v).length:=by have:=oF h1;omega
 clear h1;rw[eq,List.take_of_length_le (nR _)]at a1 ac;have hS:Sib c v z S.p S.e:=⟨λi hi=>⟨(a1 i hi).2.1,(a1 i hi).2.2.1⟩,λi hi=>(a1 i hi).2.2.2.1⟩;obtain⟨lo,cg⟩:∃ lo,lo=S.p:=⟨_,rfl⟩;have a6:Sib c v z lo S.e:=by rw[cg];exact hS
 have a3:∀(f' h':Nat->Nat->Nat),∀ i∈c.I v,∀ a,c.F.val ⟨S.L,lo,S.e,f',h'⟩ i a=c.vl v i a:=λf' h' i hi a=>by
  unfold Fix.val JC.vl;simp only;rw[(a1 i hi).1,Nat.add_sub_cancel]
 have b8:∀(f' h':Nat->Nat->Nat),OnS c.F ⟨S.L,lo,S.e,f',h'⟩ (c.I v):=λf' h'=>by
  refine⟨λi hi=>?_,λi hi=>?_,λi hi a b h1 h2 h3=>?_,λi hi j hj e'=>hok.inj i j (JC.mem_I.1 hi).1 (JC.mem_I.1 hj).1 e',d4⟩
  .simp only;rw[(a1 i hi).1];exact⟨om,hok.lvd hi,hok.d32 i (JC.mem_I.1 hi).1⟩
  .simp only;rw[(a1 i hi).1,Nat.add_sub_cancel,Im];have h1:=(a1 i hi).2.2.1;have h2:=Jxb ((c.F.rs i).map (List.take (lv (c.vars i) v+1)));rw[List.length_map]at h2;have h3:(pfx (c.F.rs i) (lv (c.vars i) v+1)).length<=(c.F.rs i).length:=h2;have h4:=hok.big i (JC.mem_I.1 hi).1;exact⟨h1,om⟩
  rw[a3 f' h' i hi,a3 f' h' i hi];exact a6.srt hok hi h1 h2 h3
 have aa:∀ k,NG c.F (c.I v) c.J k->c.N k:=λk hk=>by
  rcases hk with hk|⟨i,hi,hk⟩
  .exact a4 k (.inl hk)
  exact a4 k (.inr (.inl ⟨i,(JC.mem_I.1 hi).1,hk⟩))
 have eb:∀ k,NG c.F (c.I v) c.J k->c.NI k:=λk hk=>by
  rcases hk with hk|⟨i,hi,hk⟩
  .exact .inl hk
  exact .inr (.inl ⟨i,(JC.mem_I.1 hi).1,hk⟩)
 have b7:∀ i,i<c.m->S.L i=lv (c.vars i) (v+1):=λi hi=>by
  by_cases Z:i∈c.I v
  .rw[(a1 i Z).1,(Vc (hok.asc i hi) (JC.mem_I.1 Z).2).1]
  rw[(ac i hi Z).1,Ga (λh'=>Z (JC.mem_I.2 ⟨hi,h'⟩))]
 have dl:∀ i∈c.I v,S.e i<=1000000:=λi hi=>((b8 S.f S.h).rng i hi).2;have ck:∀ i∈c.I v,c.F.G i≠c.J:=λi hi=>hok.gj i (JC.mem_I.1 hi).1;have aq:∀ y,c.Ans y->y.take v=z.take v->∀ i∈c.I v,∃ a,lo i<=a/\a<S.e i/\c.vl v i a=y.getD v V0:=λy hy ht i hi=>a6.ans hok hy ht hi;have ak:∀(f' h':Nat->Nat->Nat) y,c.Ans y->y.take v=z.take v->Cmn c.F ⟨S.L,lo,S.e,f',h'⟩ (c.I v) (y.getD v V0):=λf' h' y hy ht i hi=>by
  obtain⟨a,h1,h2,h3⟩:=aq y hy ht i hi;exact⟨a,h1,h2,by rw[a3 f' h' i hi];exact h3⟩
 refine ρ ?_;refine cl (Jlz (F:=c.F) (V':=⟨S.L,lo,S.e,S.f,S.h⟩) (I:=c.I v) (J:=c.J) (p:=lo) (jr:=c.rowv) (ja:=c.ja) (yv:=c.yv) (B:=B2) (c:=ai) (b8 _ _) ag (c.nodup_I v) (λi hi=>by rw[cg];exact H1.its i (JC.mem_I.1 hi).1) H1.jb ck (λi hi=>(H1.env.tri i (JC.mem_I.1 hi).1).mono λk _ hk=>aa k hk) ((hlist.gr ax).mono λk _ hk=>aa k hk)
  (λi hi=>⟨nR _,(a6.lt i hi).1⟩) (λi hi a h1 h2=>absurd h2 (by simp only at h1;omega))) ?_
 rintro u w2 ⟨a8,ay,p2,t,rfl,az,cd,ht,hf⟩;have H2:=H1.mt hok hY a8 ay (p':=p2) az;have c9:∀ f' h',c.F.val ⟨S.L,lo,S.e,f',h'⟩ ((c.I v).getD 0 0) (lo ((c.I v).getD 0 0))=c.vl v ((c.I v).getD 0 0) (lo ((c.I v).getD 0 0)):=λf' h'=>a3 f' h' _ D _;have bg:∀ y,c.Ans y->y.take v=z.take v->cmpV (c.vl v ((c.I v).getD 0 0) (lo ((c.I v).getD 0 0))) (y.getD v V0)<=0:=λy hy ht=>by
  obtain⟨a,h1,h2,h3⟩:=aq y hy ht _ D;rw[<-h3];by_cases e:a=lo ((c.I v).getD 0 0)
  .rw[e,Zr];omega
  have:=a6.srt hok D (nR _) (show lo ((c.I v).getD 0 0)<a by omega) h2;omega
 refine ρ ?_;refine Jh (fun (s:ES)=>[(0,.pointer (some ⟨c.J,0,none⟩)),(1,.int .i64 (v:Int)),(5,.slice B2 (c.I v).length ai),(8,.bool true),(9,.bool s.t)])
  (λs w'=>GrN c.N w w'/\Cfg c Y w' s.z S.L s.p S.e s.f s.h s.l/\s.z.take v=z.take v/\(∀ i,i<c.m->i ∉ c.I v->s.p i=p i)/\(∀ i,i<c.m->∀ k,k<S.L i->s.f i k=S.f i k/\s.h i k=S.h i k)/\Lt [] s.l/\(∀ x∈s.l,c.Ans x) /\
   (s.t=true->∃ x,(∀ i∈c.I v,lo i<=s.p i/\s.p i<S.e i/\c.vl v i (s.p i)=x)/\∀ y,y∈s.l↔y∈l∨(c.Ans y/\y.take v=z.take v/\cmpV (y.getD v V0) x<0)) /\
   (s.t=false->∀ y,y∈s.l↔y∈l∨(c.Ans y/\y.take v=z.take v))) (λs=>if s.t then S.e ((c.I v).getD 0 0)-s.p ((c.I v).getD 0 0) else 0) ⟨t,z,λi=>if i∈c.I v then p2 i else S.p i,S.f,S.h,l⟩ sB
  ⟨ax.trans (a8.mono λk _ hk=>aa k hk),H2,rfl,λi hi a5=>?_,λi hi k hk=>⟨rfl,rfl⟩,hl,bz,λe=>?_,λe y=>?_⟩ ?_
 .simp only[if_neg a5];exact(ac i hi a5).2.1
 .obtain⟨x,ad,bq,dc⟩:=ht e;refine⟨x,λi hi=>?_,λy=>⟨.inl,λhy=>?_⟩⟩
  .simp only[if_pos hi];refine⟨(cd i hi).1,(ad i hi).1,?_⟩;rw[<-a3 S.f S.h i hi];exact(ad i hi).2
  rcases hy with hy|⟨h1,h2,h3⟩
  .exact hy
  exfalso
  have h4:=dc _ (ak S.f S.h y h1 h2) (by rw[c9];exact bg y h1 h2);have:=cmp_V.anti x (y.getD v V0);omega
 .refine⟨.inl,λhy=>?_⟩;rcases hy with hy|⟨h1,h2⟩
  .exact hy
  exact absurd (show cmpV _ _<=0 by rw[c9];exact bg y h1 h2) (hf e _ (ak S.f S.h y h1 h2))
 clear az cd ht hf H2 ay a8 H1 ax;rintro s w2 ⟨a8,H2,c6,b5,c1,bf,bi,ca,cx⟩;refine ρ ?_;refine ci (λh1=>?_) (λh1=>?_)
 .obtain⟨x,ad,bq⟩:=ca h1;have a9:=ad _ D;have e7:=a9.1;have e6:=a9.2.1;obtain⟨ec,ay⟩:=H2.jb;rw[b4]at ay;refine ρ ?_;refine drN (λk=>c.rowv.ownBlock=some k) 14 [(0,0),(0,1),(0,2),(0,3),(0,4),(0,5),(0,6),(0,7),(1,8),(0,9),(0,10),(0,11),(0,12),(1,13)] kr ?_;have b3:Ext w2 w2.drew:=(Ext.refl w2).drew;have ds:=ay.ext b3;have H3:=H2.ext hY b3;have d6:=(hlist.gr a8).ext b3;obtain⟨ee,dw⟩:=H3.its _ (JC.mem_I.1 D).1;refine ρn ?_;refine nld (Qf (ds.at (i:=0) rfl) (λe=>H2.rowJ e rfl)) ?_;refine ρn ?_;refine nix 0 d6.here ag ?_;refine ρn ?_;refine nld (λw' hg=>(d6 w' (hg.mono λk _ ek=>a4 k (.inr (.inr ek)))).cell (Ij ag)) ?_;refine ρn ?_;refine nop ?_;refine cl (Jyt dw (H3.env.tri _ (JC.mem_I.1 D).1).here (by rw[(a1 _ D).1];exact hok.lvd D) (hok.d32 _ (JC.mem_I.1 D).1) (λ_=>((b8 s.f s.h).rng _ D).1)) ?_;rintro u w4 ⟨bp,vv,rfl,df⟩;have de:vv=x:=by
   rw[df ⟨by rw[(a1 _ D).1];omega,a9.2.1⟩,<-a9.2.2,JC.vl,(a1 _ D).1,Nat.add_sub_cancel]
  subst de;refine ρ ?_;refine Qg (GrN.ext bp) ?_;have H4:=H3.ext hY bp;have ap:w4.ownsRow c.base 75 3 (.slice c.Ra c.n c.n) c.n (Je s.z):=by
   have:=H4.row;rw[Vu,H4.zl,b4]at this;exact this
  refine ρn ?_;refine Va 3 v (Rd.own ap) hv ?_;refine ρn ?_;refine nop ?_;refine stoE (cs:=vv.cells) ap hv ?_ (V.one _);intro w5 bs cq;refine ω5 ?_;refine Qg (GrN.by cq λk ek=>ek) ?_;refine ρn ?_;have bd:v<s.z.length:=by rw[H2.zl];exact hv
  rw[<-Jvp s.z v vv bd]at bs;have av:w4.grownBy w5 c.rowv.ownBlock:=cq;have aw:GrN c.NI w4 w5:=GrN.by av λk ek=>.inr (.inr ek)
  obtain⟨z2,bb⟩:∃ z2,z2=s.z.set v vv:=⟨_,rfl⟩;rw[<-bb]at bs;have ao:z2.length=c.n:=by rw[bb,List.length_set];exact H2.zl
  have aj:z2.take v=z.take v:=by rw[bb,Qzm];exact c6
  have an:z2.getD v V0=vv:=by rw[bb];exact Qzn vv bd
  have H5:Cfg c Y w5 z2 S.L s.p S.e s.f s.h s.l:=by
   refine⟨H4.env.gr (aw.mono λk _ hk=>a4 k hk),λi hi=>?_,by rw[Vu,ao,b4];exact bs,ao,?_,hY.keep _ _ _ H4.y aw⟩
   .obtain⟨st,h1⟩:=H4.its i hi;exact⟨st,h1.grown av (λe=>H4.rowG hi e.symm rfl)⟩
   obtain⟨st,h1⟩:=H4.jb;exact⟨st,h1.grown av (λe=>H4.rowJ e.symm rfl)⟩
  have bj:GrN c.N w2 w5:=(GrN.ext (b3.trans bp)).trans (aw.mono λk _ hk=>a4 k hk);refine ρ ?_;have dn:Pth c (v+1) z2 s.p S.e:=Pth.step hok hP a6 dd ad aj an (λi hi a5=>⟨b5 i hi a5,(ac i hi a5).2.2.1⟩) (λi _=>rfl);have a7:∀ y:Row,c.Ans y->(y.take (v+1)=z2.take (v+1)↔y.take v=z.take v/\y.getD v V0=vv):=λy hy=>by
   have da:v<y.length:=by rw[hy.1];exact hv
   have bn:v<z2.length:=by rw[ao];exact hv
   constructor
   .intro h;have h5:=Jfl h (Nat.le_succ v);refine⟨h5.trans aj,?_⟩;rw[<-an];exact Jfm h (Nat.lt_succ_self v)
   rintro⟨h5,h6⟩;exact Qxg (h5.trans aj.symm) da bn (h6.trans an.symm)
  refine cl (ih (v+1) z2 s.p S.e s.f s.h s.l w5 om (H5.congr λi hi=>⟨(b7 i hi).symm,rfl,rfl,rfl,rfl⟩) dn bf bi (λy hy z' bo ht=>?_)) ?_
  .obtain⟨h5,h6⟩:=(a7 z' bo).1 ht;rcases(bq y).1 hy with h7|⟨h7,h8,h9⟩
   .exact bw y h7 z' bo h5
   exact Jrs v y z' (h8.trans h5.symm) (by rw[h7.1];exact hv) (by rw[bo.1];exact hv) (by rw[h6];exact h9)
  rintro u w6 ⟨rfl,cp,z6,f6,h6,l6,H6,d9,cw,be,ch⟩;have d7:Cfg c Y w6 z6 S.L s.p S.e f6 h6 l6:=H6.congr λi hi=>⟨b7 i hi,rfl,rfl,rfl,rfl⟩;have bc:z6.take v=z.take v:=(Jfl d9 (Nat.le_succ v)).trans aj;have bh:∀ y∈l6,c.Ans y:=λy hy=>by
   rcases(ch y).1 hy with h7|h7
   .exact bi y h7
   exact h7.1
  have ar:∀ y,y∈l6↔y∈l∨(c.Ans y/\y.take v=z.take v/\cmpV (y.getD v V0) vv<=0):=λy=>by
   rw[ch,bq];constructor
   .rintro((h7|⟨h7,h8,h9⟩)|⟨h7,h8⟩)
    .exact .inl h7
    .exact .inr ⟨h7,h8,om⟩
    obtain⟨h9,O⟩:=(a7 y h7).1 h8;exact .inr ⟨h7,h9,by rw[O,Zr];omega⟩
   rintro(h7|⟨h7,h8,h9⟩)
   .exact .inl (.inl h7)
   by_cases e:cmpV (y.getD v V0) vv=0
   .exact .inr ⟨h7,(a7 y h7).2 ⟨h8,cmp_V.zero _ _ e⟩⟩
   exact .inl (.inr ⟨h7,h8,om⟩)
  have bl:∀ i,i<c.m->∀ k,k<S.L i->f6 i k=S.f i k/\h6 i k=S.h i k:=λi hi k hk=>by
   have h7:=cw i hi k (by rw[<-b7 i hi];exact hk);have h8:=c1 i hi k hk;exact⟨h7.1.trans h8.1,h7.2.trans h8.2⟩
  refine ρ ?_;obtain⟨ed,du⟩:=d7.its _ (JC.mem_I.1 D).1;have d5:=hlist.gr (a8.trans (bj.trans cp));refine ix 0 d5.here ag ?_;refine ρ ?_;refine ld (d5.here.cell (Ij ag)) ?_;refine ρ ?_;refine cl (Qdw du (by rw[(a1 _ D).1];omega) a9.2.1 (dl _ D)) ?_;rintro u w7 ⟨rfl,co,dt⟩;have cn:GrN c.N w6 w7:=co.mono λk _ ek=>a4 k (.inr (.inl ⟨_,(JC.mem_I.1 D).1,ek⟩));have H7:=d7.it hok hY (JC.mem_I.1 D).1 co dt;have am:Cfg c Y w7 z6 S.L (upd s.p ((c.I v).getD 0 0) (s.p ((c.I v).getD 0 0)+1)) S.e f6 h6 l6:=by
   rw[Kn,Kn,Kn,Kn]at H7;exact H7
  obtain⟨p7,c5⟩:∃ p7,p7=upd s.p ((c.I v).getD 0 0) (s.p ((c.I v).getD 0 0)+1):=⟨_,rfl⟩;rw[<-c5]at am;have bm:p7 ((c.I v).getD 0 0)=s.p ((c.I v).getD 0 0)+1:=by rw[c5,Qw]
  have b2:∀ i,i≠(c.I v).getD 0 0->p7 i=s.p i:=λi hi=>by rw[c5,Jm _ _ hi]
  have au:GrN c.N w w7:=(a8.trans bj).trans (cp.trans cn);have ab:∀ y,c.Ans y->y.take v=z.take v->¬ cmpV (y.getD v V0) vv<=0->∃ a,s.p ((c.I v).getD 0 0)+1<=a/\a<S.e ((c.I v).getD 0 0)/\c.vl v ((c.I v).getD 0 0) a=y.getD v V0:=λy hy ht af=>by
   obtain⟨a,h7,h8,h9⟩:=aq y hy ht _ D;refine⟨a,?_,h8,h9⟩;rcases Nat.lt_trichotomy a (s.p ((c.I v).getD 0 0)) with O|O|O
   .have:=a6.srt hok D h7 O a9.2.1;rw[a9.2.2,h9]at this;omega
   .rw[O,a9.2.2]at h9;rw[<-h9,Zr]at af;omega
   omega
  refine ρ ?_;refine ki 59 (λh5=>?_) (λh5=>?_)
  .have bv:s.p ((c.I v).getD 0 0)+1<S.e ((c.I v).getD 0 0):=oT h5;clear h5;have ce:cmpV vv (c.vl v ((c.I v).getD 0 0) (s.p ((c.I v).getD 0 0)+1))<0:=by
    have:=a6.srt hok D a9.1 (Nat.lt_succ_self _) bv;rw[a9.2.2]at this;exact this
   have c8:c.F.val ⟨S.L,lo,S.e,f6,h6⟩ ((c.I v).getD 0 0) (p7 ((c.I v).getD 0 0))=c.vl v ((c.I v).getD 0 0) (s.p ((c.I v).getD 0 0)+1):=by rw[bm];exact a3 f6 h6 _ D _
   refine ρ ?_;refine cl (Jlz (F:=c.F) (V':=⟨S.L,lo,S.e,f6,h6⟩) (I:=c.I v) (J:=c.J) (p:=p7) (jr:=c.rowv) (ja:=c.ja) (yv:=c.yv) (B:=B2) (c:=ai) (b8 _ _) ag (c.nodup_I v) (λi hi=>am.its i (JC.mem_I.1 hi).1) am.jb ck (λi hi=>(am.env.tri i (JC.mem_I.1 hi).1).mono λk _ hk=>aa k hk) ((hlist.gr au).mono λk _ hk=>aa k hk)
    (λi hi=>?_) (λi hi a h7 h8=>?_)) ?_
   .have h9:=ad i hi;by_cases e:i=(c.I v).getD 0 0
    .rw[e,bm];simp only;omega
    rw[b2 i e];simp only;omega
   .rw[c8,a3 f6 h6 i hi];have h9:=ad i hi;simp only at h7;by_cases e:i=(c.I v).getD 0 0
    .rw[e]at h7 h8 ⊢;rw[bm]at h8;exact a6.srt hok D h7 h8 bv
    rw[b2 i e]at h8;have O:=a6.srt hok hi h7 h8 h9.2.1;rw[h9.2.2]at O;exact cmp_V.lt_trans O ce
   rintro u w8 ⟨cm,dq,p8,t8,rfl,c3,cb,br,cy⟩;have H8:=am.mt hok hY cm dq (p':=p8) c3;rw[c8]at br cy;refine ρ ?_;have bu:t8=true->s.p ((c.I v).getD 0 0)<p8 ((c.I v).getD 0 0)/\p8 ((c.I v).getD 0 0)<S.e ((c.I v).getD 0 0):=λe=>by
    obtain⟨x',h7,h8,h9⟩:=br e;have O:=h7 _ D;rw[a3 f6 h6 _ D]at O;refine⟨?_,O.1⟩;rcases Nat.lt_or_ge (s.p ((c.I v).getD 0 0)) (p8 ((c.I v).getD 0 0)) with a2|a2
    .exact a2
    exfalso
    have ah:=(cb _ D).1;simp only at ah;have c4:cmpV x' (c.vl v ((c.I v).getD 0 0) (s.p ((c.I v).getD 0 0)+1))<0:=by
     rw[<-O.2];exact a6.srt hok D ah om bv
    have:=cmp_V.anti x' (c.vl v ((c.I v).getD 0 0) (s.p ((c.I v).getD 0 0)+1));omega
   refine Jg ⟨t8,z6,λi=>if i∈c.I v then p8 i else p7 i,f6,h6,l6⟩ sB
    ⟨au.trans (cm.mono λk _ hk=>aa k hk),H8,bc,λi hi a5=>?_,bl,be,bh,λe=>?_,λe y=>?_⟩ ?_
   .simp only[if_neg a5];rw[b2 i (λe=>a5 (e ▸ D))];exact b5 i hi a5
   .obtain⟨x',h7,h8,h9⟩:=br e;refine⟨x',λi hi=>?_,λy=>?_⟩
    .simp only[if_pos hi];refine⟨(cb i hi).1,(h7 i hi).1,?_⟩;rw[<-a3 f6 h6 i hi];exact(h7 i hi).2
    rw[ar];have db:cmpV vv x'<0:=cmp_V.lt_le ce h8;constructor
    .rintro(O|⟨O,a2,ah⟩)
     .exact .inl O
     exact .inr ⟨O,a2,cmp_V.le_lt ah db⟩
    rintro(O|⟨O,a2,ah⟩)
    .exact .inl O
    refine .inr ⟨O,a2,Classical.byContradiction λaf=>?_⟩;obtain⟨a,c4,ba,b9⟩:=ab y O a2 af;have dz:cmpV (c.vl v ((c.I v).getD 0 0) (s.p ((c.I v).getD 0 0)+1)) (y.getD v V0)<=0:=by
     rw[<-b9];by_cases e:a=s.p ((c.I v).getD 0 0)+1
     .rw[e,Zr];omega
     have:=a6.srt hok D (show lo ((c.I v).getD 0 0)<=s.p ((c.I v).getD 0 0)+1 by omega) (show s.p ((c.I v).getD 0 0)+1<a by omega) ba;omega
    have eh:=h9 _ (ak f6 h6 y O a2) dz;have:=cmp_V.anti x' (y.getD v V0);omega
   .rw[ar];constructor
    .rintro(O|⟨O,a2,ah⟩)
     .exact .inl O
     exact .inr ⟨O,a2⟩
    rintro(O|⟨O,a2⟩)
    .exact .inl O
    refine .inr ⟨O,a2,Classical.byContradiction λaf=>?_⟩;obtain⟨a,c4,ba,b9⟩:=ab y O a2 af;refine cy e _ (ak f6 h6 y O a2) ?_;rw[<-b9];by_cases e:a=s.p ((c.I v).getD 0 0)+1
    .rw[e,Zr];omega
    have:=a6.srt hok D (show lo ((c.I v).getD 0 0)<=s.p ((c.I v).getD 0 0)+1 by omega) (show s.p ((c.I v).getD 0 0)+1<a by omega) ba;omega
   simp only[h1,if_true,if_pos D];by_cases e:t8=true
   .have:=bu e;rw[if_pos e];omega
   rw[if_neg e];omega
  have ef:¬ s.p ((c.I v).getD 0 0)+1<S.e ((c.I v).getD 0 0):=oF h5;clear h5;refine ρ ?_;refine Jg ⟨false,z6,p7,f6,h6,l6⟩ sB
   ⟨au,am,bc,λi hi a5=>?_,bl,be,bh,λe=>(by cases e),λ_ y=>?_⟩ ?_
  .simp only;rw[b2 i (λe=>a5 (e ▸ D))];exact b5 i hi a5
  .rw[ar];constructor
   .rintro(O|⟨O,a2,ah⟩)
    .exact .inl O
    exact .inr ⟨O,a2⟩
   rintro(O|⟨O,a2⟩)
   .exact .inl O
   refine .inr ⟨O,a2,Classical.byContradiction λaf=>?_⟩;obtain⟨a,c4,ba,b9⟩:=ab y O a2 af;omega
  simp only[h1,if_true,Bool.false_eq_true,if_false];omega
 have cv:=cx h1;clear ca cx;refine ρ ?_;refine Qd (fun (q:Nat) (R:LS)=>[(0,.pointer (some ⟨c.J,0,none⟩)),(1,.int .i64 (v:Int)),(8,.bool true),(83,.slice B2 (c.I v).length ai),(84,.int .i64 ((c.I v).length:Int)),(85,.int .i64 (q:Int))])
  (λq R w'=>q<=(c.I v).length/\GrN c.N w w'/\Cfg c Y w' s.z R.L R.p R.e s.f s.h s.l /\
   (∀ i∈(c.I v).take q,R.L i=lv (c.vars i) v/\R.p i=p i/\R.e i=e i) /\
   (∀ i,i<c.m->i ∉ (c.I v).take q->R.L i=S.L i/\R.p i=s.p i/\R.e i=S.e i)) (λq _=>(c.I v).length-q) 0 ⟨S.L,s.p,S.e,s.f,s.h⟩ sB
  ⟨Nat.zero_le _,a8,H2,λi hi=>by simp at hi,λi _ _=>⟨rfl,rfl,rfl⟩⟩ ?_
 rintro q R w3 ⟨hq,c0,H3,c2,b6⟩;refine ρ ?_;refine ci (λh2=>?_) (λh2=>?_)
 .have lq:q<(c.I v).length:=by have:=oT h2;omega
  clear h2;have d1:=hlist w3 c0;refine ρ ?_;refine ix q d1 lq ?_;refine ρ ?_;refine ld (d1.cell (Ij lq)) ?_;refine ρ ?_;obtain⟨i,hi⟩:∃ i,i=(c.I v).getD q 0:=⟨_,rfl⟩;rw[<-hi];have Z:i∈c.I v:=by rw[hi];exact getD_mem' 0 _ lq
  obtain⟨U,cj⟩:=JC.mem_I.1 Z;have a7:(c.I v).take (q+1)=(c.I v).take q++[i]:=by rw[Xu 0 lq,hi]
  have bt:i ∉ (c.I v).take q:=λhm=>by
   have h1:((c.I v).take (q+1)).Nodup:=(c.nodup_I v).sublist (List.take_sublist _ _);rw[a7,List.nodup_append]at h1;exact h1.2.2 _ hm _ (List.mem_singleton.2 rfl) rfl
  obtain⟨e1,e2,e3⟩:=b6 i U bt;obtain⟨d8,b1⟩:=H3.its i U;rw[e1,(a1 i Z).1]at b1;have eg:=hok.lvd Z;have e9:=hok.d32 i U;refine cl (Qdr b1 om) ?_;rintro u w4 ⟨cr,d3⟩;have cu:=c1 i U (lv (c.vars i) v) (by rw[(a1 i Z).1];omega);have di:S.f i (lv (c.vars i) v)=p i:=by rw[(a1 i Z).2.2.2.2.1,Qw]
  have dh:S.h i (lv (c.vars i) v)=e i:=by rw[(a1 i Z).2.2.2.2.2,Qw]
  rw[cu.1,cu.2,di,dh]at d3;have H4:=H3.it hok hY U cr d3;have e0:Cfg c Y w4 s.z (upd R.L i (lv (c.vars i) v)) (upd R.p i (p i)) (upd R.e i (e i)) s.f s.h s.l:=by
   rw[Kn,Kn]at H4;exact H4
  refine ρ ?_;refine Qy (q+1) ⟨upd R.L i (lv (c.vars i) v),upd R.p i (p i),upd R.e i (e i),s.f,s.h⟩ sO ⟨om,c0.trans (cr.mono λj _ ej=>a4 j (.inr (.inl ⟨i,U,ej⟩))),e0,λj hj=>?_,λj hj ae=>?_⟩ om
  .rw[a7,List.mem_append,List.mem_singleton]at hj;by_cases ej:j=i
   .subst ej;simp only[Qw];exact⟨trivial,trivial,trivial⟩
   simp only[Jm _ _ ej];exact c2 j (hj.resolve_right ej)
  rw[a7,List.mem_append,List.mem_singleton,not_or]at ae;simp only[Jm _ _ ae.2];exact b6 j hj ae.1
 have eq:q=(c.I v).length:=by have:=oF h2;omega
 rw[eq,List.take_of_length_le (nR _)]at c2 b6;have H5:Cfg c Y w3 s.z (λi=>lv (c.vars i) v) p e s.f s.h s.l:=H3.congr λi hi=>by
  by_cases Z:i∈c.I v
  .have:=c2 i Z;exact⟨this.1.symm,this.2.1.symm,this.2.2.symm,rfl,rfl⟩
  have h5:=b6 i hi Z;have h6:=ac i hi Z;exact⟨(h5.1.trans h6.1).symm,(h5.2.1.trans (b5 i hi Z)).symm,(h5.2.2.trans h6.2.2.1).symm,rfl,rfl⟩
 refine ρ ?_;refine Jq ⟨rfl,c0,s.z,s.f,s.h,s.l,H5,c6,λi hi k hk=>?_,bf,cv⟩;have h5:=c1 i hi k (by rw[b7 i hi];have:=Jmj (c.vars i) v;by_cases Z:i∈c.I v;(rw[(Vc (hok.asc i hi) (JC.mem_I.1 Z).2).1];omega);rw[Ga (λh'=>Z (JC.mem_I.2 ⟨hi,h'⟩))];exact hk);by_cases Z:i∈c.I v
 .obtain⟨_,_,_,_,h8,h9⟩:=a1 i Z;rw[h5.1,h5.2,h8,h9,Jm _ _ om,Jm _ _ om];exact⟨rfl,rfl⟩
 obtain⟨_,_,_,h8,h9⟩:=ac i hi Z;rw[h5.1,h5.2,h8,h9];exact⟨rfl,rfl⟩
open Go.RowKit Pl Go.Wk
variable {g j k v:Nat}{p v4 va':Value}{w1 w2 w4:World}
theorem EIt: ElT Tryz.prog 192 198 1 8 (.pointer none):=⟨Tryz.underlying192,info_parts kr,rfl,by decide⟩
theorem EIts: ElT Tryz.prog 189 192 1 24 (.slice none 0 0):=⟨Tryz.underlying189,info_parts kr,rfl,by decide⟩
theorem Jsl(p:Option Addr)(w:World): (Instr.buildSlice 192 1 #[(0,.pointer p)]).run Tryz.prog w=.ok (.slice (some ⟨w.heap.size,0,none⟩) 1 1) (w.alloc (.cells [.pointer p].toArray 198)):=kr
theorem Qmn(A B:Option Addr)(n:Nat)(fid:FuncId)(first cap:Array Value)(w:World): (Instr.build 191 #[(0,.slice A n n),(1,.slice B n n),(3,.func (.func fid) first cap)]).run Tryz.prog w=.ok (.agg #[.slice A n n,.slice B n n,.int .i64 0,.func (.func fid) first cap]) w:=kr
structure RK where
 n: Nat
 vars:Nat->List Nat
 rs:Nat->List Row
 base:Nat
 J:Nat
 Ra:Option Addr
 Ba:Option Addr
 yv:Value
structure RS where
 G: Nat->Nat
 A:Nat->Option Addr
 lo:Nat->Nat
 hi:Nat->Nat
 va:Value
 vat:Nat->Value
def OB(K:RK)(S:RS)(k:Nat): Prop:=k=K.J∨(Value.slice K.Ra K.n K.n).ownBlock=some k∨(Value.slice K.Ba K.n K.n).ownBlock=some k∨S.va.ownBlock=some k∨∃ v,v<K.n/\(S.vat v).ownBlock=some k
structure RB(K:RK)(q:Nat)(S:RS)(cont:Nat->List Value)(alls:List Value)(w:World): Prop where
 jb:Blk w K.J 191 [.slice K.Ra K.n K.n,.slice K.Ba K.n K.n,.int .i64 0,K.yv]
 row:Vu w K.base (.slice K.Ra K.n K.n) (List.replicate K.n V0)
 at_:w.ownsRow K.base 192 1 (.slice K.Ba K.n K.n) K.n ((List.range K.n).map S.vat)
 lists:Fam w K.base 198 1 K.n S.vat (λv=>(cont v).length) cont
 all:w.ownsRow K.base 198 1 S.va alls.length alls
 alld:∀ v g,v<K.n->(S.vat v).ownBlock=some g->S.va.ownBlock≠some g
 its:∀ j,j<q->ItB w (S.G j) (S.A j) (K.vars j).length 0 0 0 (λ_=>0) (λ_=>0) 0
 tri:∀ j,j<q->Off (λk=>k<S.lo j∨S.hi j<=k) w (λu=>TriA u (S.A j) (K.vars j).length (K.rs j))
 iv:∀ j k,j<q->OB K S k->k<S.lo j∨S.hi j<=k
 gi:∀ i j,i<q->j<q->S.G i<S.lo j∨S.hi j<=S.G i
 ginj:∀ i j,i<j->j<q->S.G i<S.G j
 jlo:∀ j,j<q->K.J<S.lo j/\S.hi j<=w.heap.size
 jg:∀ j,j<q->K.J<S.G j
 bj:K.base<=K.J
section
variable {K:RK} {q:Nat} {S:RS} {cont:Nat->List Value} {alls:List Value} {w w':World}
theorem RB.ext(H:RB K q S cont alls w)(hx:Ext w w'): RB K q S cont alls w' :=
 ⟨H.jb.ext hx,Jc H.row hx,Jc H.at_ hx,H.lists.ext hx,Jc H.all hx,H.alld,λj i=>(H.its j i).ext hx,λj i=>(H.tri j i).ext hx,H.iv,H.gi,H.ginj,λj i=>⟨(H.jlo j i).1,Nat.le_trans (H.jlo j i).2 hx.size⟩,H.jg,H.bj⟩
theorem RB.oblt(H:RB K q S cont alls w)(h:OB K S k): k<w.heap.size:=by
 have i:∀ {base e sz m:Nat} {v:Value} {xs:List Value},w.ownsRow base e sz v m xs->∀ g,v.ownBlock=some g->g<w.heap.size:=λj g u=>by grind [Jy]
 rcases h with h|h|h|h|⟨v,hv,h⟩
 .rw[h];exact H.jb.lt
 .exact i H.row k h
 .exact i H.at_ k h
 .exact i H.all k h
 exact i (H.lists.own v hv) k h
theorem RB.iter(H:RB K q S cont alls w){A:Option Addr}(hx1:Ext w w1)(hT:Off (λk=>k<w.heap.size) w1 (λu=>TriA u A (K.vars q).length (K.rs q)))(hx2:Ext w1 w2)(hg:w1.heap.size<=g)(hI:ItB w2 g A (K.vars q).length 0 0 0 (λ_=>0) (λ_=>0) 0):
  RB K (q+1) { S with G:=upd S.G q g,A:=upd S.A q A,lo:=upd S.lo q w.heap.size,hi:=upd S.hi q w1.heap.size } cont alls w2:=by
 have F:=H.ext (hx1.trans hx2);have a2:=hI.lt;have ne:∀ {j},j<q->j≠q:=λh e=>by omega
 have D:∀ {j},j<q+1->j<q∨j=q:=λh=>by omega
 have a1:=hx1.size;have U:=hx2.size;refine⟨F.jb,F.row,F.at_,F.lists,F.all,F.alld,λj y=>?_,λj y=>?_,λj k y Z=>?_,λi j hi y=>?_,λi j J y=>?_,λj y=>?_,λj y=>?_,F.bj⟩
 .rcases D y with y|rfl
  .simp only[Jm _ _ (ne y)];exact F.its j y
  repeat grind [Qw]
 .rcases D y with y|rfl
  .simp only[Jm _ _ (ne y)];exact F.tri j y
  simp only[Qw];exact(hT.mono λk Z h=>by grind).ext hx2
 .have O:OB K S k:=Z;rcases D y with y|rfl
  .simp only[Jm _ _ (ne y)];exact H.iv j k y O
  simp only[Qw];exact .inl (H.oblt O)
 .rcases D y with y|rfl
  .simp only[Jm _ _ (ne y)];have h5:=(H.jlo j y).2;rcases D hi with hi|rfl
   .simp only[Jm _ _ (ne hi)];exact H.gi i j hi y
   repeat grind [Qw]
  simp only[Qw];rcases D hi with hi|rfl
  .simp only[Jm _ _ (ne hi)];exact .inl (H.its i hi).lt
  repeat grind [Qw]
 .rcases D y with y|rfl
  .simp only[Jm _ _ (ne y),Jm _ _ (ne (show i<q by omega))];exact H.ginj i j J y
  simp only[Qw,Jm _ _ (ne J)];have:=(H.its i J).lt;omega
 .rcases D y with y|rfl
  .simp only[Jm _ _ (ne y)];exact F.jlo j y
  simp only[Qw];exact⟨H.jb.lt,U⟩
 rcases D y with y|rfl
 .simp only[Jm _ _ (ne y)];exact F.jg j y
 simp only[Qw];have:=H.jb.lt;omega
theorem RB.trig(H:RB K q S cont alls w){N:Nat->Prop}(hg:GrN N w w')(hN:∀ k,k<w.heap.size->N k->OB K S k)(hj:j<q): Off (λk=>k<S.lo j∨S.hi j<=k) w' (λu=>TriA u (S.A j) (K.vars j).length (K.rs j)) :=
 (H.tri j hj).gr (hg.mono λk i h=>H.iv j k hj (hN k i h))
theorem RB.pushAll(H:RB K q S cont alls w)(ho:w'.ownsRow K.base 198 1 va' (alls.length+1) (alls++[p]))(hg:w.grownBy w' S.va.ownBlock)(hn:∀ g,va'.ownBlock=some g->S.va.ownBlock=some g∨w.heap.size<=g):
  RB K q { S with va:=va' } cont (alls++[p]) w':=by
 have y:GrN (λk=>S.va.ownBlock=some k) w w':=GrN.by hg λk U=>U
 have G:∀ g,S.va.ownBlock=some g->g≠K.J:=λg F e=>(H.jb.ne_own H.all rfl) (by rw[F,e]);have D:∀ k,OB K { S with va:=va' } k->OB K S k∨w.heap.size<=k:=λk O=>by
  rcases O with h|h|h|h|h
  .exact .inl (.inl h)
  .exact .inl (.inr (.inl h))
  .exact .inl (.inr (.inr (.inl h)))
  .rcases hn k h with h'|h'
   .exact .inl (.inr (.inr (.inr (.inl h'))))
   exact .inr h'
  exact .inl (.inr (.inr (.inr (.inr h))))
 refine⟨Ja H.jb y (λe=>G _ e rfl),Zq H.row H.all hg rfl,Zq H.at_ H.all hg rfl,H.lists.gr y (λi g hi F e=>H.alld i g hi F e),by grind,λv g Z F e=>?_,λj u=>?_,λj u=>?_,λj k u O=>?_,H.gi,H.ginj,λj u=>⟨(H.jlo j u).1,Nat.le_trans (H.jlo j u).2 hg.size⟩,H.jg,H.bj⟩
 .rcases hn g e with h'|h'
  .exact H.alld v g Z F h'
  have:=(H.lists.lt Z F).2;omega
 .exact Ja (H.its j u) y (λe=>(H.its j u).ne_own H.all rfl e.symm)
 .exact H.trig y (λk _ U=>.inr (.inr (.inr (.inl U)))) u
 rcases D k O with h'|h'
 .exact H.iv j k u h'
 have:=(H.jlo j u).2;exact .inr (by simp only;omega)
theorem RB.pushAt(H:RB K q S cont alls w)(hv:v<K.n)(ho:w4.ownsRow K.base 198 1 v4 ((cont v).length+1) (cont v++[p]))(hg:w.grownBy w4 (S.vat v).ownBlock)(hn:∀ g,v4.ownBlock=some g->(S.vat v).ownBlock=some g∨w.heap.size<=g):
  w4.cell? (adr K.Ba v)=some (S.vat v)/\w4.frozen? (adr K.Ba v)=false/\v4.oneCell'=true/\RB K q { S with vat:=upd S.vat v v4 } (upd cont v (cont v++[p])) alls (w4.setCell (adr K.Ba v) v4)/\GrN (λk=>(S.vat v).ownBlock=some k∨(Value.slice K.Ba K.n K.n).ownBlock=some k) w (w4.setCell (adr K.Ba v) v4):=by
 have F:=H.lists.own v hv;have Z:w4.ownsRow K.base 192 1 (.slice K.Ba K.n K.n) K.n ((List.range K.n).map S.vat):=Zq H.at_ F hg rfl;have F4:=H.lists.upd hv ho hg hn;obtain⟨s1,s2,s3,s4,s5⟩:=Zl Z (q:=v) om v4;have h1:v4.oneCell'=true:=by obtain⟨B,c,e,_⟩:=Jy ho;rw[e];rfl
 have y:GrN (λk=>(S.vat v).ownBlock=some k∨(Value.slice K.Ba K.n K.n).ownBlock=some k) w (w4.setCell (adr K.Ba v) v4):=(GrN.by hg λk ek=>.inl ek).trans (GrN.by s5 λk ek=>.inr ek);have a1:∀ k,(S.vat v).ownBlock=some k∨(Value.slice K.Ba K.n K.n).ownBlock=some k->OB K S k:=λk O=>by
  rcases O with h|h
  .exact .inr (.inr (.inr (.inr ⟨v,hv,h⟩)))
  exact .inr (.inr (.inl h))
 have G:∀ k,OB K { S with vat:=upd S.vat v v4 } k->OB K S k∨w.heap.size<=k:=λk O=>by
  rcases O with h|h|h|h|⟨u,hu,h⟩
  .exact .inl (.inl h)
  .exact .inl (.inr (.inl h))
  .grind
  .exact .inl (.inr (.inr (.inr (.inl h))))
  by_cases e:u=v
  .grind [Qw]
  simp only[Jm _ _ e]at h;exact .inl (.inr (.inr (.inr (.inr ⟨u,hu,h⟩))))
 have a2:((List.range K.n).map S.vat).set v v4=(List.range K.n).map (upd S.vat v v4):=by
  apply List.ext_getElem?
  grind [Qw,Jm]
 rw[a2]at s3;have F5:=F4.other Z s5 rfl;have nJ:¬ ((S.vat v).ownBlock=some K.J∨(Value.slice K.Ba K.n K.n).ownBlock=some K.J):=by
  rintro(h|h)
  .exact H.jb.ne_own F rfl h.symm
  exact H.jb.ne_own H.at_ rfl h.symm
 refine⟨s1.trans (by simp[hv]),s2,h1,⟨Ja H.jb y nJ,Zq (Zq H.row F hg rfl) Z s5 rfl,s3,⟨λi hi=>?_,F5.dis⟩,Jo H.all y (λg U=>?_),λu g hu U e=>?_,λj D=>?_,λj D=>H.trig y (λk _ O=>a1 k O) D,λj k D O=>?_,H.gi,H.ginj,λj D=>⟨(H.jlo j D).1,Nat.le_trans (H.jlo j D).2 y.size⟩,H.jg,H.bj⟩,y⟩
 .have:=F5.own i hi;grind [Qw,List.length_append,List.length_singleton,Jm]
 .rintro(h|h)
  .exact H.alld v g hv h U
  exact Ik H.at_ H.all rfl h U
 .by_cases e':u=v
  .subst e';simp only[Qw]at U;rcases hn g U with h'|h'
   .exact H.alld u g hu h' e
   obtain⟨_,_,_,_,hf⟩:=Jy H.all;grind
  simp only[Jm _ _ e']at U;exact H.alld u g hu U e
 .refine Ja (H.its j D) y ?_;rintro(h|h)
  .exact(H.its j D).ne_own F rfl h.symm
  exact(H.its j D).ne_own H.at_ rfl h.symm
 rcases G k O with h'|h'
 .exact H.iv j k D h'
 have:=(H.jlo j D).2;exact .inr (by simp only;omega)
end
open Go.RowKit Pl Go.Wk
attribute [local irreducible] WG
variable {vs:List Nat}{cs xs:List Value}{ca d g i m n q:Nat}{vars:Nat->List Nat}{G G' L e p:Nat->Nat}{N N' NY bx':Nat->Prop}{v x y yv:Value}{w w1 w2:World}
structure YS(s:Nat)(yv:Value)(bx:Nat->Prop)(Y:Nat->List Row->World->Prop): Prop where
 keep:∀ base l w w',Y base l w->GrN (λk=>s<=k/\k<base) w w'->Y base l w'
 call:∃ fid first cap,yv=.func (.func fid) first cap/\∀ base l w vr z,base<=w.heap.size->Y base l w->RowV w vr z->l.length<65536->Ret Tryz.prog fid (first.toList++[vr]++cap.toList) w λr w'=>r=.bool true/\Y base (l++[z]) w'/\GrN (λk=>bx k∨base<=k) w w'
theorem Jjj(ha:Qo vs)(hl:∀ u∈vs,u<n): vs.length<=n:=by
 have key:∀ k,lv vs k<=k:=by
  intro k;induction k with
  | zero=>rw[Jqq];exact nR _
  | succ k ih=>
   by_cases h:k∈vs
   repeat grind [Vc,Ga]
 have:=key n;rwa [Jml hl]at this
theorem Jlm{cs:List Nat}(h:i<cs.length): (nz cs).getD i 0=(cs.getD i 0:Int):=by
 simp[nz,List.getD,List.getElem?_eq_getElem h]
structure RunOk(n:Nat)(ts:List TA)(vars:Nat->List Nat)(rs:Nat->List Row): Prop where
 n32:n<=32
 m32:ts.length<=32
 at_:∀ i,i<ts.length->(ts.getD i ta0).2=⟨nz (vars i),(vars i).length,rs i⟩
 asc:∀ i,i<ts.length->Qo (vars i)
 lt:∀ i,i<ts.length->∀ u∈vars i,u<n
 cov:∀ v,v<n->∃ i,i<ts.length/\v∈vars i
 srt:∀ i,i<ts.length->Lt [] (rs i)
 len:∀ i,i<ts.length->∀ r∈rs i,r.length=(vars i).length
 big:∀ i,i<ts.length->(rs i).length<=65536
theorem Jyf{base base' e sz:Nat}(h:w.ownsRow base e sz v m xs)(hb:base'<=base): w.ownsRow base' e sz v m xs:=by
 rcases h with⟨y,⟨rfl,rfl⟩|⟨g,u,j,rfl,i,D⟩⟩
 .exact⟨y,.inl ⟨rfl,rfl⟩⟩
 exact⟨y,.inr ⟨g,u,j,rfl,Nat.le_trans hb i,D⟩⟩
theorem _root_.Go.Wk.Blk.sub2{t:TypeId}(h:Blk w g t cs)(h0:cs[i]?=some x)(h1:cs[i+1]?=some y): ∀ j u,[x,y][j]?=some u->w.cell? ((⟨g,i,none⟩:Addr).add j)=some u:=λj u D=>by
 match j,D with
 | 0,D=>simp only[List.getElem?_cons_zero,Option.some.injEq]at D;subst D;exact h.sub h0
 | 1,D=>simp only[List.getElem?_cons_succ,List.getElem?_cons_zero,Option.some.injEq]at D;subst D;exact h.sub h1
 | j+2,D=>simp at D
def Yb(d t:Nat): List Value:=(List.range d).map λj=>.int .i64 ((if j<t then j else 0:Nat):Int)
theorem Qlb(d:Nat): (madeCells (Value.int .i64 0).cells (d*1)).toList=Yb d 0:=by
 rw[Nat.mul_one];have e:(madeCells (Value.int .i64 0).cells d).toList=List.replicate d (Value.int .i64 0):=Yp _ _;rw[e];simp[Yb,List.map_const']
theorem Qhz(d:Nat): Yb d d=Jp (nz (List.range d)):=by grind [Yb,Jp,nz,List.map_map,List.map_congr_left,List.mem_range.1]
theorem Qhw{t:Nat}(h:t<d): (Yb d t).set t (.int .i64 (t:Int))=Yb d (t+1):=by
 apply List.ext_getElem?
 grind [Yb,List.getElem?_range]
theorem Qhx(d t:Nat): (Yb d t).length=d:=by simp[Yb]
theorem Qyt(A:Option Addr)(n c:Nat): ∀ u∈[Value.slice A n c],u.oneCell'=true:=λu i=>by rw[List.mem_singleton.1 i];rfl
def itp(g:Nat): Value:=.pointer (some ⟨g,0,none⟩)
def Xa(vars:Nat->List Nat)(G:Nat->Nat)(q:Nat)(v:Nat): List Value:=((List.range q).filter λi=>decide (v∈vars i)).map λi=>itp (G i)
theorem Qlg(vars:Nat->List Nat)(G:Nat->Nat)(q v:Nat): (Xa vars G q v).length<=q:=by grind [Xa,List.length_map,List.length_filter_le,List.range,List.length_range]
theorem Qlf(vars:Nat->List Nat)(G:Nat->Nat)(q v:Nat): Xa vars G (q+1) v=Xa vars G q v++if v∈vars q then[itp (G q)] else[]:=by grind [Xa,List.range_succ,List.filter_cons_of_pos,List.filter_cons_of_neg]
theorem Qlh(h:∀ j,j<q->G j=G' j)(v:Nat): Xa vars G q v=Xa vars G' q v:=by grind [Xa,List.map_congr_left,List.mem_range.1,List.mem_filter.1]
theorem _root_.Go.Wk.GrN.cut(hx:Ext w w1)(hg:GrN N w1 w2)(hN:∀ k,k<w.heap.size->N k->N' k): GrN N' w w2 :=
 ⟨hg.os.trans hx.os,hg.tape.trans hx.tape,hg.output.trans hx.output,Nat.le_trans hx.size hg.size,λk i hn=>(hg.block k (nM i hx.size) (λe=>hn (hN k i e))).trans (hx.block k i)⟩
theorem Cfg.steps{c:JC}{Y:List Row->World->Prop}{z:Row}{f h:Nat->Nat->Nat}{l:List Row}(H:Cfg c Y w z L p e f h l)(hok:JOk c)(hY:YC c Y NY){st:Int}(hJ:Blk w c.J 191 [c.rowv,c.ja,.int .i64 st,c.yv])(st':Int):
  Cfg c Y (w.setCell ⟨c.J,2,none⟩ (.int .i64 st')) z L p e f h l/\GrN c.NI w (w.setCell ⟨c.J,2,none⟩ (.int .i64 st')):=by
 have u:GrN (λk=>k=c.J) w (w.setCell ⟨c.J,2,none⟩ (.int .i64 st')):=GrN.set _ rfl;have j:GrN c.NI w (w.setCell ⟨c.J,2,none⟩ (.int .i64 st')):=GrN.set _ (.inl rfl);refine⟨⟨H.env.gr (j.mono λk _ D=>hok.sub k D),λi hi=>?_,Jo H.row u (λg G=>H.rowJ G),H.zl,⟨_,hJ.set 2 _⟩,hY.keep _ _ _ H.y j⟩,j⟩;obtain⟨st,F⟩:=H.its i hi;exact⟨st,Ja F u (hok.gj i hi)⟩
theorem Jtj(h:Qo vs): vs.Nodup:=h.imp λh e=>by omega
theorem Jcx(n:Nat): (madeCells (Value.slice none 0 0).cells (n*1)).toList=List.replicate n (Value.slice none 0 0):=by rw[Nat.mul_one];exact Yp _ _
theorem Qkd{ts:List TA}{Aa:Option Addr}{rs:Nat->List Row}{Y:Nat->List Row->World->Prop}(hok:RunOk n ts vars rs)(hR:Rd w 3 Aa ts.length (atC ts))(hat:∀ p∈ts,AtV w p.1 p.2)(hbx:∀ k,bx' k->k<w.heap.size)(hY:YS w.heap.size yv bx' Y)(hY0:∀ w',Ext w w'->Y w'.heap.size [] w')(hcap:∀ l:List Row,Lt [] l->(∀ x∈l,Gw n ts.length vars rs x)->l.length<=65536):
  Ret Tryz.prog 66 [.int .i64 (n:Int),.slice Aa ts.length ca,yv] w λu w'=>GrN bx' w w'/\∃ st base l,u=.tuple #[.int .i64 st,.int .i64 0]/\base<=w'.heap.size/\Y base l w'/\Lt [] l/\∀ x,x∈l↔Gw n ts.length vars rs x:=by
 have dg:=hok.n32;have di:=hok.m32;obtain⟨m,hm⟩:∃ m,m=ts.length:=⟨_,rfl⟩;obtain⟨bg,first,bh,es,d0⟩:=hY.call;subst es;refine Jz Tryz.func66 Tryz.ntmps66 rfl kr rfl ?_;refine ρ ?_;have d7:Ext w w.drew:=(Ext.refl w).drew;refine drG kr ?_;refine gpre (fuel':=5) [(0,0),(0,2),(0,4)] #[true,false,true,false,true,false,false,false] kr kr rfl ?_;refine ρd ?_;refine Jkj ?_;refine gcut 3 #[true,true,true,true,true,false,false,false] (fun (x:Option Addr×Option Addr)=>[(0,.int .i64 (n:Int)),(1,.slice Aa ts.length ca),(2,.func (.func bg) first bh),(24,.slice x.1 n n),(26,.slice x.2 n n),(27,.func (.func bg) first bh)])
  (λx w'=>Ext w.drew w'/\Vu w' w.heap.size (.slice x.1 n n) (List.replicate n V0)/\w'.ownsRow w.heap.size 192 1 (.slice x.2 n n) n (List.replicate n (.slice none 0 0))) ?_ ?_
 .rintro⟨Ra,Ba⟩ w1 ⟨dc,ax,cd⟩;refine gpre (fuel':=0) [(1,5),(1,6),(0,7)] #[true,true,true,true,true,true,true,true] kr kr rfl ?_;refine Jkr ?_;refine bld (Qmn _ _ _ _ _ _ _) ?_;refine Qk (Jkq (Ext.refl _) ?_);refine Jkr ?_;refine bx ?_;intro w2 J a1 hJ ey;refine Qk (Jkq a1 ?_);refine ρd ?_;refine Jkj ?_;refine gend kr ?_;refine ρ ?_;have ab:Ext w w2:=(d7.trans dc).trans a1;have dw:w.heap.size<=J:=nL (d7.trans dc).size hJ;obtain⟨K,hK⟩:∃ K:RK,K=⟨n,vars,rs,w.heap.size,J,Ra,Ba,.func (.func bg) first bh⟩:=⟨_,rfl⟩;have H2:RB K 0 ⟨λ_=>0,λ_=>none,λ_=>0,λ_=>0,.slice none 0 0,λ_=>.slice none 0 0⟩ (λ_=>[]) [] w2:=by
   subst hK;refine⟨ey,Jc ax a1,?_,⟨λi hi=>Xk _ _ _ _,λi j g _ _ _ e=>(by cases e)⟩,Xk _ _ _ _,λv g _ e=>(by cases e),λj hj=>om,λj hj=>om,λj k hj=>om,λi j hi=>om,λi j _ hj=>om,λj hj=>om,λj hj=>om,dw⟩;have:=Jc cd a1;have e:List.replicate n (Value.slice none 0 0)=(List.range n).map λ_=>Value.slice none 0 0:=by simp[List.map_const']
   rw[e]at this;exact this
  clear ax cd;refine Jh (fun (i:Nat)=>[(0,.int .i64 (n:Int)),(1,.slice Aa ts.length ca),(8,.pointer (some ⟨J,0,none⟩)),(30,.slice Aa ts.length ca),(31,.int .i64 (ts.length:Int)),(32,.int .i64 (i:Int))])
   (λi w'=>i<=ts.length/\Ext w2 w'/\∀ j,j<i->rs j≠[]) (λi=>ts.length-i) 0 sB ⟨Nat.zero_le _,Ext.refl _,λj hj=>om⟩ ?_
  rintro i w3 ⟨hi,Z,c6⟩;refine ρ ?_;refine ci (λh=>?_) (λh=>?_)
  .have li:i<ts.length:=by have:=oT h;omega
   have e5:=hR.ext (ab.trans Z);obtain⟨t1,t2,t3,a,hp⟩:∃ t1 t2 t3 a,ts.getD i ta0=((t1,t2,t3),a):=⟨_,_,_,_,rfl⟩;have a8:AtV w (t1,t2,t3) a:=by have:=hat _ (Jwt rfl li);rw[hp]at this;exact this
   have ea:a=⟨nz (vars i),(vars i).length,rs i⟩:=by have:=hok.at_ i li;rw[hp]at this;exact this
   clear h;obtain⟨⟨D,d,e1,hd,f0,dn⟩,e2,a6⟩:=id a8;simp only at e1 e2;subst e1;subst e2;obtain⟨ps,G,gc,_,aw,_⟩:=id a6;simp only at aw;subst aw;refine ρ ?_;refine ixq 3 i e5 li ?_;refine ρ ?_;refine lds (cs:=[.slice D a.vars.length d,.int .i64 (a.ar:Int),.slice G ps.length gc]) (λj u hu=>Jwd e5 rfl li (by rw[hp];exact hu)) ?_;refine ρ ?_;refine alc Zo ?_;intro w4 b a5 hb hB;refine ρ ?_;refine stb hB ?_ a8.one;intro w5 f9 cx co;have aq:Ext w3 w5:=co w3 a5 hb;refine ρ ?_;refine lds (cs:=[.int .i64 (a.ar:Int),.slice G ps.length gc]) (f9.sub2 (i:=1) rfl rfl) ?_;refine ρ ?_;refine cl (Jqb ((a8.ext (((ab.trans Z).trans aq))).rel)) ?_;rintro u w6 ⟨rfl,bm⟩;refine ρ ?_;refine ci (λh=>?_) (λh=>?_)
   .refine ρ ?_;have bv:Ext w w6:=((ab.trans Z).trans aq).trans bm;refine Xq ⟨(GrN.ext bv),0,w6.heap.size,[],rfl,Nat.le_refl _,hY0 w6 bv,List.Pairwise.nil,λx=>⟨λhx=>(by cases hx),λhx=>?_⟩⟩;have U:=hx.2 i li;have h2:a.rows.length=0:=by have:=Ud h;omega
    rw[ea]at h2;have h3:rs i=[]:=List.eq_nil_of_length_eq_zero h2;rw[h3]at U;cases U
   have h2:rs i≠[]:=λe=>by
    have h3:=Vs h;rw[ea,e]at h3;exact h3 rfl
   refine ρ ?_;refine Jg (i+1) sO ⟨om,(Z.trans aq).trans bm,λj hj=>?_⟩ om;by_cases e:j=i
   .rw[e];exact h2
   exact c6 j om
  have cw:i=ts.length:=by have:=oF h;omega
  subst cw;refine ρ ?_;refine Qd (fun (q:Nat) (S:RS)=>[(0,.int .i64 (n:Int)),(8,.pointer (some ⟨J,0,none⟩)),(11,S.va),(41,.slice Aa ts.length ca),(42,.int .i64 (ts.length:Int)),(43,.int .i64 (q:Int))])
   (λq S w'=>q<=ts.length/\Ext w w'/\RB K q S (Xa vars S.G q) ((List.range q).map λj=>itp (S.G j)) w') (λq _=>ts.length-q) 0 ⟨λ_=>0,λ_=>none,λ_=>0,λ_=>0,.slice none 0 0,λ_=>.slice none 0 0⟩ sB
   ⟨Nat.zero_le _,ab.trans Z,H2.ext Z⟩ ?_
  rintro q S w4 ⟨hq,a5,H4⟩;refine ρ ?_;refine ci (λh=>?_) (λh=>?_)
  .have lq:q<ts.length:=by have:=oT h;omega
   have e4:=hR.ext a5;obtain⟨t1,t2,t3,a,hp⟩:∃ t1 t2 t3 a,ts.getD q ta0=((t1,t2,t3),a):=⟨_,_,_,_,rfl⟩;have a8:AtV w (t1,t2,t3) a:=by have:=hat _ (Jwt rfl lq);rw[hp]at this;exact this
   have ea:a=⟨nz (vars q),(vars q).length,rs q⟩:=by have:=hok.at_ q lq;rw[hp]at this;exact this
   subst ea;clear h;obtain⟨⟨D,d,e1,hd,f0,dn⟩,e2,a6⟩:=id a8;simp only at e1 e2;subst e1;subst e2;obtain⟨ps,G,gc,_,aw,_⟩:=id a6;simp only at aw;subst aw;have df:=Ju (vars q);have fg:(vars q).length<=n:=Jjj (hok.asc q lq) (hok.lt q lq);refine ρ ?_;refine ixq 3 q e4 lq ?_;refine ρ ?_;refine lds (cs:=[.slice D (nz (vars q)).length d,.int .i64 ((vars q).length:Int),.slice G ps.length gc]) (λj u hu=>Jwd e4 rfl lq (by rw[hp];exact hu)) ?_;refine ρ ?_;refine alc Zo ?_;intro w5 b co hb hB;refine ρ ?_;refine stb hB ?_ a8.one;intro w6 ed br bm;have bw:Ext w4 w6:=bm w4 co hb;have H6:=H4.ext bw;refine ρ ?_;refine ld (ed.at (i:=0) rfl) ?_;refine ρ ?_;rw[df];refine mkn EI (vars q).length om (by unfold maxLen;omega) ?_;intro w7 O d8 cu fj;rw[Qlb]at cu;refine ρ ?_;refine Jh (fun (t:Nat)=>[(0,.int .i64 (n:Int)),(8,.pointer (some ⟨J,0,none⟩)),(11,S.va),(41,.slice Aa ts.length ca),(42,.int .i64 (ts.length:Int)),(43,.int .i64 (q:Int)),(13,.pointer (some ⟨b,0,none⟩)),(14,.slice O (vars q).length (vars q).length),(51,.slice O (vars q).length (vars q).length),(52,.int .i64 ((vars q).length:Int)),(53,.int .i64 (t:Int))])
    (λt w'=>t<=(vars q).length/\Ext w6 w'/\w'.ownsRow w6.heap.size 3 1 (.slice O (vars q).length (vars q).length) (vars q).length (Yb (vars q).length t)) (λt=>(vars q).length-t) 0 sB
    ⟨Nat.zero_le _,d8,cu⟩ ?_
   clear cu d8;rintro t w8 ⟨ht,bl,b1⟩;refine ρ ?_;refine ci (λh=>?_) (λh=>?_)
   .have lt:t<(vars q).length:=by have:=oT h;omega
    clear h;refine ρ ?_;refine ix t (Rd.own b1) lt ?_;obtain⟨s1,s2,s3,s4,s5⟩:=Zl b1 (q:=t) om (.int .i64 (t:Int));have du:t<(Yb (vars q).length t).length:=by rw[Qhx];exact lt
    refine ρ ?_;refine sto (s1.trans (gE du)) s2 ?_;rw[Qhw lt]at s3;have ap:Ext w6 (w8.setCell (adr O t) (.int .i64 (t:Int))):=Js bl s5 (λk hk=>by
     obtain⟨_,_,_,_,hf⟩:=Jy b1;exact(hf k hk).1)
    refine ρ ?_;exact Jg (t+1) sO ⟨om,ap,s3⟩ om
   have cq:t=(vars q).length:=by have:=oF h;omega
   subst cq;clear h;rw[Qhz]at b1;have ec:=ed.ext bl;have bu:Ext w w8:=(a5.trans bw).trans bl;have cy:IntsV w8 (.slice O (vars q).length (vars q).length) (nz (List.range (vars q).length)):=by
    have e:(nz (List.range (vars q).length)).length=(vars q).length:=by rw[Ju,List.length_range]
    exact⟨O,(vars q).length,by rw[e],by rw[e];exact nR _,by rw[e];omega,by rw[e];exact Rd.own b1⟩
   refine ρ ?_;refine lds (cs:=[.int .i64 ((vars q).length:Int),.slice G ps.length gc]) (ec.sub2 (i:=1) rfl rfl) ?_;refine ρ ?_;refine cl (Qqx (a8.ext bu).rel (hok.srt q lq) (hok.len q lq) cy (show(vars q).length<=32 by omega) (hok.big q lq)) ?_;rintro u w9 ⟨ap,tv,rfl,⟨bi,rfl⟩,dz⟩;refine ρ ?_;refine alc Jwj ?_;intro ff b2 db f2 f8;refine ρ ?_;refine stb (cs':=[.slice bi (vars q).length (vars q).length]) f8 ?_ (Qyt _ _ _);intro d6 ee fc da;have ac:Ext w9 d6:=da w9 db f2;refine ρ ?_;refine ldW ee ?_;refine ρ ?_;refine cl (Qqz d6) ?_;rintro u d5 ⟨au,g,rfl,dm,ce⟩;have H8:=H6.ext bl;have dx:Off (λk=>k<w8.heap.size) w9 (λu=>TriA u bi (K.vars q).length (K.rs q)):=by
    subst hK;exact dz.imp λu h=>h.a
   have be:ItB d5 g bi (K.vars q).length 0 0 0 (λ_=>0) (λ_=>0) 0:=by subst hK;exact ce
   have eo:=H8.iter ap dx (ac.trans au) (nL ac.size dm) be;have bf:=ec.ext (((ap.trans ac)).trans au);have bt:K.n=n:=by rw[hK]
   have d3:K.base=w.heap.size:=by rw[hK]
   have f4:K.J=J:=by rw[hK]
   have b9:K.Ba=Ba:=by rw[hK]
   have an:Ext w d5:=(bu.trans ap).trans (ac.trans au);have cv:∀ {w':World} {e sz m':Nat} {v:Value} {xs:List Value},w'.ownsRow K.base e sz v m' xs->∀ k,v.ownBlock=some k->w.heap.size<=k:=λho k ek=>by
    obtain⟨_,_,_,_,hf⟩:=Jy ho;rw[<-d3];exact(hf k ek).1
   refine ρ ?_;refine bsl (Jsl (some ⟨g,0,none⟩)) ?_;intro fe b3 a3 fi fb;have bj:=eo.ext a3;refine ρ ?_;refine apb (base:=K.base) EIt bj.all (fb.rd (n:=1) rfl) (λu hu=>by rw[List.mem_singleton.1 hu];rfl) (by unfold maxLen;simp;omega) (by simp;omega) (by rw[d3];exact(an.trans a3).size) ?_;intro cn er c5 ag c7;have en:=bj.pushAll c5 ag c7;have ch:=(bf.ext a3).grown ag ((bf.ext a3).ne_own bj.all rfl);have bz:Ext w er:=Js (an.trans a3) ag (cv bj.all);refine ρ ?_;refine ld (ch.at (i:=0) rfl) ?_;refine ρ ?_;refine Qd (fun (t:Nat) (vt:Nat->Value)=>[(0,.int .i64 (n:Int)),(8,.pointer (some ⟨J,0,none⟩)),(11,cn),(41,.slice Aa ts.length ca),(42,.int .i64 (ts.length:Int)),(43,.int .i64 (q:Int)),(18,.pointer (some ⟨g,0,none⟩)),(78,.slice D (nz (vars q)).length d),(79,.int .i64 ((nz (vars q)).length:Int)),(80,.int .i64 (t:Int))])
    (λt vt w'=>t<=(vars q).length/\Ext w w'/\RB K (q+1) { G:=upd S.G q g,A:=upd S.A q bi,lo:=upd S.lo q w8.heap.size,hi:=upd S.hi q w9.heap.size,va:=cn,vat:=vt } (λv=>Xa vars S.G q v++if v∈(vars q).take t then[itp g] else[]) (((List.range q).map λj=>itp (S.G j))++[itp g]) w') (λt _=>(vars q).length-t) 0 S.vat sB
    ⟨Nat.zero_le _,bz,?_⟩ ?_
   .have e:(λv=>Xa vars S.G q v++if v∈(vars q).take 0 then[itp g] else[])=Xa vars S.G q:=by funext v;simp
    rw[e];exact en
   clear en bj c5 ag c7 ch bz eo bf ce be dz dx;rintro t vt cm ⟨ht,af,am⟩;refine ρ ?_;refine ci (λh=>?_) (λh=>?_)
   .have lt:t<(vars q).length:=by have:=oT h;omega
    clear h;obtain⟨vi,cp⟩:∃ vi,vi=(vars q).getD t 0:=⟨_,rfl⟩;have et:vi∈vars q:=by rw[cp];exact getD_mem' 0 _ lt
    have aj:vi<n:=hok.lt q lq vi et;have av:vi<K.n:=by rw[bt];exact aj
    have cg:=dn.ext af;refine ρ ?_;refine ix t cg (by rw[df];exact lt) ?_;refine ρ ?_;refine ld (cg.cell (Qn lt)) ?_;rw[<-cp];obtain⟨own,ay⟩:∃ own,own=(vt vi).ownBlock:=⟨_,rfl⟩;have bd:=am.jb;rw[f4,b9,bt]at bd;have a7:=am.at_;rw[bt,b9]at a7;have az:=am.lists.own vi av;have nJ:¬ one own J:=λe=>by
     have U:own=some J:=e;exact bd.ne_own az rfl (by rw[<-U];exact ay)
    have nA:∀ ad,Ba=some ad->¬ one own ad.block:=λad e h'=>by
     subst e;exact Ik a7 az rfl rfl (by have U:own=some ad.block:=h';rw[<-U];exact ay.symm)
    refine ρ ?_;refine drN (one own) 8 [(0,0),(0,1),(0,2),(0,3),(0,4),(0,5),(0,6),(0,7),(0,8),(0,9),(0,10),(0,11),(0,12),(1,13),(1,14),(0,15),(2,16)] kr ?_;have a2:Ext cm cm.drew:=(Ext.refl cm).drew;have em:=am.ext a2;have bc:=bd.ext a2;have ah:=Jc a7 a2;have cz:((List.range n).map vt)[vi]?=some (vt vi):=by simp[aj]
    refine ρn ?_;refine nld (Qf (bc.at (i:=1) rfl) nJ) ?_;refine ρn ?_;refine nld (Qf (bc.at (i:=1) rfl) nJ) ?_;refine ρn ?_;refine nix vi (Rd.own ah) aj ?_;refine ρn ?_;refine nld (λw' hg=>(Zg (Rd.own ah) hg (λ_ ad e=>nA ad e)).cell cz) ?_;refine ρn ?_;refine nop ?_;refine bsl (Jsl (some ⟨g,0,none⟩)) ?_;intro fd b4 ae fh fa;refine ρ ?_;refine Qg (GrN.ext ae) ?_;have ak:=em.ext ae;refine nop ?_;have du:=Qlg vars S.G q vi;refine apb (base:=K.base) EIt (ak.lists.own vi av) (fa.rd (n:=1) rfl) (λu hu=>by rw[List.mem_singleton.1 hu];rfl) ?_ ?_ (by rw[d3];exact((af.trans a2).trans ae).size) ?_
    .rw[List.length_append];unfold maxLen;split<;>simp<;>omega
    .rw[List.length_append];split<;>simp<;>omega
    intro v4 ep de b5 dh;refine ρ ?_;refine Qg (GrN.by b5 λj ej=>by rw[<-ay]at ej;exact ej) ?_;obtain⟨c1,c2,c3,ei,c8⟩:=ak.pushAt av de b5 dh;rw[b9]at c1 c2 ei c8;have ck:=Zq ak.at_ (ak.lists.own vi av) b5 rfl;rw[bt,b9]at ck;refine ρn ?_;refine nix vi (Rd.own ck) aj ?_;refine ρn ?_;refine Xm ?_;refine sto c1 c2 ?_ (hv:=c3);have d9:Ext w (ep.setCell (adr Ba vi) v4):=c8.old ((af.trans a2).trans ae) (λk hk=>by
     rcases hk with hk|hk
     .exact cv (ak.lists.own vi av) k hk
     exact cv ak.at_ k (by rw[b9];exact hk))
    refine ω5 ?_;refine Uf ?_;refine ρn ?_;refine ρ ?_;refine Qy (t+1) (upd vt vi v4) sO ⟨om,d9,?_⟩ om;have dd:(vars q).take (t+1)=(vars q).take t++[vi]:=by rw[Xu 0 lt,cp]
    have ew:vi ∉ (vars q).take t:=λhm=>by
     have U:((vars q).take (t+1)).Nodup:=(Jtj (hok.asc q lq)).sublist (List.take_sublist _ _);rw[dd,List.nodup_append]at U;exact U.2.2 _ hm _ (List.mem_singleton.2 rfl) rfl
    have e:upd (λv=>Xa vars S.G q v++if v∈(vars q).take t then[itp g] else[]) vi ((Xa vars S.G q vi++if vi∈(vars q).take t then[itp g] else[])++[.pointer (some ⟨g,0,none⟩)])=(λv=>Xa vars S.G q v++if v∈(vars q).take (t+1) then[itp g] else[]):=by
     funext v
     rw[dd];by_cases e:v=vi
     .subst e;rw[Qw,if_neg ew,if_pos (by simp)];simp[itp]
     rw[Jm _ _ e];congr 1
     by_cases U:v∈(vars q).take t
     .rw[if_pos U,if_pos (by simp[U])]
     rw[if_neg U,if_neg (by simp[U,e])]
    rw[<-e];exact ei
   have cq:t=(vars q).length:=by have:=oF h;omega
   subst cq;clear h;refine ρ ?_;refine Qy (q+1) ⟨upd S.G q g,upd S.A q bi,upd S.lo q w8.heap.size,upd S.hi q w9.heap.size,cn,vt⟩ sO ⟨om,af,?_⟩ om;have e1:(λv=>Xa vars S.G q v++if v∈(vars q).take (vars q).length then[itp g] else[])=Xa vars (upd S.G q g) (q+1):=by
    funext v
    rw[Qlf,List.take_length,Qw,Qlh (G':=upd S.G q g) (λj hj=>(Jm _ _ om).symm)]
   have e2:((List.range q).map λj=>itp (S.G j))++[itp g]=(List.range (q+1)).map λj=>itp (upd S.G q g j):=by
    rw[List.range_succ,List.map_append,List.map_singleton,Qw];congr 1
    refine List.map_congr_left λj hj=>?_;have:=List.mem_range.1 hj;rw[Jm _ _ om]
   rw[e1,e2]at am;exact am
  have eu:q=ts.length:=by have:=oF h;omega
  subst eu;clear h;subst hK;obtain⟨h0,bq⟩:∃ h0,h0=w4.heap.size:=⟨_,rfl⟩;obtain⟨a9,ai⟩:∃ a9:Nat->Prop,a9=λk=>k=J∨(∃ i,i<ts.length/\k=S.G i)∨(Value.slice Ra n n).ownBlock=some k:=⟨_,rfl⟩;obtain⟨c,hc⟩:∃ c:JC,c=⟨⟨S.G,S.A,λi=>(vars i).length,rs⟩,n,ts.length,vars,J,Ra,w.heap.size,.slice Ba n n,.func (.func bg) first bh,S.vat,λk=>bx' k∨h0<=k∨a9 k⟩:=⟨_,rfl⟩;have d2:∀ k,c.NI k↔a9 k:=λk=>by subst hc;subst ai;exact Iff.rfl
  have bs:∀ k,c.N k↔bx' k∨h0<=k∨a9 k:=λk=>by subst hc;exact Iff.rfl
  have e7:J<h0:=by rw[bq];exact H4.jb.lt
  have c0:∀ {e sz m':Nat} {v:Value} {xs:List Value},w4.ownsRow w.heap.size e sz v m' xs->∀ k,v.ownBlock=some k->w.heap.size<=k/\k<h0:=λho k ek=>by
   obtain⟨_,_,_,_,hf⟩:=Jy ho;rw[bq];exact hf k ek
  have b8:∀ k,a9 k->w.heap.size<=k/\k<h0:=λk hk=>by
   subst ai;rcases hk with hk|⟨i,hi,hk⟩|hk
   .subst hk;exact⟨dw,e7⟩
   .subst hk;have U:=(H4.its i hi).lt;have h2:=H4.jg i hi;simp only at h2;omega
   exact c0 H4.row k hk
  have f3:∀ k,k<h0->¬ bx' k->¬ a9 k->¬ c.N k:=λk U h2 h3 h4=>by
   rcases(bs k).1 h4 with h5|h5|h5
   .exact h2 h5
   .omega
   exact h3 h5
  have cb:∀ k,w.heap.size<=k->¬ bx' k:=λk hk hb=>by have:=hbx k hb;omega
  have aa:∀ {e sz m':Nat} {v:Value} {xs:List Value},w4.ownsRow w.heap.size e sz v m' xs->Nat.beq e 191=false->Nat.beq e 224=false->Nat.beq 75 e=false->∀ k,v.ownBlock=some k->¬ c.N k:=λho e1 e2 e3 k ek=>by
   have U:=c0 ho k ek;refine f3 k U.2 (cb k U.1) λh2=>?_;subst ai;rcases h2 with h2|⟨i,hi,h2⟩|h2
   .subst h2;exact H4.jb.ne_own ho e1 ek.symm
   .subst h2;exact(H4.its i hi).ne_own ho e2 ek.symm
   exact Ik H4.row ho e3 h2 ek
  have f6:∀ v,c.I v=(List.range ts.length).filter λi=>decide (v∈vars i):=λv=>by subst hc;rfl
  have c4:∀ v,Iq c.F (c.I v)=Xa vars S.G ts.length v:=λv=>by rw[f6];subst hc;rfl
  have e8:∀ v,(c.I v).length=(Xa vars S.G ts.length v).length:=λv=>by rw[<-c4];simp[Iq]
  have ba:JOk c:=by
   have dk:∀ i j,i<ts.length->j<ts.length->S.G i=S.G j->i=j:=λi j hi hj e=>by
    rcases Nat.lt_trichotomy i j with U|U|U
    .have:=H4.ginj i j U hj;omega
    .exact U
    have:=H4.ginj j i U hi;omega
   have ez:∀ i,i<ts.length->S.G i≠J:=λi hi e=>by have:=H4.jg i hi;simp only at this;omega
   have dq:∀ i,i<ts.length->(vars i).length<=32:=λi hi=>by have:=Jjj (hok.asc i hi) (hok.lt i hi);omega
   subst hc;exact⟨dg,di,hok.asc,hok.lt,λi _=>rfl,dq,c6,hok.srt,hok.len,hok.big,dk,ez,hok.cov,λk hk=>.inr (.inr ((d2 k).1 hk))⟩
  have d4:JEnv c w4:=by
   refine⟨λi hi=>?_,⟨Ba,n,by subst hc;rfl,?_⟩,λv hv=>?_⟩
   .have bp:i<ts.length:=by subst hc;exact hi
    have U:=H4.tri i bp;have h2:Off c.N w4 (λu=>TriA u (S.A i) (vars i).length (rs i)):=U.mono λk hk h=>by
     have h3:=(H4.jlo i bp);have h4:=H4.iv i k bp;simp only at h3;rcases(bs k).1 h with h5|h5|h5
     .have:=hbx k h5;exact .inl om
     .omega
     subst ai;rcases h5 with h5|⟨i',cw,h5⟩|h5
     .exact h4 (.inl h5)
     .subst h5;exact H4.gi i' i cw bp
     exact h4 (.inr (.inl h5))
    subst hc;exact h2
   .have U:=Jqh H4.at_ (aa H4.at_ rfl rfl rfl);have h2:=U.imp (Ψ:=λu=>Rd u 1 Ba n ((List.range n).map S.vat)) λu h=>Rd.own h;have:c.n=n/\c.vat=S.vat:=by subst hc;exact⟨rfl,rfl⟩
    rw[this.1,this.2];exact h2
   have aj:v<n:=by subst hc;exact hv
   have ho:=H4.lists.own v aj;obtain⟨B,cc,e1,e2,e3⟩:=Jy ho;have:c.vat v=S.vat v:=by subst hc;rfl
   refine⟨B,cc,by rw[this,e1,e8],?_⟩;rw[c4,e8];refine(Jqh ho (aa ho rfl rfl rfl)).imp λu h=>?_;rw[e1]at h;exact Rd.own h
  have d1:YC c (λl u=>Y h0 l u/\h0<=u.heap.size) (λk=>bx' k∨h0<=k):=by
   refine⟨λk hk=>(bs k).2 (by rcases hk with h|h;(exact .inl h);exact .inr (.inl h)),λk hk h=>?_,λl u u' h hg=>⟨hY.keep _ _ _ _ h.1 (hg.mono λk _ hk=>?_),Nat.le_trans h.2 hg.size⟩,bg,first,bh,by subst hc;rfl,λl u vr z h hr hl=>?_⟩
   .have U:=b8 k ((d2 k).1 h);rcases hk with h2|h2
    .exact cb k U.1 h2
    omega
   .have U:=b8 k ((d2 k).1 hk);exact U
   refine(d0 h0 l u vr z h.2 h.1 hr hl).mono ?_;rintro r u' ⟨U,h2,h3⟩;exact⟨U,⟨h2,Nat.le_trans h.2 h3.size⟩,h3⟩
  have ds:c.n=n:=by subst hc;rfl
  have dt:c.m=ts.length:=by subst hc;rfl
  have eb:Cfg c (λl u=>Y h0 l u/\h0<=u.heap.size) w4 (List.replicate n V0) (λi=>lv (c.vars i) 0) (λ_=>0) (λ_=>0) (λ_ _=>0) (λ_ _=>0) []:=by
   refine⟨d4,λi hi=>⟨0,?_⟩,?_,by rw[ds];simp,⟨0,?_⟩,by rw[bq];exact hY0 w4 a5,by rw[bq];exact nR _⟩
   .simp only[Jqq];rw[dt]at hi;have:=H4.its i hi;subst hc;exact this
   .have:=H4.row;subst hc;exact this
   have:=H4.jb;subst hc;exact this
  have cj:∀ x,c.Ans x↔Gw n ts.length vars rs x:=λx=>by subst hc;exact Iff.rfl
  have e6:Pth c 0 (List.replicate n V0) (λ_=>0) (λ_=>0):=by
   refine⟨λi hi=>?_,λi hi h=>?_⟩
   .rw[Jqq,Vv,if_pos rfl,List.take_zero]
   rw[Jqq]at h;omega
  have b6:c.J=J:=by subst hc;rfl
  refine ρ ?_;have c9:=Qgc ba d1 (λl U h2=>hcap l U λx hx=>(cj x).1 (h2 x hx)) n 0 (List.replicate n V0) (λ_=>0) (λ_=>0) (λ_ _=>0) (λ_ _=>0) [] w4 (by rw[ds];omega) eb e6 List.Pairwise.nil (λx hx=>by cases hx) (λx hx=>by cases hx);rw[b6]at c9;refine cl c9 ?_;rintro u w5 ⟨rfl,cx,z5,f5,h5,l5,H5,_,_,dj,ex⟩;have b7:w5.ownsRow w.heap.size 198 1 S.va ts.length ((List.range ts.length).map λj=>itp (S.G j)):=by
   have U:=H4.all;rw[List.length_map,List.length_range]at U;exact Jo U cx (aa H4.all rfl rfl rfl)
  obtain⟨VA,vc,ef,_,_⟩:=Jy b7;rw[ef]at b7 ⊢;have cr:Off c.N w5 (λu=>Rd u 1 VA ts.length ((List.range ts.length).map λj=>itp (S.G j))):=by
   refine(Jqh b7 λg eg=>?_).imp λu h=>Rd.own h;exact aa H4.all rfl rfl rfl g (by rw[ef];exact eg)
  refine ρ ?_;refine Jh (fun (i:Nat)=>[(8,.pointer (some ⟨J,0,none⟩)),(104,.slice VA ts.length vc),(105,.int .i64 (ts.length:Int)),(106,.int .i64 (i:Int))])
   (λi w'=>i<=ts.length/\GrN c.N w5 w'/\Cfg c (λl u=>Y h0 l u/\h0<=u.heap.size) w' z5 (λi=>lv (c.vars i) 0) (λ_=>0) (λ_=>0) f5 h5 l5) (λi=>ts.length-i) 0 sB ⟨Nat.zero_le _,GrN.refl _ _,H5⟩ ?_
  rintro i w6 ⟨hi,br,H6⟩;refine ρ ?_;refine ci (λh=>?_) (λh=>?_)
  .have li:i<ts.length:=by have:=oT h;omega
   clear h;have e0:=cr w6 br;refine ρ ?_;refine ix i e0 li ?_;refine ρ ?_;refine ld (e0.cell (show((List.range ts.length).map λj=>itp (S.G j))[i]?=some (.pointer (some ⟨S.G i,0,none⟩)) by simp[li,itp])) ?_;obtain⟨sj,bb⟩:=H6.jb;rw[b6]at bb;refine ρ ?_;refine drN (λ_=>False) 10 [(0,0),(0,1),(0,2),(0,3),(0,4),(1,5),(0,6),(0,7),(0,8),(2,9)] kr ?_;have ao:Ext w6 w6.drew:=(Ext.refl w6).drew;have eh:=H6.ext d1 ao;have a4:=bb.ext ao;obtain⟨si,e9⟩:=eh.its i (by rw[dt];exact li);have f7:c.F.G i=S.G i:=by subst hc;rfl
   rw[f7]at e9;refine ρn ?_;refine nld (Qf (a4.at (i:=2) rfl) (λe=>e)) ?_;refine ρn ?_;refine nop ?_;refine cl (Qds e9) ?_;rintro u w7 ⟨rfl,rfl⟩;refine ρ ?_;refine Qg (GrN.refl _ _) ?_;refine ρn ?_;refine Xm ?_;refine sto (p:=⟨J,2,none⟩) (a4.cell 2) (a4.frozen _) ?_;rw[<-b6]at a4;obtain⟨H8,dl⟩:=eh.steps ba d1 a4 (IntKind.i64.wrap (sj+si));rw[b6]at H8 dl;refine ω5 ?_;refine Uf ?_;refine ρn ?_;refine ρ ?_;exact Jg (i+1) sO ⟨om,(br.trans (GrN.ext ao)).trans (dl.mono λk _ hk=>ba.sub k hk),H8⟩ om
  clear h;obtain⟨sj,bb⟩:=H6.jb;rw[b6]at bb;refine ρ ?_;refine ld (bb.at (i:=2) rfl) ?_;refine ρ ?_;refine Xq ⟨GrN.cut a5 (cx.trans br) λk hk h=>?_,sj,h0,l5,rfl,H6.y.2,H6.y.1,dj,λx=>?_⟩
  .rcases(bs k).1 h with U|U|U
   .exact U
   .have:=a5.size;omega
   have:=(b8 k U).1;omega
  rw[ex,<-cj x];constructor
  .rintro(U|U)
   .cases U
   exact U.1
  intro U;exact .inr ⟨U,rfl⟩
 intro rest;refine gtwo 1 3 kr rfl rfl rfl ?_ ?_
 .refine ρ ?_;refine mkn EV n om (by unfold maxLen;omega) ?_;intro w2 A2 a1 bo _;refine Qk (Jnb a1 ?_);refine gpre (fuel':=3) [(1,3)] #[true,true,true,true,true,false,false,false] kr kr rfl ?_;refine Jkr ?_;refine mkn EIts n om (by unfold maxLen;omega) ?_;intro w3 A3 Z bn _;refine Qk (Jkq Z ?_);refine dnil (Jkj ?_);refine rest (A2,A3) _ _ ⟨a1.trans Z,?_,?_⟩ sB
  .rw[Vu,List.length_replicate,<-Jvn];exact Jc bo Z
  rw[Jcx]at bn;exact Jyf bn a1.size
 refine ρ ?_;refine mkn EIts n om (by unfold maxLen;omega) ?_;intro w2 A2 a1 bo _;refine Qk (Jnb a1 ?_);refine gpre (fuel':=3) [(1,1)] #[true,true,true,true,true,false,false,false] kr kr rfl ?_;refine Jkr ?_;refine mkn EV n om (by unfold maxLen;omega) ?_;intro w3 A3 Z bn _;refine Qk (Jkq Z ?_);refine dnil (Jkj ?_);refine rest (A3,A2) _ _ ⟨a1.trans Z,?_,?_⟩ sB
 .rw[Vu,List.length_replicate,<-Jvn];exact Jyf bn a1.size
 rw[Jcx]at bo;exact Jc bo Z
end Go.Proofs.YtebiphhfkdbpfaaGreat
namespace Go.Wk
open Go.RowKit
variable {d n t t2 ty:Nat}
theorem fnl{P:Program}{al:AL}{w:World}{Q:Exit->Act->World->Prop}{ops:Array Oper}{rest:List Oper}{pos:String}{aft:Array Edge}{tt:TT}[h:Tab P tt]{x:Operand}{k:TK}{ps rs:Array TypeId}{va:Bool}{f:Fn}{first cap:Array Value}(kk:WL P n ops Q rest ((d,.bool false)::al) w)(ht:tk tt t=some k:=by rfl)(hk:k.desc=.func ps rs va:=by rfl)(hx:ev al x=some (.func f first cap):=by rfl)(hd:Nat.blt d n=true:=by rfl):
  WL P n ops Q (⟨some d,.binOp .eql t x (.const .nilFunc) t2,ty,pos,aft,none⟩::rest) al w :=
 wop hd (λa j=>by
  have i:=Yl h.ok ht hk rfl;have y:a.eval (.const .nilFunc)=.nilFunc:=rfl;have u:∀ d:Nat,(Op.equalIn (d+1) t (.func f first cap) .nilFunc).run P w=.ok false w:=λd=>by simp[Op.equalIn,run_underlying i]
  simp[execOp,j.ev hx,y,eqGuard,binOp,Op.equal,Op.maxDepth,u 9999]) kk
end Go.Wk
namespace Go.Proofs.YtebiphhfkdbpfaaGreat
open Go.RowKit Pl Go.Wk
attribute [local irreducible] WC WL QX WD WDB WP WN WG
variable {b ca n s:Nat}{Y:Nat->List Row->World->Prop}{yv:Value}
structure YZ(s:Nat)(yv:Value)(bx:Nat->Prop)(Y:Nat->List Row->World->Prop): Prop where
 keep:∀ base l w w',Y base l w->GrN (λk=>s<=k/\k<base) w w'->Y base l w'
 call:∃ fid first cap,yv=.func (.func fid) first cap/\∀ base l w w1 vr z,base<=w.heap.size->Y base l w->Ext w w1->RowX w1 (λk=>k<w.heap.size) vr z->l.length<65536->Ret Tryz.prog fid (first.toList++[vr]++cap.toList) w1 λr w'=>r=.bool true/\Y base (l++[z]) w'/\GrN (λk=>bx k∨base<=k) w1 w'
theorem Qgk{bx:Nat->Prop}(hY:YZ s yv bx Y)(hb:s<=b)(hbx:∀ k,bx k->k<s):
  YS (b+1) (.func (.func 67) #[] #[.pointer (some ⟨b,0,none⟩)]) bx (λbase l w=>(Y base l w/\Blk w b 103 [yv])/\b<base):=by
 obtain⟨a5,first,a6,Z,D⟩:=hY.call;subst Z;refine⟨λbase l w w' h J=>⟨⟨hY.keep _ _ _ _ h.1.1 (J.mono λk _ U=>⟨om,U.2⟩),Ja h.1.2 J (λU=>om)⟩,h.2⟩,_,_,_,rfl,λbase l w vr z F h hr hl=>?_⟩;obtain⟨⟨hy,hB⟩,a3⟩:=h;have O:¬ (bx b∨base<=b):=by grind
 refine Jz Tryz.func67 Tryz.ntmps67 rfl kr rfl ?_;refine ρ ?_;refine drN (λk=>bx k∨base<=k) 8 [(0,0),(0,1),(1,2),(1,3),(0,4)] kr ?_;have j:Ext w w.drew:=(Ext.refl w).drew;have a4:=hB.ext j;have a1:=hY.keep _ _ _ _ hy (GrN.ext j);refine ρn ?_;refine nld (Qf (a4.at (i:=0) rfl) O) ?_;refine ρn ?_;refine nop ?_;refine cl (Jcd (hr.ext j) (λk=>k<w.drew.heap.size) (λk U=>U)) ?_;rintro u w1 ⟨hu,y⟩;refine ρ ?_;refine Qg (GrN.ext y) ?_;refine nop ?_;refine clv (D base l w.drew w1 u z F a1 y hu hl) ?_;rintro r w2 ⟨rfl,a2,G⟩;refine ρ ?_;refine Qg G ?_;refine ρn ?_;refine ρ ?_;have J:GrN (λk=>bx k∨base<=k) w w2:=(GrN.ext (j.trans y)).trans G;exact Jq ⟨rfl,⟨⟨a2,Ja hB J O⟩,a3⟩,J⟩
theorem Qgj{w:World}{ts:List TA}{Aa:Option Addr}{vars:Nat->List Nat}{rs:Nat->List Row}{bx':Nat->Prop}(hok:RunOk n ts vars rs)(hR:Rd w 3 Aa ts.length (atC ts))(hle:ts.length<=ca)(hat:∀ p∈ts,AtV w p.1 p.2)(hchk:Jxc n (ts.map (·.2)))(hbx:∀ k,bx' k->k<w.heap.size)(hY:YZ w.heap.size yv bx' Y)(hY0:∀ w',Ext w w'->Y w'.heap.size [] w')(hcap:∀ l:List Row,Lt [] l->(∀ x∈l,Gw n ts.length vars rs x)->l.length<=65536):
  Ret Tryz.prog 36 [.int .i64 (n:Int),yv,.slice Aa ts.length ca] w λu w'=>GrN bx' w w'/\∃ st base l,u=.tuple #[.int .i64 st,.int .i64 0]/\w.heap.size<=base/\base<=w'.heap.size/\Y base l w'/\Lt [] l/\∀ x,x∈l↔Gw n ts.length vars rs x:=by
 have a4:=hok.m32;obtain⟨a2,first,a3,U,_⟩:=hY.call;subst U;refine Jz Tryz.func36 Tryz.ntmps36 rfl kr rfl ?_;refine ρ ?_;refine bx ?_;intro w1 b y hb hB;refine ρ ?_;refine cl (Jmx (n:=(n:Int)) (ats:=ts.map (·.2)) ⟨ts,Aa,ca,rfl,rfl,hle,om,hR.ext y,λp Z=>(hat p Z).ext y⟩) ?_
 rintro u w2 ⟨G,e,rfl,he⟩;have e0:=he.2 hchk;subst e0;have F:=hB.ext G;refine ρ ?_;refine ld (F.at (i:=0) rfl) ?_;refine ρ ?_;refine fnl ?_;have j:=y.trans G;have a5:b+1<=w2.heap.size:=F.lt;refine ρ ?_;refine cl (Qkd (bx':=bx') (Y:=λbase l w=>(Y base l w/\Blk w b 103 [.func (.func a2) first a3])/\b<base) hok (hR.ext j) (λp Z=>(hat p Z).ext j) (λk J=>nM (hbx k J) j.size) ?_ (λw' D=>⟨⟨hY0 w' (j.trans D),F.ext D⟩,by have:=D.size;omega⟩) hcap) ?_
 .have O:=Qgk hY hb hbx;exact⟨λbase l u u' h hg=>O.keep base l u u' h (hg.mono λk _ J=>⟨om,J.2⟩),O.call⟩
 rintro u w3 ⟨a1,st,base,l,rfl,O,⟨⟨h2,_⟩,h3⟩,h4,h5⟩;refine ρ ?_;exact Xq ⟨GrN.cut j a1 λk _ J=>J,st,base,l,rfl,om,O,h2,h4,h5⟩
end Go.Proofs.YtebiphhfkdbpfaaGreat
namespace Go.Wk
open Go.RowKit
variable {e:Act}{parts:Array (Nat×Operand)}{pw:Array (Nat×Value)}{a b:Int}{k1 k2:IntKind}{vs:List Value}{i s t:Nat}{x y:Operand}{yt:TypeId}{v:Value}
section
variable {N:Nat->Prop} {P:Program} {n:Nat} {al:AL} {w:World} {Q:Exit->Act->World->Prop} {ops:Array Oper} {rest:List Oper} {drest:List (Nat×Oper)}
variable {d ty:Nat} {pos:String} {aft:Array Edge}
theorem Jgj{t:TypeId}(hx:ev al x=some (.int k1 a))(hy:ev al y=some (.int k2 b))(h0:0<=b)(he:Fr n al e)(dst:Option Nat)(w:World):
  (execOp e.eval ⟨dst,.binOp .shr t x y yt,ty,pos,aft,none⟩).run P w=.ok (.value (.int k1 (a.fdiv (2^(min b.toNat k1.bits))))) w:=by
 have i:¬ b<0:=om
 simp[execOp,he.ev hx,he.ev hy,eqGuard,binOp,Op.shift,i]
theorem Jgk{t:TypeId}(hx:ev al x=some (.int k1 a))(hy:ev al y=some (.int k2 b))(h0:0<=b)(he:Fr n al e)(dst:Option Nat)(w:World):
  (execOp e.eval ⟨dst,.binOp .shl t x y yt,ty,pos,aft,none⟩).run P w=.ok (.value (.int k1 (k1.wrap (a*2^(min b.toNat k1.bits))))) w:=by
 have i:¬ b<0:=om
 simp[execOp,he.ev hx,he.ev hy,eqGuard,binOp,Op.shift,i]
theorem Jgb(s v:Nat)(hv:v<=32): ((s:Int)).fdiv (2^(min ((v:Nat):Int).toNat 32))=((s / 2^v:Nat):Int):=by grind
theorem Qvj{v:Nat}(hv:v<32): 2^v<4294967296:=nM (Nat.pow_lt_pow_right (by decide:1<2) hv) (by decide)
theorem Qzk{v:Nat}(hv:v<32): IntKind.u32.wrap (1*2^(min ((v:Nat):Int).toNat 32))=((2^v:Nat):Int):=by
 have h:=Qvj hv;rw[Int.toNat_natCast,Nat.min_eq_left om,Int.one_mul];have:((2:Int)^v)=((2^v:Nat):Int):=by simp
 rw[this,IntKind.wrap_u32];grind
theorem sr32{t:TypeId}{v:Nat}(hv:v<=32)(kk:WL P n ops Q rest ((d,.int .u32 ((s / 2^v:Nat):Int))::al) w)(hx:ev al x=some (.int .u32 (s:Int)):=by rfl)(hy:ev al y=some (.int .i64 (v:Int)):=by rfl)(hd:Nat.blt d n=true:=by rfl):
  WL P n ops Q (⟨some d,.binOp .shr t x y yt,ty,pos,aft,none⟩::rest) al w:=by
 rw[<-Jgb s v hv]at kk;exact wop hd (λa i=>Jgj hx hy om i (some d) w) kk
end
section
variable {N:Nat->Prop} {P:Program} {n:Nat} {al:AL} {w:World} {Q:Exit->Act->World->Prop} {ops:Array Oper} {drest:List (Nat×Oper)}
variable {d ty:Nat} {pos:String} {aft:Array Edge}
theorem Jgq(hb:∀ w,(Instr.build t pw).run P w=.ok v w)(hx:evs al (parts.toList.map (·.2))=some vs)(hp:((parts.toList.map (·.1)).zip vs).toArray=pw){a:Act}(ha:Fr n al a)(dst:Option Nat)(w:World):
  (execOp a.eval ⟨dst,.build t parts,ty,pos,aft,none⟩).run P w=.ok (.value v) w:=by
 subst hp;have u:=ha.evs hx;have j:(parts.map fun (i,x)=>(i,a.eval x))=((parts.toList.map (·.1)).zip vs).toArray:=by grind
 simp only[execOp,j,Sem.run_bind,hb w];rfl
theorem nbld(hb:∀ w,(Instr.build t pw).run P w=.ok v w)(kk:WN N P n ops Q drest ((d,v)::al) w)(hx:evs al (parts.toList.map (·.2))=some vs:=by rfl)(hp:((parts.toList.map (·.1)).zip vs).toArray=pw:=by rfl)(hd:Nat.blt d n=true:=by rfl): WN N P n ops Q ((0,⟨some d,.build t parts,ty,pos,aft,none⟩)::drest) al w :=
 ny_ (λw' _ a i=>Jgq hb hx hp i (some d) w') hd kk
theorem dbld(hb:∀ w,(Instr.build t pw).run P w=.ok v w)(kk:WD P n ops Q drest ((d,v)::al) w)(hx:evs al (parts.toList.map (·.2))=some vs:=by rfl)(hp:((parts.toList.map (·.1)).zip vs).toArray=pw:=by rfl)(hd:Nat.blt d n=true:=by rfl): WD P n ops Q ((0,⟨some d,.build t parts,ty,pos,aft,none⟩)::drest) al w :=
 dy (λw' _ a i=>Jgq hb hx hp i (some d) w') hd kk
end
theorem Jxd{v:Nat}(hs:s<4294967296): (bits .and .u32 ((s / 2^v:Nat):Int) 1 == 1)=s.testBit v:=by
 have i:s / 2^v<4294967296:=nN (Nat.div_le_self _ _) hs;have j:=u32_and_nat (s / 2^v) 1 i om;grind
def Jxf(s t:Nat): Nat:=s &&& (4294967295-t)
theorem Jtl(hs:s<4294967296)(ht:t<4294967296): (Jxf s t).testBit i=(s.testBit i && !t.testBit i):=by
 unfold Jxf;have e:4294967295-t=2^32-(t+1):=om
 rw[Nat.testBit_and,e,Nat.testBit_two_pow_sub_succ om];by_cases hi:i<32
 .grind
 have:s.testBit i=false:=Nat.testBit_lt_two_pow (nM hs (Nat.pow_le_pow_right (n:=2) (by decide) (show 32<=i by omega)));rw[this];rfl
theorem Jcn(hs:s<4294967296)(ht:t<4294967296): bits .andNot .u32 (s:Int) (t:Int)=((Jxf s t:Nat):Int):=u32_andNot_nat s t hs ht
theorem Qmv(hs:s<4294967296)(ht:t<4294967296): bits .or .u32 (s:Int) (t:Int)=((s ||| t:Nat):Int):=u32_or_nat s t hs ht
theorem Qym(hs:s<4294967296)(ht:t<4294967296): s ||| t<4294967296:=Nat.or_lt_two_pow (n:=32) hs ht
end Go.Wk
namespace Go.Proofs.YtebiphhfkdbpfaaGreat
open Go.RowKit Pl Go.Wk
attribute [local irreducible] WC WL QX WD WDB WP WN WG
variable {cs vars:List Nat}{b base c d k n s ty z:Nat}{w:World}
def Xw(vars:List Nat)(s:Nat): List Nat:=(List.range vars.length).filter λi=>s.testBit (vars.getD i 0)
def inS(vars:List Nat)(s:Nat): List Nat:=vars.filter λv=>s.testBit v
theorem Jbx(h:c∈Xw vars s): c<vars.length:=List.mem_range.1 (List.mem_filter.1 h).1
def Zp(vars:List Nat)(s k:Nat): List Nat:=(List.range k).filter λi=>s.testBit (vars.getD i 0)
theorem Jjg(vars:List Nat)(s k:Nat): Zp vars s (k+1)=Zp vars s k++if s.testBit (vars.getD k 0) then[k] else[]:=by grind [Zp,List.range_succ]
theorem Ir(h:k<vars.length): inS (vars.take (k+1)) s=inS (vars.take k) s++if s.testBit (vars.getD k 0) then[vars.getD k 0] else[]:=by grind [inS,Xu,List.filter_cons_of_pos,List.filter_cons_of_neg]
theorem Jjf(vars:List Nat)(s:Nat): ∀ k,k<=vars.length->(Zp vars s k).length=(inS (vars.take k) s).length
 | 0,_=>by simp[Zp,inS]
 | k+1,h=>by
  rw[Jjg,Ir om,List.length_append,List.length_append,Jjf vars s k om];split<;>rfl
theorem bs1Int''(z:Int)(w:World): (Instr.buildSlice 28 1 #[(0,.int .i64 z)]).run Tryz.prog w=.ok (.slice (some ⟨w.heap.size,0,none⟩) 1 1) (w.alloc (.cells [.int .i64 z].toArray 3)):=kr
theorem Qbf(a b:List Nat): nz (a++b)=nz a++nz b:=by simp[nz]
theorem Qff(a b:List Int): Jp (a++b)=Jp a++Jp b:=by simp[Jp]
abbrev Qz(w:World)(base:Nat)(v:Value)(cs:List Nat): Prop:=w.ownsRow base 3 1 v cs.length (Jp (nz cs))
theorem apI{al:AL}{Q:Exit->Act->World->Prop}{ops:Array Oper}{rest:List Oper}{pos:String}{aft:Array Edge}{x y:Operand}{v:Value}(ho:Qz w base v cs)(hb:Blk w b 3 [.int .i64 (z:Int)])(hm:cs.length<=1100000)(hbase:base<=w.heap.size)(kk:∀ v' w',Qz w' base v' (cs++[z])->w.grownBy w' v.ownBlock->(∀ g,v'.ownBlock=some g->v.ownBlock=some g∨w.heap.size<=g)->WL Tryz.prog n ops Q rest ((d,v')::al) w')(hx:ev al x=some v:=by rfl)(hy:ev al y=some (.slice (some ⟨b,0,none⟩) 1 1):=by rfl)(hd:Nat.blt d n=true:=by rfl):
  WL Tryz.prog n ops Q (⟨some d,.call { callee:=.builtin .append,args:=#[x,y],argTypes:=#[28,28] },ty,pos,aft,none⟩::rest) al w:=by
 refine apb (base:=base) EI ho (hb.rd (n:=1) rfl) (λu j=>by rw[List.mem_singleton.1 j];rfl) (by unfold maxLen;omega) om hbase ?_ hx hy hd;intro v' w' i D hn;refine kk v' w' ?_ D hn;rw[Qz,List.length_append,Qbf,Qff];exact i
theorem Jcj(w:World): (Instr.build 37 #[]).run Tryz.prog w=.ok (.agg #[.slice none 0 0,.int .i64 0,.slice none 0 0]) w:=kr
theorem Jsz{t:V3}{rs:List Row}(hA:AtV w t ⟨nz vars,vars.length,rs⟩)(hs:s<4294967296)(hasc:Qo vars)(hlt:∀ v∈vars,v<32)(hlen:∀ r∈rs,r.length=vars.length)(hbig:rs.length<=65536):
  Ret Tryz.prog 9 [.agg t.cells.toArray,.int .u32 (s:Int)] w λu w'=>Ext w w'/\∃ t':V3,u=.tuple #[.agg t'.cells.toArray,.int .i64 0]/\∃ m,Off (λk=>k<w.heap.size) w' (λx=>AtV x t' ⟨nz (inS vars s),(inS vars s).length,m⟩)/\m.length<=65536/\(∀ x∈m,x∈rs.map (pmR (Xw vars s))) /\
   ((rs.length<=12∨Srt [] (rs.map (pmR (Xw vars s))))->IsSet [] (rs.map (pmR (Xw vars s))) m):=by
 obtain⟨t1,t2,t3⟩:=t;obtain⟨⟨D,d,e1,hd,d4,c8⟩,e2,bb⟩:=id hA;simp only at e1 e2;subst e1;subst e2;obtain⟨ps,G,gc,_,c1,_⟩:=id bb;simp only at c1;subst c1;have cx:=Ju vars;have dd:=Jjj hasc hlt;refine Jz Tryz.func9 Tryz.ntmps9 rfl kr rfl ?_;refine ρ ?_;refine bx ?_;intro w1 b bw hb hB;refine ρ ?_;refine alc Zo ?_;intro w2 br bu di bj;have bn:=hB.ext bu;have av:=bw.trans bu;have ah:Rd w 1 D (nz vars).length (Jp (nz vars)):=c8;clear c8 hd d4;have mono:∀ i,1<=i->i<vars.length->vars.getD (i-1) 0<vars.getD i 0:=λi h1 h2=>by
  have:=List.pairwise_iff_getElem.1 hasc (i-1) i om h2 om;simpa [List.getD,List.getElem?_eq_getElem h2,List.getElem?_eq_getElem (show i-1<vars.length by omega)] using this
 have aw:∀ i,i<vars.length->vars.getD i 0<32:=λi hi=>hlt _ (getD_mem' 0 _ hi);refine ρ ?_;refine Jh (fun (i:Nat)=>[(1,.int .u32 (s:Int)),(2,.pointer (some ⟨b,0,none⟩)),(4,.pointer (some ⟨br,0,none⟩)),(6,.int .i64 (i:Int))])
  (λi w'=>1<=i/\i<=1000/\Ext w2 w') (λi=>1000-i) 1 sB ⟨nR _,om,Ext.refl _⟩ ?_
 rintro i w3 ⟨d2,dh,ad⟩;have au:=bn.ext ad;refine ρ ?_;refine ld (au.at (i:=0) rfl) ?_;refine ρ ?_;refine ci (λh=>?_) (λh=>?_)
 .have li:i<vars.length:=by have:=oT h;omega
  clear h;have b5:Ext w3 w3.drew:=(Ext.refl w3).drew;have cn:=au.ext b5;have ap:=ah.ext ((av.trans ad).trans b5);refine ρ ?_;refine dr [(0,0),(0,1),(0,2),(0,3),(0,4),(0,5),(0,6),(0,7),(0,8),(0,9),(0,10),(0,11)] kr ?_;refine ρd ?_;refine dld (cn.at (i:=0) rfl) ?_;refine ρd ?_;refine dix (i-1) ap om ?_;refine ρd ?_;refine dld (ap.cell (Qn (show i-1<vars.length by omega))) ?_;refine ρd ?_;refine dld (cn.at (i:=0) rfl) ?_;refine ρd ?_;refine dix i ap om ?_;refine ρd ?_;refine dld (ap.cell (Qn li)) ?_;refine ρd ?_;refine ρ ?_;refine cf ?_ ?_
  .exact dF (by have:=mono i d2 li;omega)
  refine ρ ?_;exact Jg (i+1) sO ⟨om,om,ad.trans b5⟩ om
 clear h;refine ρ ?_;refine ld (au.at (i:=0) rfl) ?_;refine ρ ?_;refine Jh (fun (i:Nat)=>[(1,.int .u32 (s:Int)),(2,.pointer (some ⟨b,0,none⟩)),(4,.pointer (some ⟨br,0,none⟩)),(36,.slice D (nz vars).length d),(37,.int .i64 ((nz vars).length:Int)),(38,.int .i64 (i:Int))])
  (λi w'=>i<=vars.length/\Ext w3 w') (λi=>vars.length-i) 0 sB ⟨Nat.zero_le _,Ext.refl _⟩ ?_
 rintro i w4 ⟨hi,am⟩;have ac:=(av.trans ad).trans am;have da:=au.ext am;refine ρ ?_;refine ci (λh=>?_) (λh=>?_)
 .have li:i<vars.length:=by have:=oT h;omega
  clear h;have ch:=ah.ext ac;refine ρ ?_;refine ix i ch om ?_;refine ρ ?_;refine ld (ch.cell (Qn li)) ?_;refine ρ ?_;refine cf ?_ ?_
  .exact dF (by have:=aw i li;omega)
  refine ρ ?_;exact Jg (i+1) sO ⟨om,am⟩ om
 have d3:i=vars.length:=by have:=oF h;omega
 clear h hi d3;have a7:Ext w4 w4.drew:=(Ext.refl w4).drew;have b2:=da.ext a7;refine ρ ?_;refine dr [(0,0),(0,1),(0,2),(0,3),(0,4),(1,5),(0,6)] kr ?_;refine ρd ?_;refine dld (b2.at (i:=0) rfl) ?_;refine ρd ?_;refine Qj (cs:=[.int .i64 (vars.length:Int),.slice G ps.length gc]) (b2.sub2 (i:=1) rfl rfl) ?_;refine ρd ?_;refine dcl (Jqc ((hA.ext (ac.trans a7)).rel)) ?_;rintro u w5 ⟨rfl,ba⟩;refine⟨ba,?_⟩;refine ρd ?_;refine ρ ?_;refine cf ?_ ?_
 .exact bne_f (by rw[cx])
 have ab:=(ac.trans a7).trans ba;have a5:Ext w2 w5:=((ad.trans am).trans a7).trans ba;refine ρ ?_;refine alc Zo ?_;intro w6 bq b7 dj cm;have bm:=(bn.ext a5).ext b7;have bs:=ab.trans b7;have b1:=(bj.ext a5).ext b7;refine ρ ?_;refine ld (bm.at (i:=0) rfl) ?_;refine ρ ?_;refine Zk (fun (k:Nat) (vv vc:Value)=>[(1,.int .u32 (s:Int)),(2,.pointer (some ⟨b,0,none⟩)),(4,.pointer (some ⟨br,0,none⟩)),(9,.pointer (some ⟨bq,0,none⟩)),(10,vc),(59,.slice D (nz vars).length d),(60,.int .i64 ((nz vars).length:Int)),(61,.int .i64 (k:Int))])
  (λk vv vc w'=>k<=vars.length/\Ext w w'/\Blk w' b 37 [.slice D (nz vars).length d,.int .i64 (vars.length:Int),.slice G ps.length gc]/\Blk w' br 37 [.slice none 0 0,.int .i64 0,.slice none 0 0]/\Blk w' bq 37 [vv,.int .i64 0,.slice none 0 0] /\
   Qz w' w.heap.size vv (inS (vars.take k) s)/\Qz w' w.heap.size vc (Zp vars s k)/\∀ g,vv.ownBlock=some g->vc.ownBlock≠some g) (λk _ _=>vars.length-k) 0 (.slice none 0 0) (.slice none 0 0) sB
  ⟨Nat.zero_le _,bs,bm,b1,cm,Xk _ _ _ _,Xk _ _ _ _,λg e=>(by cases e)⟩ ?_
 clear bm b1 cm;rintro k vv vc w7 ⟨hk,a6,ar,a1,a3,a4,aa,af⟩;refine ρ ?_;refine ci (λh=>?_) (λh=>?_)
 .have lk:k<vars.length:=by have:=oT h;omega
  clear h;have cg:=ah.ext a6;have c9:=Jjf vars s k om;have dg:(inS (vars.take k) s).length<=32:=by
   have:=List.length_filter_le (λv=>s.testBit v) (vars.take k);rw[List.length_take]at this;unfold inS;omega
  refine ρ ?_;refine ix k cg om ?_;refine ρ ?_;refine ld (cg.cell (Qn lk)) ?_;refine ρ ?_;refine sr32 (s:=s) (v:=vars.getD k 0) (by have:=aw k lk;omega) ?_;refine ρ ?_;refine ci (λh=>?_) (λh=>?_)
  .rw[Jxd hs]at h;refine ρ ?_;refine ld (a3.at (i:=0) rfl) ?_;refine ρ ?_;refine bsl (bs1Int'' _) ?_;intro w8 b8 j dk d9;refine ρ ?_;refine apI (Jc a4 j) d9 om (a6.trans j).size ?_;intro O w9 an a9 c4;have U:∀ {w':World} {cs:List Nat} {v:Value},Qz w' w.heap.size v cs->∀ g,v.ownBlock=some g->w.heap.size<=g/\g<w'.heap.size:=λho g y=>by
    obtain⟨_,_,_,_,hf⟩:=Jy ho;exact hf g y
   have ak:Ext w w9:=Js (a6.trans j) a9 (λg y=>(U a4 g y).1);have a2:=(a3.ext j).grown a9 ((a3.ext j).ne_own (Jc a4 j) rfl);have aq:=(ar.ext j).grown a9 ((ar.ext j).ne_own (Jc a4 j) rfl);have az:=(a1.ext j).grown a9 ((a1.ext j).ne_own (Jc a4 j) rfl);have bg:Qz w9 w.heap.size vc (Zp vars s k):=Jo (Jc aa j) (GrN.by a9 λg y=>y) (λg y e=>af g e y);have ay:∀ g,O.ownBlock=some g->vc.ownBlock≠some g:=λg y e=>by
    rcases c4 g y with h'|h'
    .exact af g h' e
    have:=(U aa g e).2;have:=j.size;omega
   have db:O.oneCell'=true:=by obtain⟨_,_,e,_⟩:=Jy an;rw[e];rfl
   refine ρ ?_;refine sto (p:=⟨bq,0,none⟩) (a2.cell 0) (a2.frozen _) ?_ (hv:=db);have bc:w9.grownBy (w9.setCell ⟨bq,0,none⟩ O) (some bq):=Jgg _;have ck:=a2.set 0 O;have bt:Ext w (w9.setCell ⟨bq,0,none⟩ O):=ak.setCell (by simp only;have:=ab.size;omega) _;have c0:Qz (w9.setCell ⟨bq,0,none⟩ O) w.heap.size O (inS (vars.take k) s++[vars.getD k 0]):=Jo an (GrN.by bc λg y=>y) (λg y e=>by injection e with e;subst e;exact a2.ne_own an rfl y.symm);have be:Qz (w9.setCell ⟨bq,0,none⟩ O) w.heap.size vc (Zp vars s k):=Jo bg (GrN.by bc λg y=>y) (λg y e=>by injection e with e;subst e;exact a2.ne_own bg rfl y.symm);have b3:∀ {x:Nat},x<w5.heap.size->x≠bq:=λh e=>by omega
   have d8:Blk (w9.setCell ⟨bq,0,none⟩ O) b 37 _:=aq.far (b3 (by have:=bn.lt;have:=a5.size;omega)) _;have cj:Blk (w9.setCell ⟨bq,0,none⟩ O) br 37 _:=az.far (b3 (by have:=bj.lt;have:=a5.size;omega)) _;generalize w9.setCell ⟨bq,0,none⟩ O=aj at *
   clear a2 aq az bg ak a9 bc an c4;refine ρ ?_;refine bsl (bs1Int'' _) ?_;intro b4 dl J df co;refine ρ ?_;refine apI (Jc be J) co om (bt.trans J).size ?_;intro bp a8 ca Z c5;have ae:Ext w a8:=Js (bt.trans J) Z (λg y=>(U be g y).1);have nb:∀ {g:Nat} {cs:List Value},Blk aj g 37 cs->Blk a8 g 37 cs:=λh=>(h.ext J).grown Z ((h.ext J).ne_own (Jc be J) rfl);refine ρ ?_;refine Qa (k+1) O bp sO ⟨om,ae,nb d8,nb cj,nb ck,?_,?_,λg y e=>?_⟩ om
   .rw[Ir lk,if_pos h];exact Jo (Jc c0 J) (GrN.by Z λg y=>y) (λg y e=>ay g y e)
   .rw[Jjg,if_pos h];exact ca
   rcases c5 g e with h'|h'
   .exact ay g y h'
   have:=(U c0 g y).2;have:=J.size;omega
  rw[Jxd hs]at h;have hf:¬ s.testBit (vars.getD k 0)=true:=by rw[h];simp
  refine ρ ?_;refine Qa (k+1) vv vc sO ⟨om,a6,ar,a1,a3,?_,?_,af⟩ om
  .rw[Ir lk,if_neg hf,List.append_nil];exact a4
  rw[Jjg,if_neg hf,List.append_nil];exact aa
 have d0:k=vars.length:=by have:=oF h;omega
 subst d0;clear h;rw[List.take_length]at a4;have d5:Zp vars s vars.length=Xw vars s:=rfl;rw[d5]at aa;obtain⟨VA,cu,bo,cv,_⟩:=Jy a4;obtain⟨CA,dc,cr,d6,_⟩:=Jy aa;have bf:(Xw vars s).length<=32:=by
  have:=List.length_filter_le (λi=>s.testBit (vars.getD i 0)) (List.range vars.length);rw[List.length_range]at this;unfold Xw;omega
 have d1:(inS vars s).length<=32:=by
  have:=List.length_filter_le (λv=>s.testBit v) vars;unfold inS;omega
 refine ρ ?_;refine lds (cs:=[.int .i64 (vars.length:Int),.slice G ps.length gc]) (ar.sub2 (i:=1) rfl rfl) ?_;refine ρ ?_;have ao:IntsV w7 vc (nz (Xw vars s)):=by
  refine⟨CA,dc,by rw[Ju];exact cr,by rw[Ju];exact d6,by rw[Ju];omega,?_⟩;rw[Ju];have:=aa;rw[cr]at this;exact Rd.own this
 refine cl (Jhc (cs:=Xw vars s) ((hA.ext a6).rel) ao hlen (λc hc=>Jbx hc) bf hbig) ?_;rintro u w8 ⟨j,rv,rfl,⟨z,RB,rm,rd,rfl⟩,m,c3,cz,cy,c2⟩;refine ρ ?_;refine alc Yo ?_;intro w9 b9 ak d7 aq;refine ρ ?_;refine stb (cs':=[.int .i64 z,.slice RB rm rd]) aq ?_ Vy;intro aj cp de bv;have F:Ext w8 aj:=bv w8 ak d7;refine ρ ?_;refine ldW cp ?_;have ai:=(a3.ext j).ext F;refine ρ ?_;refine stB (o:=1) (us:=[.int .i64 z,.slice RB rm rd]) ai (by simp) Vy ?_;intro b4 bl ag;refine ρ ?_;refine ldW bl ?_;have cd:w.heap.size<=bq:=by have:=ab.size;omega
 have b6:Ext w b4:=Jbb ((a6.trans j).trans F) ag cd;have cc:br≠bq:=by have:=bj.lt;have:=a5.size;omega
 have bi:Blk b4 br 37 _:=((a1.ext j).ext F).grown ag (λe=>by injection e with e;exact cc e);refine ρ ?_;refine stb (cs':=[vv,.int .i64 z,.slice RB rm rd]) bi ?_ (λu hu=>by
  simp only[List.mem_cons,List.not_mem_nil,or_false]at hu;rcases hu with rfl|rfl|rfl
  .rw[bo];rfl
  .rfl
  rfl)
 intro a8 bh Z _;refine ρ ?_;have cb:w.heap.size<=br:=by have:=bw.size;omega
 have ae:Ext w a8:=Jbb b6 Z cb;refine Zz bh ⟨ae,(vv,.int .i64 z,.slice RB rm rd),rfl,m,?_,cz,cy,c2⟩;have c6:GrN (λk=>k=bq∨k=br) aj a8:=(GrN.by ag λk e=>.inl (by injection e with e;exact e.symm)).trans (GrN.by Z λk e=>.inr (by injection e with e;exact e.symm));have ce:bq<w7.heap.size/\br<w7.heap.size:=⟨a3.lt,a1.lt⟩;intro w' c7;have bd:GrN (λk=>k<w7.heap.size) w8 w':=((GrN.ext F).trans (c6.mono λk _ hk=>by rcases hk with rfl|rfl;(exact ce.1);exact ce.2)).trans (c7.mono λk _ hk=>nM hk a6.size);obtain⟨rv,cq,cw⟩:=c3 w' bd;have ax:(Value.int .i64 z)=.int .i64 ((Xw vars s).length:Int)/\Value.slice RB rm rd=rv:=by
  simp only[Value.agg.injEq,Array.mk.injEq,List.cons.injEq,and_true]at cq;exact cq
 have bz:Qz w' w.heap.size vv (inS vars s):=by
  have h1:=Jc (Jc a4 j) F;have h2:Qz a8 w.heap.size vv (inS vars s):=Jo h1 c6 λg y hk=>by
   rcases hk with rfl|rfl
   .exact ai.ne_own h1 rfl y.symm
   exact((a1.ext j).ext F).ne_own h1 rfl y.symm
  refine Jo h2 c7 λg y hk=>?_;obtain⟨_,_,_,_,hf⟩:=Jy h2;have:=(hf g y).1;omega
 have c9:(Xw vars s).length=(inS vars s).length:=by
  have:=Jjf vars s vars.length (nR _);rw[List.take_length]at this;exact this
 refine⟨⟨VA,cu,by rw[Ju];exact bo,by rw[Ju];exact cv,by rw[Ju];omega,?_⟩,?_,?_⟩
 .rw[Ju];rw[bo]at bz;exact Rd.own bz
 .simp only;rw[<-c9];exact ax.1
 simp only;rw[ax.2];exact cw
open Go.RowKit Pl Go.Wk
variable {nums vars:List Nat}{ls rs:List Row}{ar b s:Nat}{w:World}
def RowG(w:World)(cs:List Value)(z:Row): Prop:=∃ v,cs=[v]/\RowV w v z
theorem RowG.ext{w w':World}{cs:List Value}{z:Row}(h:RowG w cs z)(hx:Ext w w'): RowG w' cs z:=by
 obtain⟨v,e,i⟩:=h;exact⟨v,e,i.ext hx⟩
theorem Jgt: ∀(ps:List (List Value×Row)) (w:World),(∀ p∈ps,RowG w p.1 p.2)->∃ qs:List Pr,qs.map (·.2)=ps.map (·.2)/\qs.map (·.1)=Jd ps/\qs.length=ps.length/\∀ q∈qs,RowV w q.1 q.2
 | [],w,_=>⟨[],rfl,rfl,rfl,λq hq=>by cases hq⟩
 | p::ps,w,h=>by
  obtain⟨qs,h1,h2,h3,h4⟩:=Jgt ps w λq hq=>h q (List.mem_cons_of_mem _ hq);obtain⟨v,e,hr⟩:=h p (mC ..);refine⟨(v,p.2)::qs,by simp[h1],?_,by simp[h3],λq hq=>?_⟩;repeat grind [Jd,List.mem_cons.1]
theorem Qkf{v:Value}(h:GV 1 RowG w v ls): RowsV w v ls:=by
 obtain⟨ps,A,c,e,y,u,j,i,F⟩:=h;obtain⟨D,Z,U,O,J⟩:=Jgt ps w λp G=>(F p G).2;rw[<-O]at y u j i;exact⟨D,A,c,by rw[e,Z],y,u,j,by rw[U];exact i,J⟩
def YM(b:Nat)(base:Nat)(l:List Row)(w:World): Prop:=b<base/\∃ v,Blk w b 33 [v]/\OwnG 73 1 RowG w base v l
theorem Qcj(hb:b<s): YZ s (.func (.func 37) #[] #[.pointer (some ⟨b,0,none⟩)]) (λk=>k=b) (YM b):=by
 refine⟨λbase l w w' h hg=>?_,_,_,_,rfl,λbase l w w1 vr z D h hx hr hl=>?_⟩
 .obtain⟨y,v,hB,hO⟩:=h;exact⟨y,v,Ja hB hg (λe=>om),hO.gr hg λk Z=>Z.2⟩
 obtain⟨y,v,hB,hO⟩:=h;have J:=hB.ext hx;have F:=hO.ext hx;obtain⟨RA,rn,rc,a6,_,_,_⟩:∃ A n c,vr=.slice A n c/\True/\True/\True:=by obtain⟨A,c,e,_⟩:=hr;exact⟨A,_,c,e,trivial,trivial,trivial⟩
 refine Jz Tryz.func37 Tryz.ntmps37 rfl kr rfl ?_;refine ρ ?_;refine ld (J.at (i:=0) rfl) ?_;refine ρ ?_;refine bsl (cs:=[vr]) (λw=>Jsg vr w RA rn rc a6) ?_;intro w2 b2 j af ab;obtain⟨_,_,_,_,hf⟩:=F.form;have hΦ:Off (Vr base v) w2 (λu=>RowG u [vr] z):=((hr.off.mono λk Z h=>by
  rcases h with h|h
  .omega
  obtain⟨_,_,_,_,a9⟩:=hO.form;exact(a9 k h).2).imp λu h=>⟨vr,rfl,h⟩).ext j
 refine ρ ?_;refine apG ER (Φ:=RowG) (F.ext j) ab rfl (λu hu=>by rw[List.mem_singleton.1 hu,a6];rfl) hΦ om om (nL D (hx.trans j).size) ?_;intro U O a4 a3 ac;obtain⟨A3,c3,e3,ae,ad⟩:=a4.form;have a1:GrN (λk=>k=b∨base<=k) w1 O:=(GrN.ext j).trans (GrN.by a3 λk ek=>.inr (hf k ek).1);have a7:some b≠v.ownBlock:=by
  obtain⟨ps,_,ho,_⟩:=F;exact J.ne_own ho rfl
 have G:Blk O b 33 [v]:=(J.ext j).grown a3 a7;refine ρ ?_;refine sto (p:=⟨b,0,none⟩) (G.cell 0) (G.frozen _) ?_ (hv:=by rw[e3];rfl);have a5:=G.set 0 U;have a2:GrN (λk=>k=b) O (O.setCell ⟨b,0,none⟩ U):=GrN.set _ rfl;refine ρ ?_;have a8:(l++[z]).length=l.length+1:=by simp
 rw[a8]at e3;refine ld (v:=.slice A3 (l.length+1) c3) ((a5.at (i:=0) rfl).trans (by simp[e3])) ?_;refine ρ ?_;have aa:OwnG 73 1 RowG (O.setCell ⟨b,0,none⟩ U) base U (l++[z]):=a4.gr a2 λk Z=>by omega
 refine Jq ⟨?_,⟨y,U,a5,aa⟩,a1.trans (a2.mono λk _ Z=>.inl Z)⟩;rw[decide_eq_true (show((l.length+1:Nat):Int)<=65536 by omega)]
theorem Qmq(z:Int)(A:Option Addr)(n c:Nat)(w:World): (Instr.build 37 #[(1,.agg #[.int .i64 z,.slice A n c])]).run Tryz.prog w=.ok (.agg #[.slice none 0 0,.int .i64 z,.slice A n c]) w:=kr
theorem Qck{Na:Option Addr}{t:V3}(hA:AtV w t ⟨nz vars,ar,rs⟩)(hB:Blk w b 28 [.slice Na nums.length nums.length])(hN:Rd w 1 Na nums.length (Jp (nz nums)))(hlt:∀ v∈vars,v<nums.length)(hl:vars.length<=1000):
  Ret Tryz.prog 35 [.agg t.cells.toArray,.pointer (some ⟨b,0,none⟩)] w λu w'=>Ext w w'/\∃ v1,u=.agg #[v1,t.2.1,t.2.2]/\Off (λk=>k<w.heap.size) w' (λx=>IntsV x v1 (nz (vars.map λv=>nums.getD v 0))):=by
 obtain⟨t1,t2,t3⟩:=t;obtain⟨⟨D,d,e1,hd,be,an⟩,e2,ae⟩:=id hA;simp only at e1 e2;subst e1;subst e2;obtain⟨ps,G,gc,_,ai,_⟩:=id ae;simp only at ai;subst ai;have bn:=Ju vars;have am:Rd w 1 D (nz vars).length (Jp (nz vars)):=an;clear an hd be;refine Jz Tryz.func35 Tryz.ntmps35 rfl kr rfl ?_;refine ρ ?_;refine bx ?_;intro w1 b1 ab bt az;refine ρ ?_;refine alc Zo ?_;intro w2 b2 a5 bs ax;refine ρ ?_;refine lds (cs:=[.int .i64 (ar:Int),.slice G ps.length gc]) ((az.ext a5).sub2 (i:=1) rfl rfl) ?_;refine ρ ?_;refine bld (Qmq _ _ _ _ _) ?_;refine ρ ?_;refine alc Zo ?_;intro w3 b3 b8 bg bl;refine ρ ?_;refine stb (cs':=[.slice none 0 0,.int .i64 (ar:Int),.slice G ps.length gc]) bl ?_ (λu hu=>by
  simp only[List.mem_cons,List.not_mem_nil,or_false]at hu;rcases hu with rfl|rfl|rfl<;>rfl)
 intro w4 bj bq b7;have a3:Ext w2 w4:=b7 w2 b8 bg;have af:Ext w w4:=(ab.trans a5).trans a3;have ay:=(az.ext a5).ext a3;have aw:=ax.ext a3;refine ρ ?_;refine ld (ay.at (i:=0) rfl) ?_;refine ρ ?_;refine Qd (fun (k:Nat) (vv:Value)=>[(1,.pointer (some ⟨b,0,none⟩)),(3,.pointer (some ⟨b2,0,none⟩)),(4,.pointer (some ⟨b3,0,none⟩)),(11,.slice D (nz vars).length d),(12,.int .i64 ((nz vars).length:Int)),(13,.int .i64 (k:Int))])
  (λk vv w'=>k<=vars.length/\Ext w w'/\Blk w' b2 37 [.slice none 0 0,.int .i64 0,.slice none 0 0]/\Blk w' b3 37 [vv,.int .i64 (ar:Int),.slice G ps.length gc]/\Qz w' w.heap.size vv ((vars.take k).map λv=>nums.getD v 0)) (λk _=>vars.length-k) 0 (.slice none 0 0) sB
  ⟨Nat.zero_le _,af,aw,bj,Xk _ _ _ _⟩ ?_
 rintro k vv w5 ⟨hk,a1,Z,aa,a2⟩;refine ρ ?_;refine ci (λh=>?_) (λh=>?_)
 .have lk:k<vars.length:=by have:=oT h;omega
  clear h;have aq:=am.ext a1;have ag:=hlt _ (getD_mem' 0 _ lk);obtain⟨own,J⟩:∃ own,own=vv.ownBlock:=⟨_,rfl⟩;have ak:∀ j,own=some j->w.heap.size<=j:=λj ej=>by
   obtain⟨_,_,_,_,hf⟩:=Jy a2;exact(hf j (by rw[<-J];exact ej)).1
  have bp:((vars.take k).map λv=>nums.getD v 0).length<=1000:=by simp;omega
  refine ρ ?_;refine ix k aq om ?_;refine ρ ?_;refine ld (aq.cell (Qn lk)) ?_;refine ρ ?_;refine drN (one own) 8 [(0,0),(0,1),(0,2),(0,3),(0,4),(0,5),(1,6),(1,7),(0,8),(2,9)] kr ?_;have F:Ext w5 w5.drew:=(Ext.refl w5).drew;have O:=aa.ext F;have bh:=hB.ext (a1.trans F);have ap:=hN.ext (a1.trans F);have a6:=Jc a2 F;have n3:¬ one own b3:=λe=>O.ne_own a6 rfl (by rw[<-J];exact e.symm);have a9:∀ {g:Nat},g<w.heap.size->¬ one own g:=λhg e=>by have:=ak _ e;omega
  refine ρn ?_;refine nld (Qf (O.at (i:=0) rfl) n3) ?_;refine ρn ?_;refine nld (Qf (bh.at (i:=0) rfl) (a9 hB.lt)) ?_;refine ρn ?_;refine nix (vars.getD k 0) ap ag ?_;refine ρn ?_;refine nld (λw' hg=>(Zg ap hg (λh0 ad e=>a9 (by
   obtain⟨bu,e',aj,_⟩:=hN.2 h0;rw[e]at e';injection e' with e';subst e';exact aj))).cell (Qn ag)) ?_
  refine ρn ?_;refine nop ?_;refine bsl (bs1Int'' _) ?_;intro w6 b6 y br bi;refine ρ ?_;refine Qg (GrN.ext y) ?_;refine nop ?_;refine apI (Jc a6 y) bi om (((a1.trans F).trans y).size) ?_;intro a4 w7 ac a7 bo;refine ρ ?_;refine Qg (GrN.by a7 λj ej=>by rw[<-J]at ej;exact ej) ?_;refine ρn ?_;refine Xm ?_;have U:=(O.ext y).grown a7 ((O.ext y).ne_own (Jc a6 y) rfl);have au:=((Z.ext F).ext y).grown a7 (((Z.ext F).ext y).ne_own (Jc a6 y) rfl);have b5:Ext w w7:=Js ((a1.trans F).trans y) a7 (λj ej=>ak j (by rw[J];exact ej));have bm:a4.oneCell'=true:=by obtain⟨_,_,e,_⟩:=Jy ac;rw[e];rfl
  refine sto (p:=⟨b3,0,none⟩) (U.cell 0) (U.frozen _) ?_ (hv:=bm);have bc:GrN (λk=>k=b3) w7 (w7.setCell ⟨b3,0,none⟩ a4):=GrN.set _ rfl;have bf:w.heap.size<=b3:=by have:=(ab.trans a5).size;omega
  refine ω5 ?_;refine Uf ?_;refine ρn ?_;refine ρ ?_;refine Qy (k+1) a4 sO ⟨om,b5.setCell bf _,au.far (by simp only;have:=ax.lt;omega) _,U.set 0 a4,?_⟩ om;rw[Xu 0 lk,List.map_append];exact Jo ac bc (λg eg e=>by subst e;exact U.ne_own ac rfl eg.symm)
 have bb:k=vars.length:=by have:=oF h;omega
 subst bb;clear h;rw[List.take_length]at a2;obtain⟨VA,b4,a8,ah,b9⟩:=Jy a2;rw[List.length_map]at a8 ah;refine ρ ?_;refine ldW aa ?_;refine ρ ?_;refine stb (cs':=[vv,.int .i64 (ar:Int),.slice G ps.length gc]) Z ?_ (λu hu=>by
  simp only[List.mem_cons,List.not_mem_nil,or_false]at hu;rcases hu with rfl|rfl|rfl
  .rw[a8];rfl
  .rfl
  rfl)
 intro w6 av bd y;refine ρ ?_;have ao:w.heap.size<=b2:=by have:=ab.size;omega
 refine Zb av ⟨y w a1 ao,vv,rfl,?_⟩;have ba:Qz w6 w.heap.size vv (vars.map λv=>nums.getD v 0):=Jo a2 (GrN.by bd λg eg=>eg) (λg eg e=>by injection e with e;subst e;exact Z.ne_own a2 rfl eg.symm);refine(Jqh ba (λg eg hk=>by have:=(b9 g eg).1;omega)).imp λx h=>⟨VA,b4,by rw[Ju,List.length_map];exact a8,by rw[Ju,List.length_map];exact ah,by rw[Ju,List.length_map];omega,?_⟩;rw[a8]at h;rw[Ju,List.length_map];simp only[List.length_map]at h;exact Rd.own h
end Go.Proofs.YtebiphhfkdbpfaaGreat
namespace Go.Proofs.YtebiphhfkdbpfaaGreat
open Pl Go.Wk
variable {vars vs:List Nat}{k m n s u v:Nat}
def bk(s v:Nat): List Nat:=(List.range v).filter λu=>s.testBit u
theorem bk_mem: u∈bk s v↔u<v/\s.testBit u=true:=by simp[bk]
theorem Jck(s v:Nat): bk s (v+1)=bk s v++if s.testBit v then[v] else[]:=by grind [bk,List.range_succ]
theorem Kw(s v:Nat): Qo (bk s v):=List.Pairwise.sublist List.filter_sublist List.pairwise_lt_range
theorem Jcl(s v:Nat): (bk s v).length<=v:=by
 have:=List.length_filter_le (λu=>s.testBit u) (List.range v);rw[List.length_range]at this;exact this
theorem Jmk(s n:Nat): ∀ u,u<=n->lv (bk s n) u=(bk s u).length
 | 0,_=>by rw[Jqq];rfl
 | u+1,h=>by
  have ih:=Jmk s n u om;rw[Jck,List.length_append,<-ih];by_cases hb:s.testBit u=true
  .rw[if_pos hb,(Vc (Kw s n) (bk_mem.2 ⟨om,hb⟩)).1];rfl
  rw[if_neg hb,Ga (λh'=>hb (bk_mem.1 h').2)];rfl
theorem Jyn(ha:Qo vs)(hk:k<vs.length): lv vs (vs.getD k 0)=k:=by
 obtain⟨_,i,j⟩:=Vc ha (getD_mem' 0 vs hk);exact Jlq (Jtj ha) i hk ((Ql 0 vs i).symm.trans (j.trans (Ql 0 vs hk)))
theorem Jcm(hs:s<2^n)(h:s.testBit u=true): u<n:=by grind [Nat.lt_or_ge,Nat.testBit_lt_two_pow,Nat.lt_of_lt_of_le,Nat.pow_le_pow_right]
def Zv(s v:Nat): List Nat:=(List.range 32).map λu=>if u<v/\s.testBit u=true then(bk s u).length else 0
theorem Ic(s v:Nat): (Zv s v).length=32:=by simp[Zv]
theorem Qbg(hu:u<32)(h:s.testBit u=true): (Zv s 32).getD u 0=lv (bk s 32) u:=by grind [Jmk,Zv,List.getD]
theorem Jln(hv:v<32): Zv s (v+1)=if s.testBit v then(Zv s v).set v (bk s v).length else Zv s v:=by
 apply List.ext_getElem?
 grind [Ic,Zv,List.getElem?_range,Nat.lt_or_ge]
def rnm(vars:List Nat)(s:Nat): List Nat:=(inS vars s).map λv=>lv (bk s 32) v
theorem inS_mem: v∈inS vars s↔v∈vars/\s.testBit v=true:=by simp[inS]
theorem Qfj(h:Qo vars): Qo (inS vars s):=List.Pairwise.sublist List.filter_sublist h
theorem Qcq(ha:Qo vs)(hu:u∈vs)(h:u<v): lv vs u<lv vs v:=by
 have i:=(Vc ha hu).1;have mono:∀ k,lv vs (u+1)<=lv vs (u+1+k):=by
  intro k;induction k with
  | zero=>exact nR _
  | succ k ih=>
   by_cases h:u+1+k∈vs
   repeat grind [Vc,Nat.add_assoc,Ga]
 have:=mono (v-(u+1));grind
theorem Qks(h:Qo vars)(hl:∀ v∈vars,v<32): Qo (rnm vars s):=by
 unfold rnm Qo;rw[List.pairwise_map];refine List.Pairwise.imp_of_mem (fun {u v} hu hv huv=>?_) (Qfj (s:=s) h);exact Qcq (Kw s 32) (bk_mem.2 ⟨hl u (inS_mem.1 hu).1,(inS_mem.1 hu).2⟩) huv
theorem Qkr(hl:∀ v∈vars,v<32)(hk:k∈rnm vars s): k<(bk s 32).length:=by
 obtain⟨v,i,rfl⟩:=List.mem_map.1 hk;obtain⟨u,j⟩:=inS_mem.1 i;exact(Vc (Kw s 32) (bk_mem.2 ⟨hl v u,j⟩)).2.1
theorem Jgz(vars:List Nat)(s:Nat): (rnm vars s).length=(inS vars s).length:=by simp[rnm]
def Jjl(m:Nat)(vars:Nat->List Nat)(rs:Nat->List Row)(s:Nat)(z:Row): Prop:=∀ i,i<m->∃ r∈rs i,∀ j,j<(vars i).length->s.testBit ((vars i).getD j 0)=true->r.getD j V0=z.getD ((vars i).getD j 0) V0
theorem Jrf{vars:List Nat}{s:Nat}{r z:Row}(hr:r.length=vars.length): ∀ k,k<=vars.length->(pmR (Zp vars s k) r=pmR (inS (vars.take k) s) z↔∀ j,j<k->s.testBit (vars.getD j 0)=true->r.getD j V0=z.getD (vars.getD j 0) V0)
 | 0,_=>by simp[Zp,inS,pmR]
 | k+1,h=>by
  have ih:=Jrf (s:=s) (z:=z) hr k om;grind [Jjf,Jjg,Ir,pmR,Zp,V0,inS,List.append_inj,Zj]
theorem Qch{vars:Nat->List Nat}{rs ms:Nat->List Row}(hs:s<2^n)(hn:n<=32)(hlt:∀ i,i<m->∀ v∈vars i,v<n)(hlen:∀ i,i<m->∀ r∈rs i,r.length=(vars i).length)(hms:∀ i,i<m->∀ x,x∈ms i↔x∈(rs i).map (pmR (Xw (vars i) s)))(x:Row):
  Gw (bk s 32).length m (λi=>rnm (vars i) s) ms x↔∃ z:Row,z.length=n/\x=pmR (bk s 32) z/\Jjl m vars rs s z:=by
 have key:∀ z:Row,∀ i,i<m->(pmR (rnm (vars i) s) (pmR (bk s 32) z)∈ms i↔∃ r∈rs i,∀ j,j<(vars i).length->s.testBit ((vars i).getD j 0)=true->r.getD j V0=z.getD ((vars i).getD j 0) V0):=λz i hi=>by
  have e:pmR (rnm (vars i) s) (pmR (bk s 32) z)=pmR (inS (vars i) s) z:=by
   unfold rnm pmR;rw[List.map_map];refine List.map_congr_left λv J=>?_;obtain⟨h1,D⟩:=inS_mem.1 J;have G:v∈bk s 32:=bk_mem.2 ⟨by grind,D⟩;obtain⟨_,h4,h5⟩:=Vc (Kw s 32) G;grind
  rw[e,hms i hi,List.mem_map];have hk:∀ r∈rs i,(pmR (Xw (vars i) s) r=pmR (inS (vars i) s) z↔∀ j,j<(vars i).length->s.testBit ((vars i).getD j 0)=true->r.getD j V0=z.getD ((vars i).getD j 0) V0):=λr Z=>by
   have:=Jrf (s:=s) (z:=z) (hlen i hi r Z) (vars i).length (nR _);rw[List.take_length]at this;exact this
  grind
 constructor
 .rintro⟨hl,hx⟩;let z:Row:=(List.range n).map λu=>x.getD (lv (bk s 32) u) V0
  have y:z.length=n:=by simp[z]
  have F:x=pmR (bk s 32) z:=by
   apply List.ext_getElem
   .rw[Zj];exact hl
   intro k h1 D;rw[Zj]at D;have U:=bk_mem.1 (getD_mem' 0 _ D);have O:=Jcm hs U.2;have h3:=Jhw (z:=z) D;grind [Ql,V0,Zj,bk,lv,List.getD,List.getElem?_range,Jyn,Kw]
  refine⟨z,y,F,λi hi=>?_⟩;grind
 rintro⟨z,y,rfl,G⟩;exact⟨Zj _ _,λi hi=>(key z i hi).2 (G i hi)⟩
end Go.Proofs.YtebiphhfkdbpfaaGreat
