/- Part 3. -/
import Derived.Test.YtebiphhfkdbpfaaGreatC02
import Derived.Maps.RangeWalk
import Derived.Laws.BitsAllLaws
set_option linter.unusedVariables false
set_option maxRecDepth 100000
set_option maxHeartbeats 40000000
namespace Go.Proofs.YtebiphhfkdbpfaaGreat
open Go.RowKit Pl Go.Wk
attribute [local irreducible] WC WL QX WD WDB WP WN
variable {J b c i j k n r s:Nat}{w w' w'':World}
theorem _root_.Go.Wk.GrN.newBy{N:Nat->Prop}(h:GrN N w w')(hg:w'.grownBy w'' (some b))(hb:w.heap.size<=b): GrN N w w'' :=
 ⟨hg.os.trans h.os,hg.tape.trans h.tape,hg.output.trans h.output,Nat.le_trans h.size hg.size,λk i hn=>(hg.block k (nM i h.size) (λe=>by grind)).trans (h.block k i hn)⟩
theorem Jnj{α:Type}{l:List α}(h:l.Nodup)(hi:i<l.length)(hj:j<l.length)(e:l[i]=l[j]): i=j:=by grind [List.pairwise_iff_getElem.1,Nat.lt_trichotomy]
theorem Qfq(h1:1<=s)(h2:s<n)(h3:s<=k): (k-s) % n≠k % n:=by
 intro e;have u:(k-s+s) % n=(k-s) % n:=by grind
 have j:((k-s) % n+s) % n=(k-s) % n:=by grind [Nat.mod_add_mod]
 generalize hx:(k-s) % n=x at *
 have i:x<n:=by rw[<-hx];exact Nat.mod_lt _ om
 rcases Nat.lt_or_ge (x+s) n with h6|h6
 .grind [Nat.mod_eq_of_lt]
 rw[Nat.mod_eq_sub_mod h6,Nat.mod_eq_of_lt om]at j;omega
theorem Qfr(hr:r<n)(hk:n<=k): ∃ s,1<=s/\s<=n/\(k-s) % n=r:=by
 have y:k % n<n:=Nat.mod_lt _ om;have j:=Nat.div_add_mod k n;by_cases h:r<k % n
 .refine⟨k % n-r,om,om,?_⟩;have:k-(k % n-r)=n*(k / n)+r:=om
  rw[this,Nat.mul_add_mod,Nat.mod_eq_of_lt hr]
 refine⟨k % n+n-r,om,om,?_⟩;have u:1<=k / n:=by grind
 obtain⟨q,i⟩:∃ q,k / n=q+1:=⟨k / n-1,om⟩;rw[i,Nat.mul_succ]at j;have:k-(k % n+n-r)=n*q+r:=om
 rw[this,Nat.mul_add_mod,Nat.mod_eq_of_lt hr]
theorem Jnr{F:Fix}{V':Lev}{I:List Nat}{p:Nat->Nat}{jr ja yv:Value}{B:Option Addr}(hO:OnS F V' I)(hne:0<I.length)(hnd:I.Nodup)(hIts:Its F V' I w p)(hJ:JB w J jr ja yv)(hJG:∀ i∈I,F.G i≠J)(hT:∀ i∈I,Off (NG F I J) w (λu=>TriA u (F.A i) (F.d i) (F.rs i)))(hB:Off (NG F I J) w (λu=>Rd u 1 B I.length (Ih F I)))(hp:∀ i∈I,V'.lo i<=p i/\p i<V'.e i)(hK:∀ i∈I,∀ a,V'.lo i<=a->a<p i->cmpV (F.val V' i a) (F.val V' (I.getD 0 0) (p (I.getD 0 0)))<0):
  Ret Tryz.prog 141 [.pointer (some ⟨J,0,none⟩),.slice B I.length c] w λu w'=>GrN (NG F I J) w w'/\JB w' J jr ja yv/\∃ p' t,u=.bool t/\Its F V' I w' p'/\(∀ i∈I,V'.lo i<=p' i/\p' i<=V'.e i) /\
   (t=true->∃ x,(∀ i∈I,p' i<V'.e i/\F.val V' i (p' i)=x)/\cmpV (F.val V' (I.getD 0 0) (p (I.getD 0 0))) x<=0/\∀ y,Cmn F V' I y->cmpV (F.val V' (I.getD 0 0) (p (I.getD 0 0))) y<=0->cmpV x y<=0) /\
   (t=false->∀ y,Cmn F V' I y->¬ cmpV (F.val V' (I.getD 0 0) (p (I.getD 0 0))) y<=0):=by
 have ad:I.getD 0 0∈I:=getD_mem' 0 I hne;obtain⟨K0,b8⟩:∃ K0,K0=F.val V' (I.getD 0 0) (p (I.getD 0 0)):=⟨_,rfl⟩;rw[<-b8]at hK ⊢;have cp:=hO.len;have av:∀ i∈I,F.G i<w.heap.size:=λi hi=>by obtain⟨st,O⟩:=hIts i hi;exact O.lt
 have br:J<w.heap.size:=by obtain⟨st,O⟩:=hJ;exact O.lt
 refine Jz Tryz.func141 Tryz.ntmps141 rfl kr rfl ?_;refine ρ ?_;refine ix 0 hB.here hne ?_;refine ρ ?_;refine ld (hB.here.cell (Ig hne)) ?_;refine ρ ?_;obtain⟨cv,bv⟩:=hIts _ ad;have an:=hO.lev _ ad;have b4:=hp _ ad;have c7:=hO.rng _ ad;refine cl (Jcd bv (hT _ ad).here an.2.1 an.2.2 (λ_=>c7.1)) ?_;rintro u w1 ⟨bh,v,rfl,hv⟩;have c6:=hv ⟨an.1,b4.2⟩;have c5:v=K0:=by rw[c6,b8];rfl
 subst c5;rw[decide_eq_true (show 0<V'.L (I.getD 0 0)/\p (I.getD 0 0)<V'.e (I.getD 0 0) from⟨an.1,b4.2⟩)];refine ρ ?_;refine alc (cs:=V0.cells) Jjv ?_;intro w2 bk bg b5 bz;refine ρ ?_;refine stb (cs':=v.cells) bz ?_ (V.one _);intro w3 ax ch bf;have ap:Ext w1 w3:=bf w1 bg b5;have a7:=bh.trans ap;have bn:w.heap.size<=bk:=nL bh.size b5;refine ρ ?_;refine Ku (fun (same k:Nat) (key:V) (p:Nat->Nat)=>[(0,.pointer (some ⟨J,0,none⟩)),(1,.slice B I.length c),(5,.pointer (some ⟨bk,0,none⟩)),(7,.int .i64 (same:Int)),(8,.int .i64 (k:Int))])
  (λsame k key p w'=>GrN (NG F I J) w w'/\JB w' J jr ja yv/\Its F V' I w' p/\Blk w' bk 75 key.cells/\(∀ i∈I,V'.lo i<=p i/\p i<V'.e i)/\(∀ i∈I,∀ a,V'.lo i<=a->a<p i->cmpV (F.val V' i a) key<0)/\cmpV v key<=0/\(∀ y,Cmn F V' I y->cmpV v y<=0->cmpV key y<=0) /\
   1<=same/\same<=I.length/\same<=k/\k+(gtN (Km F V' I) key*33+(I.length-same))<=2000000000/\(∀ s,1<=s->s<=same->F.val V' (I.getD ((k-s) % I.length) 0) (p (I.getD ((k-s) % I.length) 0))=key)) (λsame k key p=>gtN (Km F V' I) key*33+(I.length-same)) 1 1 v p sB
  ⟨GrN.ext a7,?_,λi hi=>?_,ax,hp,hK,by rw[Zg];omega,λy _ h'=>h',Nat.le_refl _,hne,Nat.le_refl _,?_,λs O h2=>?_⟩ ?_
 .obtain⟨st,hJ⟩:=hJ;exact⟨st,hJ.ext a7⟩
 .obtain⟨st,hI⟩:=hIts i hi;exact⟨st,hI.ext a7⟩
 .have O:=Qll (Km F V' I) v;have h2:=Qqh (F:=F) (V':=V') (I:=I) (λi hi=>(hO.rng i hi).2);omega
 .have:s=1:=om
  subst this;rw[Nat.sub_self,Nat.zero_mod];exact b8.symm
 clear ax ch bf bz ap a7 bg b5 hJ hIts hp hK bv b4;rintro same k key p w4 ⟨ao,⟨sj,bt⟩,a5,aw,a3,b6,b2,a9,cy,cx,cw,d5,bi⟩;refine ρ ?_;refine ci (λO=>?_) (λO=>?_)
 .have d1:same<I.length:=by have:=oT O;omega
  clear O;have c3:=hB w4 ao;refine ρ ?_;refine rem (show((I.length:Nat):Int)≠0 by omega) ?_;rw[Qkh];have lr:k % I.length<I.length:=Nat.mod_lt _ hne;refine ρ ?_;refine ix (k % I.length) c3 lr ?_;refine ρ ?_;refine ld (c3.cell (Ig lr)) ?_;refine ρ ?_;obtain⟨i,hi⟩:∃ i,i=I.getD (k % I.length) 0:=⟨_,rfl⟩;rw[<-hi];have D:i∈I:=by rw[hi];exact getD_mem' 0 I lr
  refine lds (cs:=key.cells) (λj u hu=>aw.at hu) ?_;refine ρ ?_;obtain⟨cu,ck⟩:=a5 i D;have a4:=hO.lev i D;have b3:=hO.rng i D;have cb:=a3 i D;have bq:Off (λk=>k=F.G i) w4 (λu=>TriA u (F.A i) (F.d i) (F.rs i)):=((hT i D).gr ao).mono λj _ ej=>.inr ⟨i,D,ej⟩;refine cl (Qhs (v:=key) ck bq a4.1 a4.2.1 a4.2.2 cb.2 b3.1 b3.2 (λa b O h2 h3=>hO.srt i D a b om h2 h3)) ?_;rintro u w5 ⟨ah,q,c4,rfl,d0,cz,ca,c9,bu⟩;have cm:∀ j∈I,j≠i->¬ (λk=>k=F.G i) (F.G j):=λj hj cd e=>cd (hO.inj j hj i D e);have bl:GrN (NG F I J) w4 w5:=ah.mono λj _ ej=>.inr ⟨i,D,ej⟩;have ak:Its F V' I w5 (upd p i q):=λj hj=>by
   by_cases e:j=i
   .subst e;rw[Qy];exact⟨c4,bu⟩
   rw[Jp _ _ e];obtain⟨st,a6⟩:=a5 j hj;exact⟨st,Ju a6 ah (cm j hj e)⟩
  have bs:=Ju bt ah (λe=>hJG i D e.symm);have bo:¬ (λk=>k=F.G i) bk:=λe=>by have O:=av i D;omega
  have bw:=Ju aw ah bo;have af:=ao.trans bl;have Z:∀ a,V'.lo i<=a->a<q->cmpV (F.val V' i a) key<0:=λa O h2=>by
   by_cases h3:a<p i
   .exact b6 i D a O h3
   exact ca a om h2
  refine ρ ?_;refine ci (λO=>?_) (λO=>?_)
  .have ac:¬ q<V'.e i:=by simpa using O
   refine ρ ?_;refine Jq ⟨af,⟨sj,bs⟩,upd p i q,false,rfl,ak,λj hj=>?_,λe=>(by cases e),λ_ y hy az=>?_⟩
   .by_cases e:j=i
    .subst e;rw[Qy];omega
    rw[Jp _ _ e];have:=a3 j hj;omega
   obtain⟨a,h2,h3,h4⟩:=hy i D;have h5:=a9 y hy az;have h6:=Z a h2 om;rw[h4]at h6;have:=cmp_V.anti key y;omega
  have ac:q<V'.e i:=by simpa using O
  have c8:=c9 ac;clear O;refine ρ ?_;refine cl (Jcd bu (bq w5 ah) a4.2.1 a4.2.2 (λ_=>b3.1)) ?_;rintro u w6 ⟨ay,nx,rfl,cc⟩;have a2:nx=F.val V' i q:=cc ⟨a4.1,ac⟩;rw[decide_eq_true (show 0<V'.L i/\q<V'.e i from⟨a4.1,ac⟩)];refine ρ ?_;refine alc (cs:=V0.cells) Jjv ?_;intro w7 b7 be bp c2;refine ρ ?_;refine stb (cs':=nx.cells) c2 ?_ (V.one _);intro w8 c1 cg bd;have a8:Ext w5 w8:=ay.trans (bd w6 be bp);have aj:=bs.ext a8;refine ρ ?_;refine ld (aj.at (i:=2) rfl) ?_;refine ρ ?_;refine sto (p:=⟨J,2,none⟩) (aj.cell 2) (aj.frozen _) ?_;have cj:=aj.set 2 (.int .i64 (IntKind.i64.wrap (sj+1)));have ce:GrN (NG F I J) w8 (w8.setCell ⟨J,2,none⟩ (.int .i64 (IntKind.i64.wrap (sj+1)))):=GrN.set _ (.inl rfl);have cq:w.heap.size<=b7:=nL af.size (nL ay.size bp);have c0:Blk (w8.setCell ⟨J,2,none⟩ (.int .i64 (IntKind.i64.wrap (sj+1)))) b7 75 nx.cells:=c1.far (by simp only;omega) _;have am:Blk (w8.setCell ⟨J,2,none⟩ (.int .i64 (IntKind.i64.wrap (sj+1)))) bk 75 key.cells:=(bw.ext a8).far (by simp only;omega) _
  have b9:Its F V' I (w8.setCell ⟨J,2,none⟩ (.int .i64 (IntKind.i64.wrap (sj+1)))) (upd p i q):=λj hj=>by
   obtain⟨st,a6⟩:=ak j hj;exact⟨st,(a6.ext a8).far (hJG j hj) _⟩
  have ar:=(af.trans (GrN.ext a8)).trans ce;clear cg bd c1 c2 be ay aj;generalize w8.setCell ⟨J,2,none⟩ (.int .i64 (IntKind.i64.wrap (sj+1)))=w9 at *
  have bj:∀ j∈I,V'.lo j<=upd p i q j/\upd p i q j<V'.e j:=λj hj=>by
   by_cases e:j=i
   .subst e;rw[Qy];have:=a3 j hj;omega
   rw[Jp _ _ e];exact a3 j hj
  refine ρ ?_;refine lds (cs:=nx.cells) (λj u hu=>c0.at hu) ?_;refine ρ ?_;refine lds (cs:=key.cells) (λj u hu=>am.at hu) ?_;refine ρ ?_;refine cl (Jzq nx key _) ?_;rintro u bc ⟨rfl,a1⟩;refine ρ ?_;have au:JB bc J jr ja yv:=⟨_,cj.ext a1⟩;have aa:Its F V' I bc (upd p i q):=λj hj=>by
   obtain⟨st,a6⟩:=b9 j hj;exact⟨st,a6.ext a1⟩
  refine ci (λO=>?_) (λO=>?_)
  .have bm:nx=key:=cmp_V.zero _ _ (Un O);refine ρ ?_;refine Yb (same+1) (k+1) key (upd p i q) sO ⟨ar.trans (GrN.ext a1),au,aa,am.ext a1,bj,λj hj a h2 h3=>?_,b2,a9,om,om,om,om,λs h2 h3=>?_⟩ om
   .by_cases e:j=i
    .subst e;rw[Qy]at h3;exact Z a h2 h3
    rw[Jp _ _ e]at h3;exact b6 j hj a h2 h3
   by_cases e:s=1
   .subst e;rw[Nat.add_sub_cancel,<-hi,Qy,<-a2,bm]
   have h4:k+1-s=k-(s-1):=om
   rw[h4];have h5:(k-(s-1)) % I.length<I.length:=Nat.mod_lt _ hne;have h6:I.getD ((k-(s-1)) % I.length) 0≠i:=λe2=>by
    rw[hi,Qn 0 I h5,Qn 0 I lr]at e2;have e3:=Jnj hnd h5 lr e2;exact Qfq (n:=I.length) (k:=k) (s:=s-1) om om om e3
   rw[Jp _ _ h6];exact bi (s-1) om om
  have co:=Ve O;have ae:cmpV key nx<0:=by
   have h2:=cmp_V.anti nx key;have h3:¬ cmpV nx key<0:=by rw[a2];exact c8
   omega
  have d2:=Jrh (U:=Km F V' I) (by rw[a2];exact Qsn D om ac) ae;have bb:=am.ext a1;refine ρ ?_;refine lds (cs:=nx.cells) (λj u hu=>(c0.ext a1).at hu) ?_;refine ρ ?_;refine stb (cs':=nx.cells) bb ?_ (V.one _);intro cr ba ai cn;have aq:∀ {g:Nat},g<w.heap.size->some g≠some bk:=fun {g} hg e=>by injection e with e;omega
  refine ρ ?_;refine Yb 1 (k+1) nx (upd p i q) sO ⟨(ar.trans (GrN.ext a1)).newBy ai bn,?_,λj hj=>?_,ba,bj,λj hj a h2 h3=>?_,?_,λy hy az=>?_,Nat.le_refl _,hne,om,om,λs h2 h3=>?_⟩ om
  .obtain⟨st,hJ⟩:=au;exact⟨st,hJ.grown ai (aq br)⟩
  .obtain⟨st,a6⟩:=aa j hj;exact⟨st,a6.grown ai (aq (av j hj))⟩
  .by_cases e:j=i
   .subst e;rw[Qy]at h3;exact cmp_V.lt_trans (Z a h2 h3) ae
   rw[Jp _ _ e]at h3;exact cmp_V.lt_trans (b6 j hj a h2 h3) ae
  .exact Qpl b2 om
  .obtain⟨a,h2,h3,h4⟩:=hy i D;have h5:=a9 y hy az;have h6:q<=a:=by
    rcases Nat.lt_or_ge a q with h7|h7
    .have h8:=Z a h2 h7;rw[h4]at h8;have:=cmp_V.anti key y;omega
    exact h7
   rw[a2,<-h4];by_cases e:a=q
   .subst e;rw[Zg];omega
   have:=hO.srt i D q a om om h3;omega
  have:s=1:=om
  subst this;rw[Nat.add_sub_cancel,<-hi,Qy];exact a2.symm
 have d3:same=I.length:=by have:=oF O;omega
 refine ρ ?_;refine Jq ⟨ao,⟨sj,bt⟩,p,true,rfl,a5,λi hi=>⟨(a3 i hi).1,Nat.le_of_lt (a3 i hi).2⟩,λ_=>⟨key,λi hi=>⟨(a3 i hi).2,?_⟩,b2,a9⟩,λe=>by cases e⟩;obtain⟨r,hr,er⟩:=List.getElem_of_mem hi;obtain⟨s,O,h2,h3⟩:=Qfr hr (show I.length<=k by omega);have:=bi s O om;rw[h3,Qn 0 I hr,er]at this;exact this
end Go.Proofs.YtebiphhfkdbpfaaGreat
namespace Go.Proofs.YtebiphhfkdbpfaaGreat
open Pl
variable {vs:List Nat}{d k l n u v:Nat}{q y z z':Row}
def Qc(vs:List Nat): Prop:=vs.Pairwise (· < ·)
def lv(vs:List Nat)(v:Nat): Nat:=(vs.filter λu=>decide (u<v)).length
theorem Jpc(vs:List Nat)(v:Nat): lv vs v<=vs.length:=List.length_filter_le _ _
theorem Jxj(vs:List Nat): lv vs 0=0:=by simp[lv]
theorem Jpf(h:∀ u∈vs,u<n): lv vs n=vs.length:=by grind [lv,List.filter_eq_self.2]
theorem Jkw(u:Nat)(vs:List Nat)(v:Nat): lv (u::vs) v=(if u<v then 1 else 0)+lv vs v:=by grind [lv,List.filter_cons_of_pos,List.length_cons,List.filter_cons_of_neg]
theorem Jpb(h:∀ u∈vs,v<=u): lv vs v=0:=by grind [lv,List.filter_eq_nil_iff.2]
theorem Kv(h:v ∉ vs): lv vs (v+1)=lv vs v:=by
 induction vs with
 | nil=>rfl
 | cons u vs ih=>
  grind [Jkw,List.mem_cons_of_mem,List.mem_cons_self]
theorem Vh(ha:Qc vs)(h:v∈vs): lv vs (v+1)=lv vs v+1/\lv vs v<vs.length/\vs.getD (lv vs v) 0=v:=by
 induction vs with
 | nil=>cases h
 | cons u vs ih=>
  obtain⟨j,i⟩:=List.pairwise_cons.1 ha;rw[Jkw,Jkw];rcases List.mem_cons.1 h with rfl|h'
  .grind [lv,Jpb,Nat.le_of_lt,List.length_cons]
  have G:=j v h';obtain⟨F,D,y⟩:=ih i h';grind
theorem Qgg(ha:Qc vs): vs.take (lv vs v)=vs.filter λu=>decide (u<v):=by
 induction vs with
 | nil=>rfl
 | cons u vs ih=>
  obtain⟨j,i⟩:=List.pairwise_cons.1 ha;by_cases h:u<v
  .rw[Jkw,if_pos h,Nat.add_comm 1,List.take_succ_cons,ih i,List.filter_cons_of_pos (by simpa using h)]
  repeat grind [lv,Jpb,List.mem_cons.1,List.filter_eq_nil_iff.2]
theorem Jhd(h:z.take v=z'.take v)(hu:u<v): z.getD u V0=z'.getD u V0:=by
 have:=congrArg (λl=>l.getD u V0) h;grind
theorem Jbj(ha:Qc vs)(h:z.take v=z'.take v): (pmR vs z).take (lv vs v)=(pmR vs z').take (lv vs v):=by
 unfold pmR;rw[<-List.map_take,<-List.map_take,Qgg ha];grind [List.map_congr_left,Jhd,List.mem_filter.1]
theorem Jmp(h:k<vs.length): (pmR vs z).getD k V0=z.getD (vs.getD k 0) V0:=Jml h
theorem Jmm(ha:Qc vs)(h:v∈vs): (pmR vs z).take (lv vs v+1)=(pmR vs z).take (lv vs v)++[z.getD v V0]:=by
 obtain⟨_,i,j⟩:=Vh ha h;rw[Xy V0 (by rw[Zk];exact i),Jmp i,j]
theorem Jtr: ∀(v:Nat) (z z':Row),z.take v=z'.take v->v<z.length->v<z'.length->cmpV (z.getD v V0) (z'.getD v V0)<0->Jk z z' []<0
 | 0,a::z,b::z',_,_,_,h=>by
  simp only[List.getD_cons_zero]at h;simp only[Jk];rw[if_neg om];exact h
 | v+1,a::z,b::z',h,h1,h2,h3=>by
  simp only[List.take_succ_cons,List.cons.injEq]at h;simp only[Jk];rw[if_pos (by grind [Zg])];exact Jtr v z z' h.2 (by simpa using h1) (by simpa using h2) (by simpa using h3)
 | _,[],_,_,h,_,_=>by simp at h
 | _,_::_,[],_,_,h,_=>by simp at h
def Gl(n m:Nat)(vars:Nat->List Nat)(rs:Nat->List Row)(z:Row): Prop:=z.length=n/\∀ i,i<m->pmR (vars i) z∈rs i
theorem Qkl(h1:q.length=l+1)(h2:q.take l=y): q=y++[q.getD l V0]:=by
 have:=Xy V0 (l:=q) (k:=l) om;grind
theorem Qck{rs:List Row}(h:Srt [] rs)(hl:∀ r∈rs,r.length=d)(hld:l<=d)(hq:q∈pfx rs l): q.length=l:=by grind [Jqt,List.length_take]
theorem Qwp(x:V): (z.set v x).take v=z.take v:=List.take_set_of_le (nR _)
theorem Qwq(x:V)(h:v<z.length): (z.set v x).getD v V0=x:=by grind
theorem Jhc(h:z.take v=z'.take v)(hu:u<=v): z.take u=z'.take u:=by
 have:=congrArg (List.take u) h;grind
theorem Qkk(h:z.take v=z'.take v)(h1:v<z.length)(h2:v<z'.length)(h3:z.getD v V0=z'.getD v V0): z.take (v+1)=z'.take (v+1):=by grind [Xy,V0]
open Go.RowKit Pl Go.Wk
attribute [local irreducible] WC WL QX WD WDB WP WN
variable {L' e' i k v:Nat}{f' h' p':Nat->Nat}
structure JC where
 F: Fix
 n:Nat
 m:Nat
 vars:Nat->List Nat
 J:Nat
 Ra:Option Addr
 base:Nat
 ja:Value
 yv:Value
 vat:Nat->Value
 N:Nat->Prop
def JC.I(c:JC)(v:Nat): List Nat:=(List.range c.m).filter λi=>decide (v∈c.vars i)
theorem JC.mem_I{c:JC}: i∈c.I v↔i<c.m/\v∈c.vars i:=by simp[JC.I]
theorem JC.nodup_I(c:JC)(v:Nat): (c.I v).Nodup:=List.Nodup.sublist List.filter_sublist List.nodup_range
theorem JC.len_I(c:JC)(v:Nat): (c.I v).length<=c.m:=by have:=List.length_filter_le (λi=>decide (v∈c.vars i)) (List.range c.m);rw[List.length_range]at this;exact this
def JC.rowv(c:JC): Value:=.slice c.Ra c.n c.n
abbrev JC.Ans(c:JC)(z:Row): Prop:=Gl c.n c.m c.vars c.F.rs z
def JC.NI(c:JC)(k:Nat): Prop:=k=c.J∨(∃ i,i<c.m/\k=c.F.G i)∨c.rowv.ownBlock=some k
structure JOk(c:JC): Prop where
 n32:c.n<=32
 m32:c.m<=32
 asc:∀ i,i<c.m->Qc (c.vars i)
 lt:∀ i,i<c.m->∀ u∈c.vars i,u<c.n
 d:∀ i,i<c.m->c.F.d i=(c.vars i).length
 d32:∀ i,i<c.m->c.F.d i<=32
 ne:∀ i,i<c.m->c.F.rs i≠[]
 srt:∀ i,i<c.m->Lt [] (c.F.rs i)
 len:∀ i,i<c.m->∀ r∈c.F.rs i,r.length=c.F.d i
 big:∀ i,i<c.m->(c.F.rs i).length<=65536
 inj:∀ i j,i<c.m->j<c.m->c.F.G i=c.F.G j->i=j
 gj:∀ i,i<c.m->c.F.G i≠c.J
 cov:∀ v,v<c.n->∃ i,i<c.m/\v∈c.vars i
 sub:∀ k,c.NI k->c.N k
structure JEnv(c:JC)(w:World): Prop where
 tri:∀ i,i<c.m->Off c.N w (λu=>TriA u (c.F.A i) (c.F.d i) (c.F.rs i))
 at_:∃ B cc,c.ja=.slice B c.n cc/\Off c.N w (λu=>Rd u 1 B c.n ((List.range c.n).map c.vat))
 lists:∀ v,v<c.n->∃ B cc,c.vat v=.slice B (c.I v).length cc/\Off c.N w (λu=>Rd u 1 B (c.I v).length (Ih c.F (c.I v)))
theorem JEnv.gr{c:JC}{w w':World}(h:JEnv c w)(hg:GrN c.N w w'): JEnv c w':=by
 refine⟨λi hi=>(h.tri i hi).gr hg,?_,λv y=>?_⟩
 .obtain⟨B,u,e,j⟩:=h.at_;exact⟨B,u,e,j.gr hg⟩
 obtain⟨B,u,e,j⟩:=h.lists v y;exact⟨B,u,e,j.gr hg⟩
def AllIt(c:JC)(w:World)(L p e:Nat->Nat)(f h:Nat->Nat->Nat): Prop:=∀ i,i<c.m->∃ st,ItB w (c.F.G i) (c.F.A i) (c.F.d i) (L i) (p i) (e i) (f i) (h i) st
structure YC(c:JC)(Y:List Row->World->Prop)(NY:Nat->Prop): Prop where
 sub:∀ k,NY k->c.N k
 off:∀ k,NY k->¬ c.NI k
 keep:∀ l w w',Y l w->GrN c.NI w w'->Y l w'
 call:∃ fid first cap,c.yv=.func (.func fid) first cap/\∀ l w vr z,Y l w->RowV w vr z->l.length<65536->Ret Tryz.prog fid (first.toList++[vr]++cap.toList) w λr w'=>r=.bool true/\Y (l++[z]) w'/\GrN NY w w'
structure Cfg(c:JC)(Y:List Row->World->Prop)(w:World)(z:Row)(L p e:Nat->Nat)(f h:Nat->Nat->Nat)(l:List Row): Prop where
 env:JEnv c w
 its:AllIt c w L p e f h
 row:Yw w c.base c.rowv z
 zl:z.length=c.n
 jb:JB w c.J c.rowv c.ja c.yv
 y:Y l w
section
variable {c:JC} {Y:List Row->World->Prop} {NY:Nat->Prop} {w w':World} {z:Row} {L p e:Nat->Nat} {f h:Nat->Nat->Nat} {l:List Row}
theorem Cfg.ext(H:Cfg c Y w z L p e f h l)(hY:YC c Y NY)(hx:Ext w w'): Cfg c Y w' z L p e f h l :=
 ⟨H.env.gr (GrN.ext hx),λi hi=>by obtain⟨st,j⟩:=H.its i hi;exact⟨st,j.ext hx⟩,Jv H.row hx,H.zl,by obtain⟨st,j⟩:=H.jb;exact⟨st,j.ext hx⟩,hY.keep _ _ _ H.y (GrN.ext hx)⟩
theorem Cfg.rowG(H:Cfg c Y w z L p e f h l)(hi:i<c.m)(hk:c.rowv.ownBlock=some k): k≠c.F.G i:=λu=>by
 obtain⟨st,j⟩:=H.its i hi;exact j.ne_own H.row rfl (by rw[hk,u])
theorem Cfg.rowJ(H:Cfg c Y w z L p e f h l)(hk:c.rowv.ownBlock=some k): k≠c.J:=λj=>by
 obtain⟨st,i⟩:=H.jb;exact i.ne_own H.row rfl (by rw[hk,j])
theorem Cfg.it(H:Cfg c Y w z L p e f h l)(hok:JOk c)(hY:YC c Y NY)(hi:i<c.m)(hg:GrN (λk=>k=c.F.G i) w w'){p':Nat}{st:Int}(hI:ItB w' (c.F.G i) (c.F.A i) (c.F.d i) L' p' e' f' h' st):
  Cfg c Y w' z (upd L i L') (upd p i p') (upd e i e') (upd f i f') (upd h i h') l:=by
 have u:GrN c.NI w w':=hg.mono λk _ D=>.inr (.inl ⟨i,hi,D⟩);refine⟨H.env.gr (u.mono λk _ U=>hok.sub k U),λj O=>?_,Qj H.row hg (λg Z=>H.rowG hi Z),H.zl,?_,hY.keep _ _ _ H.y u⟩
 .by_cases ej:j=i
  .grind [Qy]
  rw[Jp _ _ ej,Jp _ _ ej,Jp _ _ ej,Jp _ _ ej,Jp _ _ ej];obtain⟨st,J⟩:=H.its j O;exact⟨st,Ju J hg (λD=>ej (hok.inj j i O hi D))⟩
 obtain⟨st,J⟩:=H.jb;exact⟨st,Ju J hg (λD=>hok.gj i hi D.symm)⟩
theorem Cfg.mt(H:Cfg c Y w z L p e f h l)(hok:JOk c)(hY:YC c Y NY)(hg:GrN (NG c.F (c.I v) c.J) w w')(hJ:JB w' c.J c.rowv c.ja c.yv)(hI:Its c.F ⟨L,λ_=>0,e,f,h⟩ (c.I v) w' p'):
  Cfg c Y w' z L (λi=>if i∈c.I v then p' i else p i) e f h l:=by
 have D:GrN c.NI w w':=hg.mono λk _ u=>by
  rcases u with u|⟨i,hi,u⟩
  .exact .inl u
  exact .inr (.inl ⟨i,(JC.mem_I.1 hi).1,u⟩)
 refine⟨H.env.gr (D.mono λk _ U=>hok.sub k U),λj G=>?_,Qj H.row hg (λg O=>?_),H.zl,hJ,hY.keep _ _ _ H.y D⟩
 .by_cases ej:j∈c.I v
  .simp only[if_pos ej];exact hI j ej
  simp only[if_neg ej];obtain⟨st,Z⟩:=H.its j G;refine⟨st,Ju Z hg ?_⟩;rintro(u|⟨i,hi,u⟩)
  .exact hok.gj j G u
  have:=hok.inj j i G (JC.mem_I.1 hi).1 u;subst this;exact ej hi
 rintro(u|⟨i,hi,u⟩)
 .exact H.rowJ O u
 exact H.rowG (JC.mem_I.1 hi).1 O u
end
end Go.Proofs.YtebiphhfkdbpfaaGreat
namespace Go.Wk
open Go.RowKit
open Go.Maps (Keyed)
variable {kl:Lit}{f:Lit->Option Value}{b k m:Nat}{x y:Operand}{kd:TK}{e t:TypeId}{key u v z:Value}
abbrev DV:= DataW Value
def RT(v:Value): Option (DV×List MemPlace):=some (.held v,[])
theorem Qqj{ps:List MemPlace}(h:RT v=some (.held u,ps)): v=u:=by grind [RT,Option.some.injEq]
def MapS(P:Program)(k:TypeId)(w:World)(b n:Nat)(f:Lit->Option Value): Prop :=
 ∃ D:DV,w.ownsMap P k RT b n D/\(∀ kl,Maps.has D kl=(f kl).isSome)/\∀ kl zd,D.atKey kl zd=(match f kl with|some v=>.held v|none=>zd)
def upL(f:Lit->Option Value)(kl:Lit)(x:Option Value): Lit->Option Value:=λz=>if z.sameKey kl=true then x else f z
section
variable {P:Program} {k:TypeId} {w w':World} {b n:Nat} {f:Lit->Option Value}
theorem MapS.lt(h:MapS P k w b n f): b<w.heap.size:=by obtain⟨D,i,_⟩:=h;exact i.lt
theorem MapS.kept{row:Option Nat}(h:MapS P k w b n f)(hg:w.grownBy w' row)(hne:some b≠row): MapS P k w' b n f:=by
 obtain⟨D,j,i⟩:=h;exact⟨D,j.kept hg hne,i⟩
theorem MapS.gr{N:Nat->Prop}(h:MapS P k w b n f)(hg:GrN N w w')(hn:¬ N b): MapS P k w' b n f:=by
 obtain⟨D,⟨G,i,u,F⟩,y⟩:=h;have j:b<w.heap.size:=by grind
 exact⟨D,⟨G,i,(hg.block b j hn).trans u,F⟩,y⟩
theorem MapS.ext(h:MapS P k w b n f)(hx:Ext w w'): MapS P k w' b n f:=h.gr (N:=λ_=>False) (GrN.ext hx) (λe=>e)
theorem MapS.mono(h:MapS P k w b n f){m:Nat}(hm:n<=m): MapS P k w b m f:=by obtain⟨D,j,i⟩:=h;exact⟨D,j.mono hm,i⟩
theorem MapS.made(w:World)(P:Program)(k:TypeId): MapS P k (w.alloc (.map #[] 0)) w.heap.size 0 (λ_=>none) :=
 ⟨.map [],World.ownsMap_made w P k RT,λi=>rfl,λi j=>rfl⟩
theorem Jqg(hk:WideAt.IsKeyLit kl)(x:Option Value): upL f kl x kl=x:=by unfold upL;rw[if_pos (WideAt.sameKey_self hk)]
theorem Jqf{z:Lit}(h:z≠kl)(x:Option Value): upL f kl x z=f z:=by
 unfold upL;rw[if_neg (by rw[Maps.sameKey_ne h];simp)]
theorem MapS.look(h:MapS P k w b n f)(K:Keyed P k)(ht:P.underlying t=some (.map k e))(hz:(zeroValue e).run P w=.ok z w)(hkey:keyOf P k key=some kl):
  (Instr.lookup t (.map (some b)) key true).run P w=.ok (.tuple #[(f kl).getD z,.bool (f kl).isSome]) w/\(Instr.lookup t (.map (some b)) key false).run P w=.ok ((f kl).getD z) w:=by
 obtain⟨D,i,F,y⟩:=h;have G:D.atKey kl (.held z)=.held ((f kl).getD z):=by grind
 constructor
 .obtain⟨v,ps,u,j⟩:=i.look_ok K ht hz (zd:=.held z) (zp:=[]) rfl hkey;grind [Qqj]
 obtain⟨v,ps,u,j⟩:=i.lookup K ht hz (zd:=.held z) (zp:=[]) rfl hkey;grind [Qqj]
theorem MapS.put(h:MapS P k w b n f)(K:Keyed P k)(ht:P.underlying t=some (.map k e))(hn:n<maxLen)(hkey:keyOf P k key=some kl)(v:Value):
  ∃ w',(Instr.mapUpdate t (.map (some b)) key v).run P w=.ok () w'/\MapS P k w' b (n+1) (upL f kl (some v))/\w.grownBy w' (some b):=by
 obtain⟨D,j,J,G⟩:=h;obtain⟨w',u,y,F⟩:=j.update K ht hn hkey (val:=v) (d:=.held v) (ps:=[]) rfl;have i:=K.key hkey;refine⟨w',u,⟨_,y,λx=>?_,λx O=>?_⟩,F⟩
 .by_cases e:x=kl
  .subst e;rw[Jqg i,Maps.has_put_same j.isMap i];rfl
  rw[Jqf e,Maps.has_put_other e,J]
 by_cases e:x=kl
 .subst e;rw[Jqg i,Maps.atKey_put_same j.isMap i]
 rw[Jqf e,Maps.atKey_put_other e,G]
theorem MapS.drop(h:MapS P k w b n f)(K:Keyed P k){t e:TypeId}(ht:P.underlying t=some (.map k e)){key:Value}{kl:Lit}(hkey:keyOf P k key=some kl)(ty:TypeId):
  ∃ w',(Builtin.delete_ #[t,k] ty #[.map (some b),key]).run P w=.ok (.tuple #[]) w'/\MapS P k w' b n (upL f kl none)/\w.grownBy w' (some b):=by
 obtain⟨D,J,G,F⟩:=h;obtain⟨w',j,u,y⟩:=J.drop K ht hkey ty;have i:=K.key hkey;refine⟨w',j,⟨_,u,λx=>?_,λx O=>?_⟩,y.grown⟩
 .by_cases e:x=kl
  .subst e;rw[Jqg i,Maps.has_del_same];rfl
  rw[Jqf e,Maps.has_del_other e,G]
 by_cases e:x=kl
 .subst e;rw[Jqg i,Maps.atKey_del_same]
 rw[Jqf e,Maps.atKey_del_other e,F]
theorem MapS.len0(h:MapS P k w b n f)(ht:P.underlying t=some (.map k e))(K:Keyed P k)(ty:TypeId): ∃ m:Nat,(Builtin.len_ #[t] ty #[.map (some b)]).run P w=.ok (.int .i64 (m:Int)) w/\(m=0↔∀ kl,f kl=none):=by
 obtain⟨D,y,u,F⟩:=h;refine⟨Maps.size D,y.len ht ty,?_⟩;obtain⟨j,rfl,_,i⟩:=y.entries K;constructor
 .intro h0 kl;have:j=[]:=List.eq_nil_of_length_eq_zero h0;subst this;have:=u kl;cases hf:f kl with
  | none=>rfl
  | some v=>rw[hf]at this;cases this
 intro hn;cases j with
 | nil=>rfl
 | cons p j=>
  have:=u p.1;rw[hn p.1,Maps.has_eq,List.any_cons,WideAt.sameKey_self (i p (mC ..))]at this;cases this
theorem Qwv(hz:Xz P t=some z)(w:World): (zeroValue t).run P w=.ok z w:=by
 unfold Xz at hz;obtain⟨i,u,j⟩:=Option.bind_eq_some_iff.1 hz;simp[zeroValue,typeInfo,u,j]
end
section
variable {N:Nat->Prop} {P:Program} {n:Nat} {al:AL} {w:World} {Q:Exit->Act->World->Prop} {ops:Array Oper} {rest:List Oper} {drest:List (Nat×Oper)}
variable {d ty:Nat} {pos:String} {aft:Array Edge} {tt:TT}
theorem mkm{t:Nat}(k:TypeId)(kk:∀ w1 b,Ext w w1->w.heap.size<=b->MapS P k w1 b 0 (λ_=>none)->WL P n ops Q rest ((d,.map (some b))::al) w1)(hd:Nat.blt d n=true:=by rfl):
  WL P n ops Q (⟨some d,.makeMap t none,ty,pos,aft,none⟩::rest) al w :=
 wop hd (λa i=>by
  show _=Result.ok (Next.value (.map (some w.heap.size))) (w.alloc (.map #[] 0));simp[execOp,run_makeMap]) (kk _ _ ((Ext.refl w).alloc _) (nR _) (MapS.made w P k))
theorem mlk[hT:Tab P tt]{t e:Nat}(K:Keyed P k)(hM:MapS P k w b m f)(hz:Xz P e=some z)(hkey:keyOf P k key=some kl)(kk:WL P n ops Q rest ((d,(f kl).getD z)::al) w)(ht:tk tt t=some kd:=by rfl)(hk:kd.desc=.map k e:=by rfl)(hx:ev al x=some (.map (some b)):=by rfl)(hy:ev al y=some key:=by rfl)(hd:Nat.blt d n=true:=by rfl):
  WL P n ops Q (⟨some d,.lookup t x y false,ty,pos,aft,none⟩::rest) al w :=
 wop hd (λa i=>by
  have:=(hM.look K (Yr hT.ok ht hk rfl) (Qwv hz w) hkey).2;simp[execOp,i.ev hx,i.ev hy,this]) kk
theorem mup[hT:Tab P tt]{t e:Nat}{z:Operand}(K:Keyed P k)(hM:MapS P k w b m f)(hm:m<maxLen)(hkey:keyOf P k key=some kl)(kk:∀ w1,MapS P k w1 b (m+1) (upL f kl (some v))->w.grownBy w1 (some b)->WL P n ops Q rest al w1)(ht:tk tt t=some kd:=by rfl)(hk:kd.desc=.map k e:=by rfl)(hx:ev al x=some (.map (some b)):=by rfl)(hy:ev al y=some key:=by rfl)(hv:ev al z=some v:=by rfl):
  WL P n ops Q (⟨none,.mapUpdate t x y z,ty,pos,aft,none⟩::rest) al w:=by
 obtain⟨w',j,D,u⟩:=hM.put K (Yr hT.ok ht hk rfl) hm hkey v;exact Ko (λa i=>by simp[execOp,i.ev hx,i.ev hy,i.ev hv,j]) (kk w' D u)
end
end Go.Wk
namespace Go.Wk
open Go.RowKit
variable {cs:List Value}{b d n ty:Nat}{α β:Type}{v v' z:Value}
def Va(base:Nat)(v:Value)(k:Nat): Prop:=k<base∨v.ownBlock=some k
def Jd(ps:List (List Value×α)): List Value:=ps.flatMap (·.1)
theorem Jrz{α:Type}{sz:Nat}: ∀ {ps:List (List Value×α)},(∀ p∈ps,p.1.length=sz)->(Jd ps).length=ps.length*sz
 | [],_=>by simp[Jd]
 | p::ps,h=>by
  have:=Jrz (ps:=ps) λq hq=>h q (List.mem_cons_of_mem _ hq);grind [Jd,List.length_append,List.length_cons,List.mem_cons_self,Nat.succ_mul]
theorem Jcs{α:Type}{sz:Nat}: ∀ {ps:List (List Value×α)} {i j:Nat} {p:List Value×α},(∀ p∈ps,p.1.length=sz)->ps[i]?=some p->j<sz->(Jd ps)[i*sz+j]?=p.1[j]?
 | [],_,_,_,_,h,_=>by cases h
 | q::ps,0,j,p,hl,h,hj=>by
  simp only[List.getElem?_cons_zero,Option.some.injEq]at h;subst h;simp only[Jd,List.flatMap_cons,Nat.zero_mul,Nat.zero_add];grind
 | q::ps,i+1,j,p,hl,h,hj=>by
  simp only[List.getElem?_cons_succ]at h;have ih:=Jcs (i:=i) (j:=j) (λp hp=>hl p (List.mem_cons_of_mem _ hp)) h hj;grind [Jd,List.getElem?_append_right,List.mem_cons_self,Nat.succ_mul]
section
variable {α:Type} {E:TypeId} {sz:Nat} {Φ:World->List Value->α->Prop} {w w':World} {base:Nat} {v:Value} {ls:List α}
def OwnG(E:TypeId)(sz:Nat)(Φ:World->List Value->α->Prop)(w:World)(base:Nat)(v:Value)(ls:List α): Prop :=
 ∃ ps:List (List Value×α),ls=ps.map (·.2)/\w.ownsRow base E sz v ps.length (Jd ps)/\∀ p∈ps,p.1.length=sz/\Off (Va base v) w (λu=>Φ u p.1 p.2)
def GV(sz:Nat)(Φ:World->List Value->α->Prop)(w:World)(v:Value)(ls:List α): Prop :=
 ∃(ps:List (List Value×α)) (A:Option Addr) (c:Nat),ls=ps.map (·.2)/\v=.slice A ps.length c/\ps.length<=c/\ps.length<=1100000/\Rd w sz A ps.length (Jd ps)/\∀ p∈ps,p.1.length=sz/\Φ w p.1 p.2
theorem OwnG.nil(w:World)(base:Nat): OwnG E sz Φ w base (.slice none 0 0) []:=⟨[],rfl,Qo _ _ _ _,λp i=>by cases i⟩
theorem OwnG.gr{N:Nat->Prop}(h:OwnG E sz Φ w base v ls)(hg:GrN N w w')(hN:∀ k,N k->k<base): OwnG E sz Φ w' base v ls:=by
 obtain⟨ps,e,u,i⟩:=h;refine⟨ps,e,Qj u hg (λg D hn=>?_),λp j=>⟨(i p j).1,(i p j).2.gr (hg.mono λk _ y=>.inl (hN k y))⟩⟩;grind [Jy]
theorem OwnG.ext(h:OwnG E sz Φ w base v ls)(hx:Ext w w'): OwnG E sz Φ w' base v ls:=h.gr (N:=λ_=>False) (GrN.ext hx) (λk e=>e.elim)
theorem OwnG.form(h:OwnG E sz Φ w base v ls): ∃ A c,v=.slice A ls.length c/\ls.length<=c/\∀ g,v.ownBlock=some g->base<=g/\g<w.heap.size:=by
 obtain⟨ps,e,j,i⟩:=h;grind [Jy,List.length_map]
theorem OwnG.gv(h:OwnG E sz Φ w base v ls)(hm:ls.length<=1100000): GV sz Φ w v ls:=by
 obtain⟨ps,e,j,i⟩:=h;obtain⟨A,c,y,u,D⟩:=Jy j;subst y;exact⟨ps,A,c,e,rfl,u,by grind,Rd.own j,λp hm=>⟨(i p hm).1,(i p hm).2.here⟩⟩
theorem OwnG.off(h:OwnG E sz Φ w base v ls)(hm:ls.length<=1100000): Off (λk=>k<base) w (λu=>GV sz Φ u v ls):=λw' j=>(h.gr j λk i=>i).gv hm
theorem GV.ext(h:GV sz Φ w v ls)(hx:Ext w w')(hΦ:∀ cs a,Φ w cs a->Φ w' cs a): GV sz Φ w' v ls:=by
 obtain⟨ps,A,c,e,F,D,y,u,i⟩:=h;exact⟨ps,A,c,e,F,D,y,u.ext hx,λp j=>⟨(i p j).1,hΦ _ _ (i p j).2⟩⟩
theorem GV.imp{Ψ:World->List Value->β->Prop}{f:α->β}(h:GV sz Φ w v ls)(hΦ:∀ cs a,a∈ls->Φ w cs a->Ψ w cs (f a)): GV sz Ψ w v (ls.map f):=by
 obtain⟨ps,A,c,e,G,F,D,i,j⟩:=h;have y:Jd (ps.map λp=>(p.1,f p.2))=Jd ps:=by simp[Jd,List.flatMap_map]
 refine⟨ps.map λp=>(p.1,f p.2),A,c,by rw[e];simp,by grind,by grind,by grind,by grind,λp u=>?_⟩;grind
theorem GV.len(h:GV sz Φ w v ls): ∃ A c,v=.slice A ls.length c/\ls.length<=c/\ls.length<=1100000:=by
 obtain⟨ps,A,c,e,D,y,u,i,j⟩:=h;grind
theorem GV.parts(h:GV sz Φ w v ls): ∃ A c cs,v=.slice A ls.length c/\ls.length<=c/\ls.length<=1100000/\Rd w sz A ls.length cs/\∀ i (hi:i<ls.length),∃ ce,ce.length=sz/\Φ w ce ls[i]/\∀ j u,ce[j]?=some u->w.cell? ((adr A (i*sz)).add j)=some u:=by
 obtain⟨ps,A,c,e,e1,Z,U,G,D⟩:=h;subst e;refine⟨A,c,Jd ps,by grind,by grind,by grind,by grind,λi hi=>?_⟩;rw[List.length_map]at hi;have J:=D ps[i] (List.getElem_mem hi);refine⟨ps[i].1,J.1,by grind,λj u F=>?_⟩;have O:j<sz:=by grind
 rw[Kn];exact G.cell ((Jcs (λp y=>(D p y).1) (gE hi) O).trans F)
theorem OwnG.after{ps:List (List Value×α)}(e:ls=ps.map (·.2))(hp:∀ p∈ps,p.1.length=sz/\Off (Va base v) w (λu=>Φ u p.1 p.2)){w':World}{x:α}(hl:cs.length=sz)(hx:Off (Va base v) w (λu=>Φ u cs x))(ho:w'.ownsRow base E sz v' (ps.length+1) (Jd ps++cs))(hg:w.grownBy w' v.ownBlock)(hn:∀ g,v'.ownBlock=some g->v.ownBlock=some g∨w.heap.size<=g): OwnG E sz Φ w' base v' (ls++[x]):=by
 have i:∀(cs:List Value) (x:α),Off (Va base v) w (λu=>Φ u cs x)->Off (Va base v') w' (λu=>Φ u cs x):=λcs x y=>by
  have J:Off (Va base v) w' (λu=>Φ u cs x):=y.gr (GrN.by hg λk j=>.inr j);have F:Off (λk=>Va base v k∨Va base v' k) w (λu=>Φ u cs x):=y.mono λk j h=>by
   rcases h with h|h|h
   .exact h
   .exact .inl h
   rcases hn k h with h4|h4
   .exact .inr h4
   omega
  exact(F.gr (GrN.by hg λk j=>.inl (.inr j))).mono λk _ h=>.inr h
 refine⟨ps++[(cs,x)],by rw[e];simp,?_,λp D=>?_⟩
 .have G:Jd (ps++[(cs,x)])=Jd ps++cs:=by simp[Jd]
  rw[List.length_append,G];exact ho
 rcases List.mem_append.1 D with h'|h'
 .exact⟨(hp p h').1,i _ _ (hp p h').2⟩
 rw[List.mem_singleton.1 h'];exact⟨hl,i _ _ hx⟩
end
theorem apG{P:Program}{al:AL}{w:World}{Q:Exit->Act->World->Prop}{ops:Array Oper}{rest:List Oper}{pos:String}{aft:Array Edge}{t E sz bytes base:Nat}(hE:ElT P t E sz bytes z){Φ:World->List Value->α->Prop}{x y:Operand}{ls:List α}{a:α}(ho:OwnG E sz Φ w base v ls)(hb:Blk w b E cs)(hl:cs.length=sz)(h1:∀ u∈cs,u.oneCell'=true)(hΦ:Off (Va base v) w (λu=>Φ u cs a))(hm:ls.length<=1100000)(hby:bytes<=64)(hbase:base<=w.heap.size)(kk:∀ v' w',OwnG E sz Φ w' base v' (ls++[a])->w.grownBy w' v.ownBlock->(∀ g,v'.ownBlock=some g->v.ownBlock=some g∨w.heap.size<=g)->WL P n ops Q rest ((d,v')::al) w')(hx:ev al x=some v:=by rfl)(hy:ev al y=some (.slice (some ⟨b,0,none⟩) 1 1):=by rfl)(hd:Nat.blt d n=true:=by rfl):
  WL P n ops Q (⟨some d,.call { callee:=.builtin .append,args:=#[x,y],argTypes:=#[t,t] },ty,pos,aft,none⟩::rest) al w:=by
 obtain⟨ps,e,j,F⟩:=ho;have i:ps.length<=1100000:=by grind
 have D:(ps.length+1)*bytes<=1100001*64:=Nat.mul_le_mul om hby;refine apb hE j (hb.rd (n:=1) om) h1 (by unfold maxLen;omega) om hbase ?_ hx hy hd;grind [OwnG.after]
end Go.Wk
namespace Go.Proofs.YtebiphhfkdbpfaaGreat
namespace Pl
variable {cs l:List Nat}{c j n v:Nat}{g h:Nat->Nat}
def Ul: Nat->(Nat->Nat)->Nat
 | 0,_=>1
 | n+1,g=>Ul n g*g n
theorem Qbp(e:∀ c,c<n->g c=h c): Ul n g=Ul n h:=by
 induction n with
 | zero=>rfl
 | succ n ih=>rw[Ul,Ul,ih (λc i=>e c om),e n om]
theorem prodR_pos: 0<Ul n g↔∀ c,c<n->0<g c:=by
 induction n with
 | zero=>exact⟨λ_ c i=>om,λ_=>Nat.one_pos⟩
 | succ n ih=>
  grind [Ul,Nat.pos_of_mul_pos_right,Nat.pos_of_mul_pos_left,Nat.mul_pos]
section
variable {α:Type}
def tot: List (α×Nat)->Nat
 | []=>0
 | p::l=>p.2+tot l
def prj(d0:α)(cs:List Nat)(y:List α): List α:=cs.map λc=>y.getD c d0
theorem Qbr{d0:α}{y z:List α}(h:∀ c∈cs,y.getD c d0=z.getD c d0): prj d0 cs y=prj d0 cs z:=List.map_congr_left h
theorem Jrn{d0:α}{y z:List α}(h:c<y.length): (y++z).getD c d0=y.getD c d0:=by grind
structure AX(α:Type) where
 d0: α
 F:Nat
 ks:Nat->List Nat
 par:Nat->Int
 E:Nat->List α->List (α×Nat)
def AX.key(X:AX α)(c:Nat)(y:List α): List α:=prj X.d0 (X.ks c) y
def AX.T(X:AX α)(c:Nat)(y:List α): Nat:=tot (X.E c (X.key c y))
structure AX.Ok(X:AX α): Prop where
 kl:∀ v,v<X.F->∀ u∈X.ks v,(u:Int)<=X.par v
 pl:∀ v,v<X.F->-1<=X.par v/\X.par v<v
 wt:∀ v,v<X.F->∀ y,y.length=v->∀ p∈X.E v (X.key v y),0<p.2/\p.2=Ul X.F (λc=>if X.par c=v then X.T c (y++[p.1]) else 1)
def AX.ext(X:AX α): Nat->List α->List (List α)
 | 0,y=>[y]
 | n+1,y=>(X.E y.length (X.key y.length y)).flatMap λp=>X.ext n (y++[p.1])
variable {X:AX α}
theorem AX.ext_mem: ∀(n:Nat) (y x:List α),x∈X.ext n y↔x.length=y.length+n/\x.take y.length=y/\∀ v,y.length<=v->v<y.length+n->x.getD v X.d0∈(X.E v (X.key v (x.take v))).map (·.1)
 | 0,y,x=>by grind [AX.ext,List.mem_singleton,List.take_length,List.take_of_length_le]
 | n+1,y,x=>by
  rw[AX.ext,List.mem_flatMap];constructor
  .rintro⟨p,hp,hx⟩;obtain⟨h1,h2,h3⟩:=(AX.ext_mem n _ x).1 hx;rw[List.length_append,List.length_singleton]at h1 h2 h3;have hy:x.take y.length=y:=by
    have:=congrArg (List.take y.length) h2;grind
   refine⟨om,hy,λv h4 h5=>?_⟩;by_cases e:v=y.length
   .subst e;rw[hy];have:x.getD y.length X.d0=p.1:=by
     have:=congrArg (λl=>l.getD y.length X.d0) h2;grind
    grind
   repeat grind
  rintro⟨h1,h2,h3⟩;obtain⟨p,hp,e⟩:=List.mem_map.1 (h3 y.length (nR _) om);rw[h2]at hp;refine⟨p,hp,(AX.ext_mem n _ x).2 ⟨?_,?_,λv h4 h5=>h3 v ?_ ?_⟩⟩
  .simp;omega
  .rw[List.length_append,List.length_singleton,e];have hl:y.length<x.length:=om
   grind [List.take_add_one,List.getD,List.getElem?_eq_getElem]
  repeat grind
end
structure BX(α:Type) where
 d0: α
 N:Nat
 F:Nat
 K:Nat->List Nat
 par:Nat->Int
 pl:Nat->Nat
 ats:List (List Nat×List (List α))
 T:Nat->List α->Nat
 E:Nat->List α->List (α×Nat)
section
variable {α:Type}
def BX.bag(X:BX α)(v:Nat)(z:List α): Prop:=∀ a∈X.ats,∃ r∈a.2,∀ j,j<a.1.length->(a.1.getD j 0=v∨a.1.getD j 0∈X.K v)->r.getD j X.d0=z.getD (a.1.getD j 0) X.d0
def BX.W(X:BX α)(v:Nat)(z:List α): Nat:=Ul X.N (λc=>if X.par c=v then X.T c (prj X.d0 (X.K c) z) else 1)
structure BX.Ok(X:BX α): Prop where
 FN:X.F<=X.N
 plN:∀ v,v<X.N->X.pl v<X.N
 inj:∀ u v,u<X.N->v<X.N->X.pl u=X.pl v->u=v
 k1:∀ v,v<X.N->∀ u∈X.K v,u<X.N/\X.pl v<X.pl u
 k2:∀ v,v<X.N->(X.K v=[]/\X.par v = -1)∨∃ p:Nat,X.par v=p/\p∈X.K v/\∀ u∈X.K v,X.pl p<=X.pl u
 k3:∀ v,v<X.N->∀ p:Nat,X.par v=p->∀ x∈X.K v,x=p∨x∈X.K p
 k4:∀ a∈X.ats,∀ v∈a.1,(∀ u∈a.1,X.pl v<=X.pl u)->∀ u∈a.1,u=v∨u∈X.K v
 k5:∀ u v,u<X.F->v<u->X.pl u<X.pl v
 k6:∀ u v,u<X.F->X.F<=v->v<X.N->X.pl v<X.pl u
 al:∀ a∈X.ats,(∀ u∈a.1,u<X.N)/\∀ r∈a.2,r.length=a.1.length
 t1:∀ v,X.F<=v->v<X.N->∀ k,X.T v k<=1/\(0<X.T v k↔∃ z,z.length=X.N/\X.bag v z/\prj X.d0 (X.K v) z=k/\0<X.W v z)
 t2:∀ v,v<X.F->∀ k,X.T v k=tot (X.E v k)/\∀ p,p∈X.E v k↔∃ z,z.length=X.N/\X.bag v z/\prj X.d0 (X.K v) z=k/\z.getD v X.d0=p.1/\p.2=X.W v z/\0<p.2
def BX.Roots(X:BX α): Prop:=(∀ v,v<X.N->X.par v = -1->0<X.T v [])/\∀ a∈X.ats,a.2≠[]
variable {X:BX α}
theorem Jmk(d0:α){y:List α}(h:j<cs.length): (prj d0 cs y).getD j d0=y.getD (cs.getD j 0) d0:=by
 simp[prj,List.getD,List.getElem?_eq_getElem h]
theorem BX.Ok.kpar(h:X.Ok)(hc:c<X.N)(hp:X.par c=v): v∈X.K c/\v<X.N/\X.pl c<X.pl v/\∀ u∈X.K c,u=v∨u∈X.K v:=by
 rcases h.k2 c hc with⟨_,i⟩|⟨p,i,h3,_⟩
 .rw[i]at hp;omega
 have:p=v:=om
 subst this;exact⟨h3,(h.k1 c hc p h3).1,(h.k1 c hc p h3).2,h.k3 c hc p hp⟩
theorem BX.bag_congr{z z':List α}(e:∀ u,u=v∨u∈X.K v->z.getD u X.d0=z'.getD u X.d0)(hb:X.bag v z): X.bag v z':=λa i=>by
 obtain⟨r,j,y⟩:=hb a i;grind
theorem BX.Ok.W_congr(h:X.Ok){z z':List α}(e:∀ u,u=v∨u∈X.K v->z.getD u X.d0=z'.getD u X.d0): X.W v z=X.W v z':=by
 refine Qbp λc j=>?_;split
 .rename_i hp;rw[Qbr λu i=>e u ((h.kpar j hp).2.2.2 u i)]
 rfl
theorem BX.Ok.choose(h:X.Ok){y:List α}(hy:y.length=X.F)(hE:∀ v,v<X.F->y.getD v X.d0∈(X.E v (prj X.d0 (X.K v) y)).map (·.1))(hR:X.Roots):
  ∀ n,n<=X.N->∃ z,z.length=X.N/\(∀ u,u<X.F->z.getD u X.d0=y.getD u X.d0)/\∀ v,v<X.N->(v<X.F∨X.N<=X.pl v+n)->X.bag v z/\0<X.W v z:=by
 intro n;induction n with
 | zero=>
  intro _;refine⟨y++List.replicate (X.N-X.F) X.d0,by have:=h.FN;simp[hy];omega,λu G=>Jrn om,λv hv J=>?_⟩;have hF:v<X.F:=J.resolve_right (by have:=h.plN v hv;omega);obtain⟨p,hp,e⟩:=List.mem_map.1 (hE v hF);obtain⟨z,hz,hb,hk,a4,hw,h0⟩:=((h.t2 v hF _).2 p).1 hp;have i:∀ u,u=v∨u∈X.K v->z.getD u X.d0=(y++List.replicate (X.N-X.F) X.d0).getD u X.d0:=by
   intro u G;have ad:u<X.F:=by
    rcases G with rfl|G
    .exact hF
    have:=h.k1 v hv u G;rcases Nat.lt_or_ge u X.F with h'|h'
    .exact h'
    have:=h.k6 v u hF h' this.1;omega
   rw[Jrn om];rcases G with rfl|G
   .rw[a4,e]
   obtain⟨j,hj,ej⟩:=List.getElem_of_mem G;have:=congrArg (λl=>l.getD j X.d0) hk;grind [Jmk,List.getD,List.getElem?_eq_getElem]
  exact⟨BX.bag_congr i hb,by rw[<-h.W_congr i,<-hw];exact h0⟩
 | succ n ih=>
  intro hn;obtain⟨z,hz,a8,hg⟩:=ih om;by_cases hv:∃ v,v<X.N/\X.F<=v/\X.pl v+(n+1)=X.N
  .obtain⟨v,D,Z,ac⟩:=hv;have hT:0<X.T v (prj X.d0 (X.K v) z):=by
    rcases h.k2 v D with⟨h1,h2⟩|⟨p,h2,h3,_⟩
    .rw[h1];exact hR.1 v D h2
    have hp:=h.kpar D h2;have:=(hg p hp.2.1 (.inr om)).2;have h5:=prodR_pos.1 this v D;grind
   obtain⟨O,a9,a7,a6,a3⟩:=(h.t1 v Z D _).2.1 hT;have aa:v<z.length:=om
   have far:∀ u,u≠v->(z.set v (O.getD v X.d0)).getD u X.d0=z.getD u X.d0:=by grind
   refine⟨z.set v (O.getD v X.d0),by simp[hz],λu G=>by grind,λu G J=>?_⟩;by_cases e:u=v
   .subst e;have i:∀ x,x=u∨x∈X.K u->O.getD x X.d0=(z.set u (O.getD u X.d0)).getD x X.d0:=by
     intro x U;by_cases ex:x=u
     .grind
     rw[far x ex];have a2:=U.resolve_left ex;obtain⟨j,hj,ej⟩:=List.getElem_of_mem a2;have:=congrArg (λl=>l.getD j X.d0) a6;grind [Jmk,List.getD,List.getElem?_eq_getElem]
    exact⟨BX.bag_congr i a7,by rw[<-h.W_congr i];exact a3⟩
   have a5:X.pl v<X.pl u:=by
    rcases J with J|J
    .exact h.k6 u v J Z D
    have:X.pl u≠X.pl v:=λe'=>e (h.inj u v G D e');omega
   have i:∀ x,x=u∨x∈X.K u->z.getD x X.d0=(z.set v (O.getD v X.d0)).getD x X.d0:=by
    intro x U;refine(far x ?_).symm;rintro rfl;rcases U with rfl|U
    .exact e rfl
    have:=(h.k1 u G x U).2;omega
   have a1:=hg u G (by grind);exact⟨BX.bag_congr i a1.1,by rw[<-h.W_congr i];exact a1.2⟩
  repeat grind
def BX.ix(X:BX α): AX α:=⟨X.d0,X.F,X.K,X.par,X.E⟩
end
def Jzt(v:Nat)(nb:Nat->Nat->Bool): Nat->Nat->Bool:=λu x=>if nb v u then(nb u x || nb v x) && (x != u) && (x != v) else nb u x
def nbAt(nb:Nat->Nat->Bool): List Nat->Nat->Nat->Bool
 | []=>nb
 | v::l=>nbAt (Jzt v nb) l
structure NbInv(l:List Nat)(nb:Nat->Nat->Bool): Prop where
 sym:∀ u x,u ∉ l->x ∉ l->nb u x=nb x u
 gone:∀ u x,u ∉ l->nb u x=true->x ∉ l/\x≠u
theorem NbInv.step{nb:Nat->Nat->Bool}(h:NbInv l nb)(hv:v ∉ l): NbInv (l++[v]) (Jzt v nb):=by
 have D:∀ {u},u ∉ l++[v]->u ∉ l/\u≠v:=by grind
 constructor
 .intro u x F i;obtain⟨j,J⟩:=D F;obtain⟨G,U⟩:=D i;have O:=h.sym u x j G;unfold Jzt;by_cases e1:nb v u=true<;>by_cases e2:nb v x=true
  .grind
  .rw[if_pos e1,if_neg e2];have b1:(x != v)=true:=bne_iff_ne.2 U;rw[Bool.not_eq_true]at e2;rw[e2,b1,Bool.or_false,Bool.and_true,<-O];cases e3:nb u x with
   | false=>rfl
   | true=>rw[bne_iff_ne.2 (h.gone u x j e3).2];rfl
  .rw[if_neg e1,if_pos e2];have b1:(u != v)=true:=bne_iff_ne.2 J;rw[Bool.not_eq_true]at e1;rw[e1,b1,Bool.or_false,Bool.and_true,O];cases e3:nb x u with
   | false=>rfl
   | true=>rw[bne_iff_ne.2 (h.gone x u G e3).2];rfl
  repeat grind
 intro u x F i;obtain⟨j,J⟩:=D F;unfold Jzt at i;rw[List.mem_append,List.mem_singleton,not_or];by_cases e1:nb v u=true
 .rw[if_pos e1]at i;simp only[Bool.and_eq_true,Bool.or_eq_true,bne_iff_ne]at i;refine⟨⟨?_,i.2⟩,i.1.2⟩;rcases i.1.1 with y|y
  .exact(h.gone u x j y).1
  exact(h.gone v x hv y).1
 rw[if_neg e1]at i;obtain⟨y,Z⟩:=h.gone u x j i;refine⟨⟨y,λe=>?_⟩,Z⟩;subst e;exact e1 ((h.sym x u y j).trans i)
theorem NbInv.at{nb:Nat->Nat->Bool}(h:NbInv [] nb): ∀ {l:List Nat},l.Nodup->NbInv l (nbAt nb l):=by
 intro l;have key:∀(l m:List Nat) (i:Nat->Nat->Bool),NbInv m i->(m++l).Nodup->NbInv (m++l) (nbAt i l):=by
  intro l;induction l with
  | nil=>intro m i h _;rw[List.append_nil];exact h
  | cons v l ih=>
   intro m i h hn;have j:v ∉ m:=by grind
   have e:m++v::l=(m++[v])++l:=by simp
   rw[e]at hn ⊢;exact ih (m++[v]) _ (h.step j) hn
 intro hn;exact key l [] nb h hn
def pre(ord:List Nat)(v:Nat): List Nat:=ord.takeWhile (· != v)
section
variable {nb:Nat->Nat->Bool} {ord:List Nat} (h0:NbInv [] nb) (hn:ord.Nodup)
end
end Pl
namespace Pl
variable {m n:Nat}{x y z:Row}{a b:V}
theorem Jtq{ds:List Bool}: ∀ {m:Nat} {x z:Row},x.take m=z.take m->m<x.length->m<z.length->cmpV (x.getD m V0) (z.getD m V0)≠0->Jk x z ds=neg (ds.getD m false) (cmpV (x.getD m V0) (z.getD m V0))
 | 0,a::x,b::z,_,_,_,h=>by grind [List.getD_cons_zero,Jk]
 | m+1,a::x,b::z,h,h1,h2,h3=>by
  simp only[List.take_succ_cons,List.cons.injEq]at h;simp only[List.getD_cons_succ]at h3 ⊢;simp only[Jk];rw[if_pos (by grind [Zg]),Jtq h.2 (by simpa using h1) (by simpa using h2) h3];simp[List.getD]
 | _,[],_,_,h,_,_=>by simp at h
 | _,_::_,[],_,_,h,_=>by simp at h
theorem Qfj{d:Bool}(h:neg d (cmpV a b)<0): cmpV a b≠0:=by
 intro e;rw[e]at h;unfold neg at h;split at h<;>omega
theorem Jtm{ds:List Bool}(h:x.take m=z.take m)(h1:m<x.length)(h2:m<z.length)(h3:neg (ds.getD m false) (cmpV (x.getD m V0) (z.getD m V0))<0): Jk x z ds<0:=by grind [Jtq,Qfj]
def SrtE(d:Bool)(l:List (V×Nat)): Prop:=l.Pairwise λp q=>neg d (cmpV p.1 q.1)<0
abbrev IX:= AX V
structure AX.Srt(X:IX)(ds:List Bool): Prop where
 d0:X.d0=V0
 srt:∀ v,v<X.F->∀ k,SrtE (ds.getD v false) (X.E v k)
theorem AX.ext_at_col{X:IX}(hx:x∈X.ext n (y++[a])): x.length=y.length+1+n/\x.take y.length=y/\x.getD y.length V0=a:=by
 obtain⟨j,i,_⟩:=(AX.ext_mem n _ x).1 hx;rw[List.length_append,List.length_singleton]at j i;refine⟨j,?_,?_⟩
 .have:=congrArg (List.take y.length) i;grind
 have:=congrArg (λl=>l.getD y.length V0) i;grind
theorem AX.Srt.ext{X:IX}{ds:List Bool}(h:X.Srt ds): ∀(n:Nat) (y:Row),y.length+n=X.F->Lt ds (X.ext n y)
 | 0,y,_=>List.pairwise_singleton _ _
 | n+1,y,e=>by
  rw[AX.ext];refine List.pairwise_flatMap.2 ⟨λp _=>h.ext n _ (by simp;omega),(h.srt y.length om _).imp fun {p q} hpq x hx z hz=>?_⟩;obtain⟨h1,h2,h3⟩:=AX.ext_at_col hx;obtain⟨h4,h5,h6⟩:=AX.ext_at_col hz;exact Jtm (m:=y.length) (by rw[h2,h5]) om om (by rw[h3,h6];exact hpq)
end Pl
namespace Pl
inductive Tr where
 | nil
 | node (l:Tr) (v:V) (x:Nat) (r:Tr)
namespace Tr
def ht: Tr->Nat
 | .nil=>0
 | .node l _ _ r=>max l.ht r.ht+1
def sz: Tr->Nat
 | .nil=>0
 | .node l _ _ r=>l.sz+1+r.sz
def toL: Tr->List (V×Nat)
 | .nil=>[]
 | .node l v x r=>l.toL++(v,x)::r.toL
def left: Tr->Tr
 | .nil=>.nil
 | .node l _ _ _=>l
def right: Tr->Tr
 | .nil=>.nil
 | .node _ _ _ r=>r
def bal(l:Tr)(v:V)(x:Nat)(r:Tr): Tr :=
 if r.ht+1<l.ht then
  match l with
  | .nil=>.node .nil v x r
  | .node ll lv lx lr=>
   if lr.ht<=ll.ht then .node ll lv lx (.node lr v x r)
   else match lr with
    | .nil=>.node (.node ll lv lx .nil) v x r
    | .node ml mv mx mr=>.node (.node ll lv lx ml) mv mx (.node mr v x r)
 else if l.ht+1<r.ht then
  match r with
  | .nil=>.node l v x .nil
  | .node rl rv rx rr=>
   if rl.ht<=rr.ht then .node (.node l v x rl) rv rx rr
   else match rl with
    | .nil=>.node l v x (.node .nil rv rx rr)
    | .node ml mv mx mr=>.node (.node l v x ml) mv mx (.node mr rv rx rr)
 else .node l v x r
theorem Jhb(l:Tr)(v:V)(x:Nat)(r:Tr): (bal l v x r).toL=l.toL++(v,x)::r.toL:=by
 unfold bal;split
 .cases l with
  | nil=>rfl
  | node ll lv lx lr=>
   simp only;split
   repeat grind [toL]
 split
 .cases r with
  | nil=>rfl
  | node rl rv rx rr=>
   simp only;split
   repeat grind [toL]
 rfl
def put(d:Bool)(v:V)(x:Nat): Tr->Tr
 | .nil=>.node .nil v x .nil
 | .node l a y r=>if neg d (cmpV v a)<0 then bal (put d v x l) a y r else if 0<neg d (cmpV v a) then bal l a y (put d v x r) else .node l v x r
theorem put_last{d:Bool}{v:V}{x:Nat}: ∀ {t:Tr},(∀ p∈t.toL,0<neg d (cmpV v p.1))->(put d v x t).toL=t.toL++[(v,x)]
 | .nil,_=>rfl
 | .node l a y r,h=>by
  have h1:=h (a,y) (by simp[toL]);have h2:=put_last (d:=d) (v:=v) (x:=x) (t:=r) (λp hp=>h p (by simp[toL,hp]));grind [put,Jhb,toL]
theorem put_first{d:Bool}{v:V}{x:Nat}: ∀ {t:Tr},(∀ p∈t.toL,neg d (cmpV v p.1)<0)->(put d v x t).toL=(v,x)::t.toL
 | .nil,_=>rfl
 | .node l a y r,h=>by
  have h1:=h (a,y) (by simp[toL]);have h2:=put_first (d:=d) (v:=v) (x:=x) (t:=l) (λp hp=>h p (by simp[toL,hp]));grind [put,Jhb,toL]
end Tr
end Pl
namespace Pl
variable {rs:List Row}{m:Nat}{k x:Row}{wt:Row->Nat}
def Zj(wt:Row->Nat)(m:Nat)(rs:List Row)(k:Row): List (V×Nat):=(rs.filter λx=>decide (x.take m=k) && decide (0<wt x)).map λx=>(x.getD m V0,wt x)
def Jyd(d:Bool)(wt:Row->Nat)(m:Nat)(bs:List (Row×Tr))(x:Row): List (Row×Tr) :=
 if wt x=0 then bs
 else if(bs.getLast?.map (·.1))=some (x.take m) then bs.dropLast++[(x.take m,Tr.put d (x.getD m V0) (wt x) ((bs.getLast?.map (·.2)).getD .nil))]
 else bs++[(x.take m,Tr.put d (x.getD m V0) (wt x) .nil)]
def Jxs(d:Bool)(l:List (V×Nat)): List (V×Nat):=if d then l.reverse else l
structure GInv(d:Bool)(wt:Row->Nat)(m:Nat)(rs:List Row)(bs:List (Row×Tr)): Prop where
 lt:Lt [] (bs.map (·.1))
 con:∀ b∈bs,b.2.toL=Jxs d (Zj wt m rs b.1)/\Zj wt m rs b.1≠[]
 all:∀ k,Zj wt m rs k≠[]->k∈bs.map (·.1)
theorem Jdb(wt:Row->Nat)(m:Nat)(rs:List Row)(x k:Row): Zj wt m (rs++[x]) k=Zj wt m rs k++if x.take m=k/\0<wt x then[(x.getD m V0,wt x)] else[]:=by grind [Zj,List.filter_cons_of_pos,List.filter_cons_of_neg]
theorem entL_mem{p:V×Nat}: p∈Zj wt m rs k↔∃ x∈rs,x.take m=k/\x.getD m V0=p.1/\wt x=p.2/\0<p.2:=by
 unfold Zj;grind
theorem entL_ne: Zj wt m rs k≠[]↔∃ x∈rs,x.take m=k/\0<wt x:=by
 constructor
 .intro h;obtain⟨p,y⟩:=List.exists_mem_of_ne_nil _ h;obtain⟨x,u,j,i,F,D⟩:=entL_mem.1 y;grind
 rintro⟨x,u,j,i⟩ e;have:=(entL_mem (p:=(x.getD m V0,wt x))).2 ⟨x,u,j,rfl,rfl,i⟩;grind
theorem Jtk: ∀(m:Nat) {x y:Row},Jk x y []<0->Jk (x.take m) (y.take m) []<=0
 | 0,x,y,_=>by simp[Jk]
 | m+1,[],[],h=>by simp[Jk]
 | m+1,[],b::y,h=>by simp[Jk]
 | m+1,a::x,[],h=>by simp[Jk]at h
 | m+1,a::x,b::y,h=>by
  simp only[Jk,List.take_succ_cons,List.drop_nil]at h ⊢;by_cases e:cmpV a b=0
  .rw[if_pos e]at h ⊢;exact Jtk m h
  repeat grind
theorem Jtn: ∀(m:Nat) {x y:Row},Jk x y []<0->x.take m=y.take m->x.length=m+1->y.length=m+1->cmpV (x.getD m V0) (y.getD m V0)<0
 | 0,[a],[b],h,_,_,_=>by
  simp only[Jk]at h;by_cases e:cmpV a b=0
  .grind
  rw[if_neg e]at h;exact h
 | m+1,a::x,b::y,h,ht,h1,h2=>by
  simp only[List.take_succ_cons,List.cons.injEq]at ht;simp only[Jk,List.drop_nil]at h;rw[if_pos (by grind [Zg])]at h;simp only[List.getD_cons_succ];exact Jtn m h ht.2 (by simpa using h1) (by simpa using h2)
theorem Jrj{α:Type}{l:List α}(h:l≠[]): ∃ i z,l=i++[z]/\l.getLast?=some z/\l.dropLast=i:=by grind [List.dropLast_concat_getLast,List.getLast?_eq_some_getLast]
theorem GInv.step{d:Bool}{bs:List (Row×Tr)}(h:GInv d wt m rs bs)(hs:Lt [] (rs++[x]))(hl:∀ y∈rs++[x],y.length=m+1): GInv d wt m (rs++[x]) (Jyd d wt m bs x):=by
 have a2:=hl x (by simp);have a4:∀ y∈rs,Jk y x []<0:=λy hy=>(List.pairwise_append.1 hs).2.2 y hy x (by simp);by_cases h0:wt x=0
 .have e:∀ k,Zj wt m (rs++[x]) k=Zj wt m rs k:=by grind [Jdb]
  rw[Jyd,if_pos h0];exact⟨h.lt,λb j=>by rw[e];exact h.con b j,λk u=>h.all k (by rw[<-e k];exact u)⟩
 have h1:0<wt x:=om
 have eo:∀ k,k≠x.take m->Zj wt m (rs++[x]) k=Zj wt m rs k:=by grind [Jdb]
 have ex:Zj wt m (rs++[x]) (x.take m)=Zj wt m rs (x.take m)++[(x.getD m V0,wt x)]:=by grind [Jdb]
 have G:∀ k∈bs.map (·.1),Jk k (x.take m) []<=0:=λk u=>by
  obtain⟨b,j,rfl⟩:=List.mem_map.1 u;obtain⟨y,hy,e,_⟩:=entL_ne.1 (h.con b j).2;grind [Jtk]
 have J:∀ p∈Zj wt m rs (x.take m),cmpV p.1 (x.getD m V0)<0:=λp O=>by
  obtain⟨y,hy,D,e2,_⟩:=entL_mem.1 O;rw[<-e2];exact Jtn m (a4 y hy) D (hl y (by simp[hy])) a2
 have F:∀ t:Tr,t.toL=Jxs d (Zj wt m rs (x.take m))->(Tr.put d (x.getD m V0) (wt x) t).toL=Jxs d (Zj wt m (rs++[x]) (x.take m)):=λt ht=>by
  rw[ex];cases d with
  | false=>
   rw[Tr.put_last,ht];· rfl
   intro p O;rw[ht]at O;have:=J p O;have:=cmp_V.anti p.1 (x.getD m V0);grind [neg]
  | true=>
   rw[Tr.put_first,ht];· simp[Jxs]
   intro p O;rw[ht]at O;have:=J p (by simpa [Jxs] using O);have:=cmp_V.anti p.1 (x.getD m V0);grind [neg]
 rw[Jyd,if_neg h0];by_cases hl2:(bs.getLast?.map (·.1))=some (x.take m)
 .rw[if_pos hl2];have Z:bs≠[]:=by grind
  obtain⟨i,z,D,e2,e3⟩:=Jrj Z;rw[e2]at hl2 ⊢;have hz:z.1=x.take m:=by simpa using hl2
  rw[e3];have a6:=h.con z (by rw[D];simp);have a3:∀ b∈i,b.1≠x.take m:=λb j e=>by
   have:=h.lt;rw[D,List.map_append]at this;have:=(List.pairwise_append.1 this).2.2 b.1 (List.mem_map_of_mem j) z.1 (by simp);grind [Yl]
  refine⟨?_,λb j=>?_,λk u=>?_⟩
  .have:=h.lt;grind
  .rcases List.mem_append.1 j with j|j
   .rw[eo _ (a3 b j)];exact h.con b (by rw[D];simp[j])
   rw[List.mem_singleton.1 j];refine⟨F _ (by grind),?_⟩;simp only;rw[ex];simp
  by_cases e:k=x.take m
  .rw[e];simp
  rw[eo k e]at u;have:=h.all k u;grind
 rw[if_neg hl2];have U:x.take m ∉ bs.map (·.1):=λu=>by
  have Z:bs≠[]:=by grind
  obtain⟨i,z,D,e2,e3⟩:=Jrj Z;rw[e2]at hl2;have hz:z.1≠x.take m:=λe=>hl2 (by simp[e]);rw[D,List.map_append,List.mem_append]at u;have h5:=h.lt;rw[D,List.map_append]at h5;rcases u with u|u
  .have h6:=(List.pairwise_append.1 h5).2.2 _ u z.1 (by simp);have h7:=G z.1 (by rw[D];simp);have:=Kl [] |>.anti (x.take m) z.1;omega
  repeat grind
 have he:Zj wt m rs (x.take m)=[]:=Classical.byContradiction λh'=>U (h.all _ h');refine⟨?_,λb j=>?_,λk u=>?_⟩
 .rw[List.map_append];refine List.pairwise_append.2 ⟨h.lt,by simp,λk u k' a1=>?_⟩;rw[List.map_singleton,List.mem_singleton]at a1;rw[a1];have h7:=G k u;have h8:Jk k (x.take m) []≠0:=λe=>U (by rw[<-(Kl []).zero _ _ e];exact u);simp only;omega
 .rcases List.mem_append.1 j with j|j
  .have a5:b.1∈bs.map (·.1):=List.mem_map_of_mem j
   rw[eo _ (λe=>U (by rw[<-e];exact a5))];exact h.con b j
  rw[List.mem_singleton.1 j];refine⟨F _ (by rw[he];cases d<;>rfl),?_⟩;grind
 by_cases e:k=x.take m
 .rw[e];simp
 rw[eo k e]at u;rw[List.map_append,List.mem_append];exact .inl (h.all k u)
theorem GInv.nil(d:Bool)(wt:Row->Nat)(m:Nat): GInv d wt m [] []:=⟨List.Pairwise.nil,λb j=>(by cases j),λk i=>absurd rfl i⟩
end Pl
open Go.RowKit Pl Go.Wk
attribute [local irreducible] WC WL QX WD WDB WP WN
variable {c:JC}{l:List Row}{Y:List Row->World->Prop}{L e p:Nat->Nat}{f h:Nat->Nat->Nat}{x z:Row}{w:World}
structure Pth(c:JC)(v:Nat)(z:Row)(p e:Nat->Nat): Prop where
 path:∀ i,i<c.m->Vd (c.F.rs i) (lv (c.vars i) v) (p i)=(pmR (c.vars i) z).take (lv (c.vars i) v)
 rng:∀ i,i<c.m->0<lv (c.vars i) v->p i<e i/\e i<=(pfx (c.F.rs i) (lv (c.vars i) v)).length
def Qqm(c:JC)(Y:List Row->World->Prop)(v:Nat)(z:Row)(p e:Nat->Nat)(f h:Nat->Nat->Nat)(l:List Row)(w:World)(u:Value)(w':World): Prop :=
 u=.bool true/\GrN c.N w w'/\∃ z' f' h' l',Cfg c Y w' z' (λi=>lv (c.vars i) v) p e f' h' l'/\z'.take v=z.take v/\(∀ i,i<c.m->∀ k,k<lv (c.vars i) v->f' i k=f i k/\h' i k=h i k)/\Lt [] l'/\∀ x,x∈l'↔x∈l∨(c.Ans x/\x.take v=z.take v)
theorem Cfg.rowV(H:Cfg c Y w z L p e f h l)(hok:JOk c): RowV w c.rowv z:=by
 have i:=H.row;have j:=hok.n32;refine⟨c.Ra,c.n,by rw[H.zl];rfl,by rw[H.zl];exact nR _,by rw[H.zl];omega,?_⟩;rw[Yw,H.zl]at i;rw[RdR,H.zl];exact Rd.own i
theorem Pth.ans(h:Pth c c.n z p e)(hok:JOk c)(hz:z.length=c.n): c.Ans z:=by
 refine⟨hz,λi hi=>?_⟩;have u:=h.path i hi;have j:=Jpf (hok.lt i hi);rw[j,List.take_of_length_le (by rw[Zk];exact nR _)]at u;rw[<-u];have G:=hok.d i hi;by_cases h0:(c.vars i).length=0
 .rw[Vd,if_pos h0];obtain⟨r,y⟩:=List.exists_mem_of_ne_nil _ (hok.ne i hi);have:=hok.len i hi r y;grind
 rw[Vd,if_neg h0];have D:=h.rng i hi om;rw[j]at D;have F:=Qcl (hok.srt i hi) (hok.len i hi);grind
theorem Qkm{n:Nat}(h1:x.length=n)(h2:z.length=n)(h:x.take n=z.take n): x=z:=by grind
theorem Qlw{NY:Nat->Prop}(hok:JOk c)(hY:YC c Y NY)(hcap:∀ l:List Row,Lt [] l->(∀ x∈l,c.Ans x)->l.length<=65536)(H:Cfg c Y w z (λi=>lv (c.vars i) c.n) p e f h l)(hP:Pth c c.n z p e)(hl:Lt [] l)(hla:∀ x∈l,c.Ans x)(hls:∀ x∈l,∀ z',c.Ans z'->z'.take c.n=z.take c.n->Jk x z' []<0):
  Ret Tryz.prog 114 [.pointer (some ⟨c.J,0,none⟩),.int .i64 (c.n:Int)] w (Qqm c Y c.n z p e f h l w):=by
 have ac:=hP.ans hok H.zl;obtain⟨st,Z⟩:=H.jb;have aa:=hok.n32;obtain⟨ad,first,ae,a1,G⟩:=hY.call;have a2:c.rowv=.slice c.Ra c.n c.n:=rfl;rw[a2,a1]at Z;refine Jz Tryz.func114 Tryz.ntmps114 rfl kr rfl ?_;refine ρ ?_;refine ld (Z.at (i:=0) rfl) ?_;refine ρ ?_;refine ct ?_ ?_
 .exact beq_t rfl
 refine ρ ?_;refine ld (Z.at (i:=2) rfl) ?_;refine ρ ?_;refine sto (p:=⟨c.J,2,none⟩) (Z.cell 2) (Z.frozen _) ?_;have a7:=Z.set 2 (.int .i64 (IntKind.i64.wrap (st+1)));have a5:GrN (λk=>k=c.J) w (w.setCell ⟨c.J,2,none⟩ (.int .i64 (IntKind.i64.wrap (st+1)))):=GrN.set _ rfl;have F:GrN c.NI w (w.setCell ⟨c.J,2,none⟩ (.int .i64 (IntKind.i64.wrap (st+1)))):=GrN.set _ (.inl rfl);refine ρ ?_;generalize w.setCell ⟨c.J,2,none⟩ (.int .i64 (IntKind.i64.wrap (st+1)))=w2 at *
 have H2:Cfg c Y w2 z (λi=>lv (c.vars i) c.n) p e f h l:=by
  refine⟨H.env.gr (F.mono λk _ U=>hok.sub k U),λi hi=>?_,Qj H.row a5 (λg eg=>H.rowJ eg),H.zl,⟨_,by rw[a2,a1];exact a7⟩,hY.keep _ _ _ H.y F⟩;obtain⟨st,O⟩:=H.its i hi;exact⟨st,Ju O a5 (hok.gj i hi)⟩
 refine drN (λ_=>False) 10 [(0,0),(0,1),(0,2),(0,3),(0,4),(0,5),(0,6),(0,7),(2,8),(2,9)] kr ?_;have D:Ext w2 w2.drew:=(Ext.refl w2).drew;have a6:=a7.ext D;have H3:=H2.ext hY D;refine ρn ?_;refine nld (Qh (a6.at (i:=3) rfl) (λe=>e)) ?_;refine ρn ?_;refine nld (Qh (a6.at (i:=0) rfl) (λe=>e)) ?_;refine ρn ?_;refine Xt ?_;have a9:Lt [] (l++[z]):=by
  refine List.pairwise_append.2 ⟨hl,List.pairwise_singleton _ _,λx hx y hy=>?_⟩;grind
 have a3:l.length<65536:=by grind
 refine clv (G l _ c.rowv z H3.y (H3.rowV hok) a3) ?_;rintro u w4 ⟨rfl,a8,j⟩;refine ρ ?_;refine Up ?_;refine Xt ?_;refine ρ ?_;have a4:GrN c.N w w4:=((F.mono λk _ U=>hok.sub k U).trans (GrN.ext D)).trans (j.mono λk _ U=>hY.sub k U);refine Jq ⟨rfl,a4,z,f,h,l++[z],⟨H.env.gr a4,λi hi=>?_,Qj H3.row j (λg eg hn=>hY.off g hn (.inr (.inr eg))),H.zl,?_,a8⟩,rfl,λi hi k U=>⟨rfl,rfl⟩,a9,λx=>?_⟩
 .obtain⟨st,O⟩:=H3.its i hi;exact⟨st,Ju O j (λhn=>hY.off _ hn (.inr (.inl ⟨i,hi,rfl⟩)))⟩
 .obtain⟨st,O⟩:=H3.jb;exact⟨st,Ju O j (λhn=>hY.off _ hn (.inl rfl))⟩
 rw[List.mem_append,List.mem_singleton];constructor
 .grind
 rintro(h'|⟨O,h2⟩)
 .exact .inl h'
 exact .inr (Qkm O.1 H.zl h2)
open Go.RowKit Pl Go.Wk
variable {a i:Nat}{e e1 p p1:Nat->Nat}{y z z2:Row}
structure LS where
 L: Nat->Nat
 p:Nat->Nat
 e:Nat->Nat
 f:Nat->Nat->Nat
 h:Nat->Nat->Nat
def LS.upd(S:LS)(i L p e:Nat)(f h:Nat->Nat): LS:=⟨Wk.upd S.L i L,Wk.upd S.p i p,Wk.upd S.e i e,Wk.upd S.f i f,Wk.upd S.h i h⟩
theorem Cfg.congr{c:JC}{Y:List Row->World->Prop}{w:World}{L L' p' e':Nat->Nat}{f h f' h':Nat->Nat->Nat}{l:List Row}(H:Cfg c Y w z L p e f h l)(h1:∀ i,i<c.m->L' i=L i/\p' i=p i/\e' i=e i/\f' i=f i/\h' i=h i): Cfg c Y w z L' p' e' f' h' l :=
 ⟨H.env,λi hi=>by obtain⟨G,F,D,u,j⟩:=h1 i hi;rw[G,F,D,u,j];exact H.its i hi,H.row,H.zl,H.jb,H.y⟩
def JC.vl(c:JC)(v i a:Nat): V:=(lvl (c.F.rs i) (lv (c.vars i) v)).getD a V0
structure Sib(c:JC)(v:Nat)(z:Row)(lo hi:Nat->Nat): Prop where
 lt:∀ i∈c.I v,lo i<hi i/\hi i<=(pfx (c.F.rs i) (lv (c.vars i) v+1)).length
 ch:∀ i∈c.I v,∀ a,a<(pfx (c.F.rs i) (lv (c.vars i) v+1)).length->(((pfx (c.F.rs i) (lv (c.vars i) v+1)).getD a []).take (lv (c.vars i) v)=(pmR (c.vars i) z).take (lv (c.vars i) v)↔lo i<=a/\a<hi i)
section
variable {c:JC} {v:Nat} {z:Row} {lo hi:Nat->Nat}
theorem JOk.lvd(hok:JOk c)(hi:i∈c.I v): lv (c.vars i) v+1<=c.F.d i:=by
 obtain⟨j,u⟩:=JC.mem_I.1 hi;rw[hok.d i j];exact(Vh (hok.asc i j) u).2.1
theorem Sib.node(hok:JOk c)(hS:Sib c v z lo hi)(him:i∈c.I v)(h1:lo i<=a)(h2:a<hi i): (pfx (c.F.rs i) (lv (c.vars i) v+1)).getD a []=(pmR (c.vars i) z).take (lv (c.vars i) v)++[c.vl v i a]:=by
 obtain⟨j,D⟩:=JC.mem_I.1 him;have y:=hS.lt i him;have u:a<(pfx (c.F.rs i) (lv (c.vars i) v+1)).length:=om
 have J:=(hS.ch i him a u).2 ⟨h1,h2⟩;have G:=Qck (Yo (hok.srt i j)) (hok.len i j) (hok.lvd him) (getD_mem' [] _ u);rw[Qkl G J,JC.vl,Qgf u]
theorem Sib.srt(hok:JOk c)(hS:Sib c v z lo hi){i a b:Nat}(him:i∈c.I v)(h1:lo i<=a)(h2:a<b)(h3:b<hi i): cmpV (c.vl v i a) (c.vl v i b)<0:=by
 obtain⟨j,F⟩:=JC.mem_I.1 him;have D:=hS.lt i him;have u:=(Jqs (Yo (hok.srt i j)) (lv (c.vars i) v+1)).1.at h2 om;rw[hS.node hok him h1 om,hS.node hok him om h3]at u;have key:∀(y:Row) (a b:V),Jk (y++[a]) (y++[b]) []<0->cmpV a b<0:=λy a b=>by
  induction y with
  | nil=>
   intro h;simp only[List.nil_append,Jk]at h;by_cases e:cmpV a b=0
   .grind
   rw[if_neg e]at h;exact h
  | cons x y ih=>
   grind [Jk,Zg]
 exact key _ _ _ u
theorem Sib.ans(hok:JOk c)(hS:Sib c v z lo hi)(hy:c.Ans y)(ht:y.take v=z.take v)(him:i∈c.I v): ∃ a,lo i<=a/\a<hi i/\c.vl v i a=y.getD v V0:=by
 obtain⟨j,D⟩:=JC.mem_I.1 him;have G:=(Jqt (Yo (hok.srt i j)) (l:=lv (c.vars i) v+1)).2 ⟨_,hy.2 i j,rfl⟩;obtain⟨a,J,U⟩:=List.getElem_of_mem G;rw[Jmm (hok.asc i j) D,Jbj (hok.asc i j) ht]at U;have O:(pfx (c.F.rs i) (lv (c.vars i) v+1)).getD a []=(pmR (c.vars i) z).take (lv (c.vars i) v)++[y.getD v V0]:=by grind
 have Z:((pmR (c.vars i) z).take (lv (c.vars i) v)).length=lv (c.vars i) v:=by grind [List.length_take,Zk,Jpc]
 have u:=(hS.ch i him a J).1 (by grind);refine⟨a,u.1,u.2,?_⟩;have:=hS.node hok him u.1 u.2;grind [List.append_cancel_left]
theorem Pth.step(hok:JOk c)(hP:Pth c v z p e)(hS:Sib c v z lo hi)(hv:v<z.length){x:V}(h1:∀ i∈c.I v,lo i<=p1 i/\p1 i<hi i/\c.vl v i (p1 i)=x)(hz2:z2.take v=z.take v)(hz3:z2.getD v V0=x)(h2:∀ i,i<c.m->i ∉ c.I v->p1 i=p i/\e1 i=e i)(h3:∀ i∈c.I v,e1 i=hi i): Pth c (v+1) z2 p1 e1:=by
 refine⟨λi j=>?_,λi j h0=>?_⟩
 .by_cases him:i∈c.I v
  .obtain⟨u,y⟩:=JC.mem_I.1 him;have F:=h1 i him;rw[(Vh (hok.asc i u) y).1,Jmm (hok.asc i u) y,Jbj (hok.asc i u) hz2,hz3,Vd,if_neg om,hS.node hok him F.1 F.2.1,F.2.2]
  have D:v ∉ c.vars i:=λG=>him (JC.mem_I.2 ⟨j,G⟩);rw[Kv D,(h2 i j him).1,hP.path i j,Jbj (hok.asc i j) hz2]
 by_cases him:i∈c.I v
 .obtain⟨u,y⟩:=JC.mem_I.1 him;have F:=h1 i him;rw[(Vh (hok.asc i u) y).1,h3 i him];exact⟨F.2.1,(hS.lt i him).2⟩
 have D:v ∉ c.vars i:=λG=>him (JC.mem_I.2 ⟨j,G⟩);rw[Kv D]at h0 ⊢;rw[(h2 i j him).1,(h2 i j him).2];exact hP.rng i j h0
end
open Go.RowKit Pl Go.Wk
structure ES where
 t: Bool
 z:Row
 p:Nat->Nat
 f:Nat->Nat->Nat
 h:Nat->Nat->Nat
 l:List Row
theorem Ij{α:Type}(f:Nat->α)(i:Nat): upd f i (f i)=f:=by
 funext k;unfold upd;split
 repeat grind
theorem Qlx{c:JC}{Y:List Row->World->Prop}{NY:Nat->Prop}(hok:JOk c)(hY:YC c Y NY)(hcap:∀ l:List Row,Lt [] l->(∀ x∈l,c.Ans x)->l.length<=65536): ∀(k v:Nat) (z:Row) (p e:Nat->Nat) (f h:Nat->Nat->Nat) (l:List Row) (w:World),v+k=c.n ->
  Cfg c Y w z (λi=>lv (c.vars i) v) p e f h l->Pth c v z p e->Lt [] l->(∀ x∈l,c.Ans x)->(∀ x∈l,∀ z',c.Ans z'->z'.take v=z.take v->Jk x z' []<0) ->
  Ret Tryz.prog 114 [.pointer (some ⟨c.J,0,none⟩),.int .i64 (v:Int)] w (Qqm c Y v z p e f h l w):=by
 intro k;induction k with
 | zero=>
  intro v z p e f h l w dk H hP hl c2 c1;have:v=c.n:=om
  subst this;exact Qlw hok hY hcap H hP hl c2 c1
 | succ k ih=>
 intro v z p e f h l w dk H hP hl c2 c1;have hv:v<c.n:=om
 have dh:v<z.length:=by rw[H.zl];exact hv
 have ec:=hok.n32;obtain⟨B,cc,dn,d3⟩:=H.env.at_;obtain⟨B2,ak,ca,hlist⟩:=H.env.lists v hv;have d8:(c.I v).length<=32:=nL (c.len_I v) hok.m32;have ai:0<(c.I v).length:=by
  obtain⟨i,h1,h2⟩:=hok.cov v hv;exact List.length_pos_of_mem (JC.mem_I.2 ⟨h1,h2⟩)
 have D:(c.I v).getD 0 0∈c.I v:=getD_mem' 0 _ ai;have b7:c.rowv=.slice c.Ra c.n c.n:=rfl;have a4:∀ k,c.NI k->c.N k:=hok.sub;refine Jz Tryz.func114 Tryz.ntmps114 rfl kr rfl ?_;refine ρ ?_;obtain⟨st,hJ⟩:=H.jb;rw[b7,dn]at hJ;refine ld (hJ.at (i:=0) rfl) ?_;refine ρ ?_;refine cf ?_ ?_
 .exact Qjs om
 refine ρ ?_;refine ld (hJ.at (i:=1) rfl) ?_;refine ρ ?_;refine ix v d3.here hv ?_;refine ρ ?_;have d2:w.cell? (adr B v)=some (.slice B2 (c.I v).length ak):=d3.here.cell (by simp[hv,ca]);refine ld d2 ?_;clear hJ d2;refine ρ ?_;refine Qw (fun (q:Nat) (S:LS)=>[(0,.pointer (some ⟨c.J,0,none⟩)),(1,.int .i64 (v:Int)),(5,.slice B2 (c.I v).length ak),(42,.slice B2 (c.I v).length ak),(43,.int .i64 ((c.I v).length:Int)),(44,.int .i64 (q:Int))])
  (λq S w'=>q<=(c.I v).length/\GrN c.N w w'/\Cfg c Y w' z S.L S.p S.e S.f S.h l /\
   (∀ i∈(c.I v).take q,S.L i=lv (c.vars i) v+1/\S.p i<S.e i/\S.e i<=(pfx (c.F.rs i) (lv (c.vars i) v+1)).length/\(∀ a,a<(pfx (c.F.rs i) (lv (c.vars i) v+1)).length->(((pfx (c.F.rs i) (lv (c.vars i) v+1)).getD a []).take (lv (c.vars i) v)=(pmR (c.vars i) z).take (lv (c.vars i) v)↔S.p i<=a/\a<S.e i))/\S.f i=upd (f i) (lv (c.vars i) v) (p i)/\S.h i=upd (h i) (lv (c.vars i) v) (e i)) /\
   (∀ i,i<c.m->i ∉ (c.I v).take q->S.L i=lv (c.vars i) v/\S.p i=p i/\S.e i=e i/\S.f i=f i/\S.h i=h i)) (λq _=>(c.I v).length-q) 0 ⟨λi=>lv (c.vars i) v,p,e,f,h⟩ sB
  ⟨Nat.zero_le _,GrN.refl _ _,H,λi hi=>by simp at hi,λi _ _=>⟨rfl,rfl,rfl,rfl,rfl⟩⟩ ?_
 rintro q S w1 ⟨hq,az,H1,a1,ad⟩;refine ρ ?_;refine ci (λh1=>?_) (λh1=>?_)
 .have lq:q<(c.I v).length:=by have:=oT h1;omega
  clear h1;have d6:=hlist w1 az;refine ρ ?_;refine ix q d6 lq ?_;refine ρ ?_;refine ld (d6.cell (Ig lq)) ?_;refine ρ ?_;obtain⟨i,hi⟩:∃ i,i=(c.I v).getD q 0:=⟨_,rfl⟩;rw[<-hi];have Z:i∈c.I v:=by rw[hi];exact getD_mem' 0 _ lq
  obtain⟨U,cn⟩:=JC.mem_I.1 Z;have a7:(c.I v).take (q+1)=(c.I v).take q++[i]:=by rw[Xy 0 lq,hi]
  have bw:i ∉ (c.I v).take q:=λhm=>by
   have h1:((c.I v).take (q+1)).Nodup:=(c.nodup_I v).sublist (List.take_sublist _ _);rw[a7,List.nodup_append]at h1;exact h1.2.2 _ hm _ (List.mem_singleton.2 rfl) rfl
  obtain⟨e1,e2,e3,e4,e5⟩:=ad i U bw;obtain⟨dc,b4⟩:=H1.its i U;rw[e1,e2,e3,e4,e5]at b4;have dt:Off (λk=>k=c.F.G i) w1 (λu=>TriA u (c.F.A i) (c.F.d i) (c.F.rs i)):=(H1.env.tri i U).mono λj _ ej=>a4 j (.inr (.inl ⟨i,U,ej⟩));have ee:=hok.big i U;refine cl (Qht b4 dt (hok.lvd Z) (hok.d32 i U) (hP.rng i U) (hok.ne i U) (Yo (hok.srt i U)) om (hok.len i U)) ?_;rintro u w2 ⟨rfl,a8,lo,dq,h2,h3,h4,e7⟩;have H2:=H1.it hok hY U a8 e7;refine ρ ?_;refine Ja (q+1) (S.upd i (lv (c.vars i) v+1) lo dq (upd (f i) (lv (c.vars i) v) (p i)) (upd (h i) (lv (c.vars i) v) (e i))) sO ⟨om,az.trans (a8.mono λj _ ej=>a4 j (.inr (.inl ⟨i,U,ej⟩))),H2,λj hj=>?_,λj hj af=>?_⟩ om
  .rw[a7,List.mem_append,List.mem_singleton]at hj;by_cases ej:j=i
   .subst ej;simp only[LS.upd,Qy];rw[<-hP.path j U];exact⟨trivial,h2,h3,h4,trivial,trivial⟩
   simp only[LS.upd,Jp _ _ ej];exact a1 j (hj.resolve_right ej)
  rw[a7,List.mem_append,List.mem_singleton,not_or]at af;simp only[LS.upd,Jp _ _ af.2];exact ad j hj af.1
 have eq:q=(c.I v).length:=by have:=oF h1;omega
 clear h1;rw[eq,List.take_of_length_le (nR _)]at a1 ad;have hS:Sib c v z S.p S.e:=⟨λi hi=>⟨(a1 i hi).2.1,(a1 i hi).2.2.1⟩,λi hi=>(a1 i hi).2.2.2.1⟩;obtain⟨lo,ck⟩:∃ lo,lo=S.p:=⟨_,rfl⟩;have a6:Sib c v z lo S.e:=by rw[ck];exact hS
 have a3:∀(f' h':Nat->Nat->Nat),∀ i∈c.I v,∀ a,c.F.val ⟨S.L,lo,S.e,f',h'⟩ i a=c.vl v i a:=λf' h' i hi a=>by
  unfold Fix.val JC.vl;simp only;rw[(a1 i hi).1,Nat.add_sub_cancel]
 have bb:∀(f' h':Nat->Nat->Nat),OnS c.F ⟨S.L,lo,S.e,f',h'⟩ (c.I v):=λf' h'=>by
  refine⟨λi hi=>?_,λi hi=>?_,λi hi a b h1 h2 h3=>?_,λi hi j hj e'=>hok.inj i j (JC.mem_I.1 hi).1 (JC.mem_I.1 hj).1 e',d8⟩
  .simp only;rw[(a1 i hi).1];exact⟨om,hok.lvd hi,hok.d32 i (JC.mem_I.1 hi).1⟩
  .simp only;rw[(a1 i hi).1,Nat.add_sub_cancel,Jjd];have h1:=(a1 i hi).2.2.1;have h2:=Jxv ((c.F.rs i).map (List.take (lv (c.vars i) v+1)));rw[List.length_map]at h2;have h3:(pfx (c.F.rs i) (lv (c.vars i) v+1)).length<=(c.F.rs i).length:=h2;have h4:=hok.big i (JC.mem_I.1 hi).1;exact⟨h1,om⟩
  rw[a3 f' h' i hi,a3 f' h' i hi];exact a6.srt hok hi h1 h2 h3
 have aa:∀ k,NG c.F (c.I v) c.J k->c.N k:=λk hk=>by
  rcases hk with hk|⟨i,hi,hk⟩
  .exact a4 k (.inl hk)
  exact a4 k (.inr (.inl ⟨i,(JC.mem_I.1 hi).1,hk⟩))
 have ef:∀ k,NG c.F (c.I v) c.J k->c.NI k:=λk hk=>by
  rcases hk with hk|⟨i,hi,hk⟩
  .exact .inl hk
  exact .inr (.inl ⟨i,(JC.mem_I.1 hi).1,hk⟩)
 have ba:∀ i,i<c.m->S.L i=lv (c.vars i) (v+1):=λi hi=>by
  by_cases Z:i∈c.I v
  .rw[(a1 i Z).1,(Vh (hok.asc i hi) (JC.mem_I.1 Z).2).1]
  rw[(ad i hi Z).1,Kv (λh'=>Z (JC.mem_I.2 ⟨hi,h'⟩))]
 have ds:∀ i∈c.I v,S.e i<=1000000:=λi hi=>((bb S.f S.h).rng i hi).2;have co:∀ i∈c.I v,c.F.G i≠c.J:=λi hi=>hok.gj i (JC.mem_I.1 hi).1;have au:∀ y,c.Ans y->y.take v=z.take v->∀ i∈c.I v,∃ a,lo i<=a/\a<S.e i/\c.vl v i a=y.getD v V0:=λy hy ht i hi=>a6.ans hok hy ht hi;have an:∀(f' h':Nat->Nat->Nat) y,c.Ans y->y.take v=z.take v->Cmn c.F ⟨S.L,lo,S.e,f',h'⟩ (c.I v) (y.getD v V0):=λf' h' y hy ht i hi=>by
  obtain⟨a,h1,h2,h3⟩:=au y hy ht i hi;exact⟨a,h1,h2,by rw[a3 f' h' i hi];exact h3⟩
 refine ρ ?_;refine cl (Jnr (F:=c.F) (V':=⟨S.L,lo,S.e,S.f,S.h⟩) (I:=c.I v) (J:=c.J) (p:=lo) (jr:=c.rowv) (ja:=c.ja) (yv:=c.yv) (B:=B2) (c:=ak) (bb _ _) ai (c.nodup_I v) (λi hi=>by rw[ck];exact H1.its i (JC.mem_I.1 hi).1) H1.jb co (λi hi=>(H1.env.tri i (JC.mem_I.1 hi).1).mono λk _ hk=>aa k hk) ((hlist.gr az).mono λk _ hk=>aa k hk)
  (λi hi=>⟨nR _,(a6.lt i hi).1⟩) (λi hi a h1 h2=>absurd h2 (by simp only at h1;omega))) ?_
 rintro u w2 ⟨a8,b2,p2,t,rfl,b3,ch,ht,hf⟩;have H2:=H1.mt hok hY a8 b2 (p':=p2) b3;have cd:∀ f' h',c.F.val ⟨S.L,lo,S.e,f',h'⟩ ((c.I v).getD 0 0) (lo ((c.I v).getD 0 0))=c.vl v ((c.I v).getD 0 0) (lo ((c.I v).getD 0 0)):=λf' h'=>a3 f' h' _ D _;have bj:∀ y,c.Ans y->y.take v=z.take v->cmpV (c.vl v ((c.I v).getD 0 0) (lo ((c.I v).getD 0 0))) (y.getD v V0)<=0:=λy hy ht=>by
  obtain⟨a,h1,h2,h3⟩:=au y hy ht _ D;rw[<-h3];by_cases e:a=lo ((c.I v).getD 0 0)
  .rw[e,Zg];omega
  have:=a6.srt hok D (nR _) (show lo ((c.I v).getD 0 0)<a by omega) h2;omega
 refine ρ ?_;refine Jl (fun (s:ES)=>[(0,.pointer (some ⟨c.J,0,none⟩)),(1,.int .i64 (v:Int)),(5,.slice B2 (c.I v).length ak),(8,.bool true),(9,.bool s.t)])
  (λs w'=>GrN c.N w w'/\Cfg c Y w' s.z S.L s.p S.e s.f s.h s.l/\s.z.take v=z.take v/\(∀ i,i<c.m->i ∉ c.I v->s.p i=p i)/\(∀ i,i<c.m->∀ k,k<S.L i->s.f i k=S.f i k/\s.h i k=S.h i k)/\Lt [] s.l/\(∀ x∈s.l,c.Ans x) /\
   (s.t=true->∃ x,(∀ i∈c.I v,lo i<=s.p i/\s.p i<S.e i/\c.vl v i (s.p i)=x)/\∀ y,y∈s.l↔y∈l∨(c.Ans y/\y.take v=z.take v/\cmpV (y.getD v V0) x<0)) /\
   (s.t=false->∀ y,y∈s.l↔y∈l∨(c.Ans y/\y.take v=z.take v))) (λs=>if s.t then S.e ((c.I v).getD 0 0)-s.p ((c.I v).getD 0 0) else 0) ⟨t,z,λi=>if i∈c.I v then p2 i else S.p i,S.f,S.h,l⟩ sB
  ⟨az.trans (a8.mono λk _ hk=>aa k hk),H2,rfl,λi hi a5=>?_,λi hi k hk=>⟨rfl,rfl⟩,hl,c2,λe=>?_,λe y=>?_⟩ ?_
 .simp only[if_neg a5];exact(ad i hi a5).2.1
 .obtain⟨x,ae,bt,dg⟩:=ht e;refine⟨x,λi hi=>?_,λy=>⟨.inl,λhy=>?_⟩⟩
  .simp only[if_pos hi];refine⟨(ch i hi).1,(ae i hi).1,?_⟩;rw[<-a3 S.f S.h i hi];exact(ae i hi).2
  rcases hy with hy|⟨h1,h2,h3⟩
  .exact hy
  exfalso
  have h4:=dg _ (an S.f S.h y h1 h2) (by rw[cd];exact bj y h1 h2);have:=cmp_V.anti x (y.getD v V0);omega
 .refine⟨.inl,λhy=>?_⟩;rcases hy with hy|⟨h1,h2⟩
  .exact hy
  exact absurd (show cmpV _ _<=0 by rw[cd];exact bj y h1 h2) (hf e _ (an S.f S.h y h1 h2))
 clear b3 ch ht hf H2 b2 a8 H1 az;rintro s w2 ⟨a8,H2,c9,b8,c4,bi,bm,ce,d0⟩;refine ρ ?_;refine ci (λh1=>?_) (λh1=>?_)
 .obtain⟨x,ae,bt⟩:=ce h1;have a9:=ae _ D;have eb:=a9.1;have ea:=a9.2.1;obtain⟨eg,b2⟩:=H2.jb;rw[b7]at b2;refine ρ ?_;refine drN (λk=>c.rowv.ownBlock=some k) 14 [(0,0),(0,1),(0,2),(0,3),(0,4),(0,5),(0,6),(0,7),(1,8),(0,9),(0,10),(0,11),(0,12),(1,13)] kr ?_;have b6:Ext w2 w2.drew:=(Ext.refl w2).drew;have dx:=b2.ext b6;have H3:=H2.ext hY b6;have da:=(hlist.gr a8).ext b6;obtain⟨ei,e6⟩:=H3.its _ (JC.mem_I.1 D).1;refine ρn ?_;refine nld (Qh (dx.at (i:=0) rfl) (λe=>H2.rowJ e rfl)) ?_;refine ρn ?_;refine nix 0 da.here ai ?_;refine ρn ?_;refine nld (λw' hg=>(da w' (hg.mono λk _ ek=>a4 k (.inr (.inr ek)))).cell (Ig ai)) ?_;refine ρn ?_;refine nop ?_;refine cl (Jcd e6 (H3.env.tri _ (JC.mem_I.1 D).1).here (by rw[(a1 _ D).1];exact hok.lvd D) (hok.d32 _ (JC.mem_I.1 D).1) (λ_=>((bb s.f s.h).rng _ D).1)) ?_;rintro u w4 ⟨bs,vv,rfl,dj⟩;have di:vv=x:=by
   rw[dj ⟨by rw[(a1 _ D).1];omega,a9.2.1⟩,<-a9.2.2,JC.vl,(a1 _ D).1,Nat.add_sub_cancel]
  subst di;refine ρ ?_;refine Ql (GrN.ext bs) ?_;have H4:=H3.ext hY bs;have ar:w4.ownsRow c.base 75 3 (.slice c.Ra c.n c.n) c.n (Jr s.z):=by
   have:=H4.row;rw[Yw,H4.zl,b7]at this;exact this
  refine ρn ?_;refine Vu 3 v (Rd.own ar) hv ?_;refine ρn ?_;refine nop ?_;refine stoE (cs:=vv.cells) ar hv ?_ (V.one _);intro w5 bv cv;refine ω5 ?_;refine Ql (GrN.by cv λk ek=>ek) ?_;refine ρn ?_;have bg:v<s.z.length:=by rw[H2.zl];exact hv
  rw[<-Jyx s.z v vv bg]at bv;have ax:w4.grownBy w5 c.rowv.ownBlock:=cv;have ay:GrN c.NI w4 w5:=GrN.by ax λk ek=>.inr (.inr ek)
  obtain⟨z2,be⟩:∃ z2,z2=s.z.set v vv:=⟨_,rfl⟩;rw[<-be]at bv;have aq:z2.length=c.n:=by rw[be,List.length_set];exact H2.zl
  have am:z2.take v=z.take v:=by rw[be,Qwp];exact c9
  have ap:z2.getD v V0=vv:=by rw[be];exact Qwq vv bg
  have H5:Cfg c Y w5 z2 S.L s.p S.e s.f s.h s.l:=by
   refine⟨H4.env.gr (ay.mono λk _ hk=>a4 k hk),λi hi=>?_,by rw[Yw,aq,b7];exact bv,aq,?_,hY.keep _ _ _ H4.y ay⟩
   .obtain⟨st,h1⟩:=H4.its i hi;exact⟨st,h1.grown ax (λe=>H4.rowG hi e.symm rfl)⟩
   obtain⟨st,h1⟩:=H4.jb;exact⟨st,h1.grown ax (λe=>H4.rowJ e.symm rfl)⟩
  have bn:GrN c.N w2 w5:=(GrN.ext (b6.trans bs)).trans (ay.mono λk _ hk=>a4 k hk);refine ρ ?_;have du:Pth c (v+1) z2 s.p S.e:=Pth.step hok hP a6 dh ae am ap (λi hi a5=>⟨b8 i hi a5,(ad i hi a5).2.2.1⟩) (λi _=>rfl);have a7:∀ y:Row,c.Ans y->(y.take (v+1)=z2.take (v+1)↔y.take v=z.take v/\y.getD v V0=vv):=λy hy=>by
   have de:v<y.length:=by rw[hy.1];exact hv
   have bq:v<z2.length:=by rw[aq];exact hv
   constructor
   .intro h;have h5:=Jhc h (Nat.le_succ v);refine⟨h5.trans am,?_⟩;rw[<-ap];exact Jhd h (Nat.lt_succ_self v)
   rintro⟨h5,h6⟩;exact Qkk (h5.trans am.symm) de bq (h6.trans ap.symm)
  refine cl (ih (v+1) z2 s.p S.e s.f s.h s.l w5 om (H5.congr λi hi=>⟨(ba i hi).symm,rfl,rfl,rfl,rfl⟩) du bi bm (λy hy z' br ht=>?_)) ?_
  .obtain⟨h5,h6⟩:=(a7 z' br).1 ht;rcases(bt y).1 hy with h7|⟨h7,h8,h9⟩
   .exact c1 y h7 z' br h5
   exact Jtr v y z' (h8.trans h5.symm) (by rw[h7.1];exact hv) (by rw[br.1];exact hv) (by rw[h6];exact h9)
  rintro u w6 ⟨rfl,cu,z6,f6,h6,l6,H6,dd,cz,bh,cm⟩;have db:Cfg c Y w6 z6 S.L s.p S.e f6 h6 l6:=H6.congr λi hi=>⟨ba i hi,rfl,rfl,rfl,rfl⟩;have bf:z6.take v=z.take v:=(Jhc dd (Nat.le_succ v)).trans am;have bl:∀ y∈l6,c.Ans y:=λy hy=>by
   rcases(cm y).1 hy with h7|h7
   .exact bm y h7
   exact h7.1
  have av:∀ y,y∈l6↔y∈l∨(c.Ans y/\y.take v=z.take v/\cmpV (y.getD v V0) vv<=0):=λy=>by
   rw[cm,bt];constructor
   .rintro((h7|⟨h7,h8,h9⟩)|⟨h7,h8⟩)
    .exact .inl h7
    .exact .inr ⟨h7,h8,om⟩
    obtain⟨h9,O⟩:=(a7 y h7).1 h8;exact .inr ⟨h7,h9,by rw[O,Zg];omega⟩
   rintro(h7|⟨h7,h8,h9⟩)
   .exact .inl (.inl h7)
   by_cases e:cmpV (y.getD v V0) vv=0
   .exact .inr ⟨h7,(a7 y h7).2 ⟨h8,cmp_V.zero _ _ e⟩⟩
   exact .inl (.inr ⟨h7,h8,om⟩)
  have bo:∀ i,i<c.m->∀ k,k<S.L i->f6 i k=S.f i k/\h6 i k=S.h i k:=λi hi k hk=>by
   have h7:=cz i hi k (by rw[<-ba i hi];exact hk);have h8:=c4 i hi k hk;exact⟨h7.1.trans h8.1,h7.2.trans h8.2⟩
  refine ρ ?_;obtain⟨eh,e0⟩:=db.its _ (JC.mem_I.1 D).1;have d9:=hlist.gr (a8.trans (bn.trans cu));refine ix 0 d9.here ai ?_;refine ρ ?_;refine ld (d9.here.cell (Ig ai)) ?_;refine ρ ?_;refine cl (Qhv e0 (by rw[(a1 _ D).1];omega) a9.2.1 (ds _ D)) ?_;rintro u w7 ⟨rfl,cr,dz⟩;have cq:GrN c.N w6 w7:=cr.mono λk _ ek=>a4 k (.inr (.inl ⟨_,(JC.mem_I.1 D).1,ek⟩));have H7:=db.it hok hY (JC.mem_I.1 D).1 cr dz;have ao:Cfg c Y w7 z6 S.L (upd s.p ((c.I v).getD 0 0) (s.p ((c.I v).getD 0 0)+1)) S.e f6 h6 l6:=by
   rw[Ij,Ij,Ij,Ij]at H7;exact H7
  obtain⟨p7,c8⟩:∃ p7,p7=upd s.p ((c.I v).getD 0 0) (s.p ((c.I v).getD 0 0)+1):=⟨_,rfl⟩;rw[<-c8]at ao;have bp:p7 ((c.I v).getD 0 0)=s.p ((c.I v).getD 0 0)+1:=by rw[c8,Qy]
  have b5:∀ i,i≠(c.I v).getD 0 0->p7 i=s.p i:=λi hi=>by rw[c8,Jp _ _ hi]
  have aw:GrN c.N w w7:=(a8.trans bn).trans (cu.trans cq);have ac:∀ y,c.Ans y->y.take v=z.take v->¬ cmpV (y.getD v V0) vv<=0->∃ a,s.p ((c.I v).getD 0 0)+1<=a/\a<S.e ((c.I v).getD 0 0)/\c.vl v ((c.I v).getD 0 0) a=y.getD v V0:=λy hy ht ah=>by
   obtain⟨a,h7,h8,h9⟩:=au y hy ht _ D;refine⟨a,?_,h8,h9⟩;rcases Nat.lt_trichotomy a (s.p ((c.I v).getD 0 0)) with O|O|O
   .have:=a6.srt hok D h7 O a9.2.1;rw[a9.2.2,h9]at this;omega
   .rw[O,a9.2.2]at h9;rw[<-h9,Zg]at ah;omega
   omega
  refine ρ ?_;refine ki 59 (λh5=>?_) (λh5=>?_)
  .have c0:s.p ((c.I v).getD 0 0)+1<S.e ((c.I v).getD 0 0):=oT h5;clear h5;have cj:cmpV vv (c.vl v ((c.I v).getD 0 0) (s.p ((c.I v).getD 0 0)+1))<0:=by
    have:=a6.srt hok D a9.1 (Nat.lt_succ_self _) c0;rw[a9.2.2]at this;exact this
   have cb:c.F.val ⟨S.L,lo,S.e,f6,h6⟩ ((c.I v).getD 0 0) (p7 ((c.I v).getD 0 0))=c.vl v ((c.I v).getD 0 0) (s.p ((c.I v).getD 0 0)+1):=by rw[bp];exact a3 f6 h6 _ D _
   refine ρ ?_;refine cl (Jnr (F:=c.F) (V':=⟨S.L,lo,S.e,f6,h6⟩) (I:=c.I v) (J:=c.J) (p:=p7) (jr:=c.rowv) (ja:=c.ja) (yv:=c.yv) (B:=B2) (c:=ak) (bb _ _) ai (c.nodup_I v) (λi hi=>ao.its i (JC.mem_I.1 hi).1) ao.jb co (λi hi=>(ao.env.tri i (JC.mem_I.1 hi).1).mono λk _ hk=>aa k hk) ((hlist.gr aw).mono λk _ hk=>aa k hk)
    (λi hi=>?_) (λi hi a h7 h8=>?_)) ?_
   .have h9:=ae i hi;by_cases e:i=(c.I v).getD 0 0
    .rw[e,bp];simp only;omega
    rw[b5 i e];simp only;omega
   .rw[cb,a3 f6 h6 i hi];have h9:=ae i hi;simp only at h7;by_cases e:i=(c.I v).getD 0 0
    .rw[e]at h7 h8 ⊢;rw[bp]at h8;exact a6.srt hok D h7 h8 c0
    rw[b5 i e]at h8;have O:=a6.srt hok hi h7 h8 h9.2.1;rw[h9.2.2]at O;exact cmp_V.lt_trans O cj
   rintro u w8 ⟨cp,dw,p8,t8,rfl,c6,cg,bu,d1⟩;have H8:=ao.mt hok hY cp dw (p':=p8) c6;rw[cb]at bu d1;refine ρ ?_;have bz:t8=true->s.p ((c.I v).getD 0 0)<p8 ((c.I v).getD 0 0)/\p8 ((c.I v).getD 0 0)<S.e ((c.I v).getD 0 0):=λe=>by
    obtain⟨x',h7,h8,h9⟩:=bu e;have O:=h7 _ D;rw[a3 f6 h6 _ D]at O;refine⟨?_,O.1⟩;rcases Nat.lt_or_ge (s.p ((c.I v).getD 0 0)) (p8 ((c.I v).getD 0 0)) with a2|a2
    .exact a2
    exfalso
    have aj:=(cg _ D).1;simp only at aj;have c7:cmpV x' (c.vl v ((c.I v).getD 0 0) (s.p ((c.I v).getD 0 0)+1))<0:=by
     rw[<-O.2];exact a6.srt hok D aj om c0
    have:=cmp_V.anti x' (c.vl v ((c.I v).getD 0 0) (s.p ((c.I v).getD 0 0)+1));omega
   refine Jf ⟨t8,z6,λi=>if i∈c.I v then p8 i else p7 i,f6,h6,l6⟩ sB
    ⟨aw.trans (cp.mono λk _ hk=>aa k hk),H8,bf,λi hi a5=>?_,bo,bh,bl,λe=>?_,λe y=>?_⟩ ?_
   .simp only[if_neg a5];rw[b5 i (λe=>a5 (e ▸ D))];exact b8 i hi a5
   .obtain⟨x',h7,h8,h9⟩:=bu e;refine⟨x',λi hi=>?_,λy=>?_⟩
    .simp only[if_pos hi];refine⟨(cg i hi).1,(h7 i hi).1,?_⟩;rw[<-a3 f6 h6 i hi];exact(h7 i hi).2
    rw[av];have df:cmpV vv x'<0:=cmp_V.lt_le cj h8;constructor
    .rintro(O|⟨O,a2,aj⟩)
     .exact .inl O
     exact .inr ⟨O,a2,cmp_V.le_lt aj df⟩
    rintro(O|⟨O,a2,aj⟩)
    .exact .inl O
    refine .inr ⟨O,a2,Classical.byContradiction λah=>?_⟩;obtain⟨a,c7,bd,bc⟩:=ac y O a2 ah;have e8:cmpV (c.vl v ((c.I v).getD 0 0) (s.p ((c.I v).getD 0 0)+1)) (y.getD v V0)<=0:=by
     rw[<-bc];by_cases e:a=s.p ((c.I v).getD 0 0)+1
     .rw[e,Zg];omega
     have:=a6.srt hok D (show lo ((c.I v).getD 0 0)<=s.p ((c.I v).getD 0 0)+1 by omega) (show s.p ((c.I v).getD 0 0)+1<a by omega) bd;omega
    have eo:=h9 _ (an f6 h6 y O a2) e8;have:=cmp_V.anti x' (y.getD v V0);omega
   .rw[av];constructor
    .rintro(O|⟨O,a2,aj⟩)
     .exact .inl O
     exact .inr ⟨O,a2⟩
    rintro(O|⟨O,a2⟩)
    .exact .inl O
    refine .inr ⟨O,a2,Classical.byContradiction λah=>?_⟩;obtain⟨a,c7,bd,bc⟩:=ac y O a2 ah;refine d1 e _ (an f6 h6 y O a2) ?_;rw[<-bc];by_cases e:a=s.p ((c.I v).getD 0 0)+1
    .rw[e,Zg];omega
    have:=a6.srt hok D (show lo ((c.I v).getD 0 0)<=s.p ((c.I v).getD 0 0)+1 by omega) (show s.p ((c.I v).getD 0 0)+1<a by omega) bd;omega
   simp only[h1,if_true,if_pos D];by_cases e:t8=true
   .have:=bz e;rw[if_pos e];omega
   rw[if_neg e];omega
  have em:¬ s.p ((c.I v).getD 0 0)+1<S.e ((c.I v).getD 0 0):=oF h5;clear h5;refine ρ ?_;refine Jf ⟨false,z6,p7,f6,h6,l6⟩ sB
   ⟨aw,ao,bf,λi hi a5=>?_,bo,bh,bl,λe=>(by cases e),λ_ y=>?_⟩ ?_
  .simp only;rw[b5 i (λe=>a5 (e ▸ D))];exact b8 i hi a5
  .rw[av];constructor
   .rintro(O|⟨O,a2,aj⟩)
    .exact .inl O
    exact .inr ⟨O,a2⟩
   rintro(O|⟨O,a2⟩)
   .exact .inl O
   refine .inr ⟨O,a2,Classical.byContradiction λah=>?_⟩;obtain⟨a,c7,bd,bc⟩:=ac y O a2 ah;omega
  simp only[h1,if_true,Bool.false_eq_true,if_false];omega
 have cy:=d0 h1;clear ce d0;refine ρ ?_;refine Qw (fun (q:Nat) (R:LS)=>[(0,.pointer (some ⟨c.J,0,none⟩)),(1,.int .i64 (v:Int)),(8,.bool true),(83,.slice B2 (c.I v).length ak),(84,.int .i64 ((c.I v).length:Int)),(85,.int .i64 (q:Int))])
  (λq R w'=>q<=(c.I v).length/\GrN c.N w w'/\Cfg c Y w' s.z R.L R.p R.e s.f s.h s.l /\
   (∀ i∈(c.I v).take q,R.L i=lv (c.vars i) v/\R.p i=p i/\R.e i=e i) /\
   (∀ i,i<c.m->i ∉ (c.I v).take q->R.L i=S.L i/\R.p i=s.p i/\R.e i=S.e i)) (λq _=>(c.I v).length-q) 0 ⟨S.L,s.p,S.e,s.f,s.h⟩ sB
  ⟨Nat.zero_le _,a8,H2,λi hi=>by simp at hi,λi _ _=>⟨rfl,rfl,rfl⟩⟩ ?_
 rintro q R w3 ⟨hq,c3,H3,c5,b9⟩;refine ρ ?_;refine ci (λh2=>?_) (λh2=>?_)
 .have lq:q<(c.I v).length:=by have:=oT h2;omega
  clear h2;have d5:=hlist w3 c3;refine ρ ?_;refine ix q d5 lq ?_;refine ρ ?_;refine ld (d5.cell (Ig lq)) ?_;refine ρ ?_;obtain⟨i,hi⟩:∃ i,i=(c.I v).getD q 0:=⟨_,rfl⟩;rw[<-hi];have Z:i∈c.I v:=by rw[hi];exact getD_mem' 0 _ lq
  obtain⟨U,cn⟩:=JC.mem_I.1 Z;have a7:(c.I v).take (q+1)=(c.I v).take q++[i]:=by rw[Xy 0 lq,hi]
  have bw:i ∉ (c.I v).take q:=λhm=>by
   have h1:((c.I v).take (q+1)).Nodup:=(c.nodup_I v).sublist (List.take_sublist _ _);rw[a7,List.nodup_append]at h1;exact h1.2.2 _ hm _ (List.mem_singleton.2 rfl) rfl
  obtain⟨e1,e2,e3⟩:=b9 i U bw;obtain⟨dc,b4⟩:=H3.its i U;rw[e1,(a1 i Z).1]at b4;have en:=hok.lvd Z;have ed:=hok.d32 i U;refine cl (Qhq b4 om) ?_;rintro u w4 ⟨cw,d7⟩;have cx:=c4 i U (lv (c.vars i) v) (by rw[(a1 i Z).1];omega);have dm:S.f i (lv (c.vars i) v)=p i:=by rw[(a1 i Z).2.2.2.2.1,Qy]
  have dl:S.h i (lv (c.vars i) v)=e i:=by rw[(a1 i Z).2.2.2.2.2,Qy]
  rw[cx.1,cx.2,dm,dl]at d7;have H4:=H3.it hok hY U cw d7;have e9:Cfg c Y w4 s.z (upd R.L i (lv (c.vars i) v)) (upd R.p i (p i)) (upd R.e i (e i)) s.f s.h s.l:=by
   rw[Ij,Ij]at H4;exact H4
  refine ρ ?_;refine Ja (q+1) ⟨upd R.L i (lv (c.vars i) v),upd R.p i (p i),upd R.e i (e i),s.f,s.h⟩ sO ⟨om,c3.trans (cw.mono λj _ ej=>a4 j (.inr (.inl ⟨i,U,ej⟩))),e9,λj hj=>?_,λj hj af=>?_⟩ om
  .rw[a7,List.mem_append,List.mem_singleton]at hj;by_cases ej:j=i
   .subst ej;simp only[Qy];exact⟨trivial,trivial,trivial⟩
   simp only[Jp _ _ ej];exact c5 j (hj.resolve_right ej)
  rw[a7,List.mem_append,List.mem_singleton,not_or]at af;simp only[Jp _ _ af.2];exact b9 j hj af.1
 have eq:q=(c.I v).length:=by have:=oF h2;omega
 rw[eq,List.take_of_length_le (nR _)]at c5 b9;have H5:Cfg c Y w3 s.z (λi=>lv (c.vars i) v) p e s.f s.h s.l:=H3.congr λi hi=>by
  by_cases Z:i∈c.I v
  .have:=c5 i Z;exact⟨this.1.symm,this.2.1.symm,this.2.2.symm,rfl,rfl⟩
  have h5:=b9 i hi Z;have h6:=ad i hi Z;exact⟨(h5.1.trans h6.1).symm,(h5.2.1.trans (b8 i hi Z)).symm,(h5.2.2.trans h6.2.2.1).symm,rfl,rfl⟩
 refine ρ ?_;refine Jq ⟨rfl,c3,s.z,s.f,s.h,s.l,H5,c9,λi hi k hk=>?_,bi,cy⟩;have h5:=c4 i hi k (by rw[ba i hi];have:=Jpc (c.vars i) v;by_cases Z:i∈c.I v;(rw[(Vh (hok.asc i hi) (JC.mem_I.1 Z).2).1];omega);rw[Kv (λh'=>Z (JC.mem_I.2 ⟨hi,h'⟩))];exact hk);by_cases Z:i∈c.I v
 .obtain⟨_,_,_,_,h8,h9⟩:=a1 i Z;rw[h5.1,h5.2,h8,h9,Jp _ _ om,Jp _ _ om];exact⟨rfl,rfl⟩
 obtain⟨_,_,_,h8,h9⟩:=ad i hi Z;rw[h5.1,h5.2,h8,h9];exact⟨rfl,rfl⟩
open Go.RowKit Pl Go.Wk
variable {g j k v:Nat}{p v4 va':Value}{w1 w2 w4:World}
theorem EIt: ElT Tryz.prog 192 198 1 8 (.pointer none):=⟨Tryz.underlying192,info_parts kr,rfl,by decide⟩
theorem EIts: ElT Tryz.prog 189 192 1 24 (.slice none 0 0):=⟨Tryz.underlying189,info_parts kr,rfl,by decide⟩
theorem Qjk(p:Option Addr)(w:World): (Instr.buildSlice 192 1 #[(0,.pointer p)]).run Tryz.prog w=.ok (.slice (some ⟨w.heap.size,0,none⟩) 1 1) (w.alloc (.cells [.pointer p].toArray 198)):=kr
theorem Qrp(A B:Option Addr)(n:Nat)(fid:FuncId)(first cap:Array Value)(w:World): (Instr.build 191 #[(0,.slice A n n),(1,.slice B n n),(3,.func (.func fid) first cap)]).run Tryz.prog w=.ok (.agg #[.slice A n n,.slice B n n,.int .i64 0,.func (.func fid) first cap]) w:=kr
structure RK where
 n: Nat
 vars:Nat->List Nat
 rs:Nat->List Row
 base:Nat
 J:Nat
 Ra:Option Addr
 Ba:Option Addr
 yv:Value
structure RS where
 G: Nat->Nat
 A:Nat->Option Addr
 lo:Nat->Nat
 hi:Nat->Nat
 va:Value
 vat:Nat->Value
def OB(K:RK)(S:RS)(k:Nat): Prop:=k=K.J∨(Value.slice K.Ra K.n K.n).ownBlock=some k∨(Value.slice K.Ba K.n K.n).ownBlock=some k∨S.va.ownBlock=some k∨∃ v,v<K.n/\(S.vat v).ownBlock=some k
structure RB(K:RK)(q:Nat)(S:RS)(cont:Nat->List Value)(alls:List Value)(w:World): Prop where
 jb:Blk w K.J 191 [.slice K.Ra K.n K.n,.slice K.Ba K.n K.n,.int .i64 0,K.yv]
 row:Yw w K.base (.slice K.Ra K.n K.n) (List.replicate K.n V0)
 at_:w.ownsRow K.base 192 1 (.slice K.Ba K.n K.n) K.n ((List.range K.n).map S.vat)
 lists:Fam w K.base 198 1 K.n S.vat (λv=>(cont v).length) cont
 all:w.ownsRow K.base 198 1 S.va alls.length alls
 alld:∀ v g,v<K.n->(S.vat v).ownBlock=some g->S.va.ownBlock≠some g
 its:∀ j,j<q->ItB w (S.G j) (S.A j) (K.vars j).length 0 0 0 (λ_=>0) (λ_=>0) 0
 tri:∀ j,j<q->Off (λk=>k<S.lo j∨S.hi j<=k) w (λu=>TriA u (S.A j) (K.vars j).length (K.rs j))
 iv:∀ j k,j<q->OB K S k->k<S.lo j∨S.hi j<=k
 gi:∀ i j,i<q->j<q->S.G i<S.lo j∨S.hi j<=S.G i
 ginj:∀ i j,i<j->j<q->S.G i<S.G j
 jlo:∀ j,j<q->K.J<S.lo j/\S.hi j<=w.heap.size
 jg:∀ j,j<q->K.J<S.G j
 bj:K.base<=K.J
section
variable {K:RK} {q:Nat} {S:RS} {cont:Nat->List Value} {alls:List Value} {w w':World}
theorem RB.ext(H:RB K q S cont alls w)(hx:Ext w w'): RB K q S cont alls w' :=
 ⟨H.jb.ext hx,Jv H.row hx,Jv H.at_ hx,H.lists.ext hx,Jv H.all hx,H.alld,λj i=>(H.its j i).ext hx,λj i=>(H.tri j i).ext hx,H.iv,H.gi,H.ginj,λj i=>⟨(H.jlo j i).1,Nat.le_trans (H.jlo j i).2 hx.size⟩,H.jg,H.bj⟩
theorem RB.oblt(H:RB K q S cont alls w)(h:OB K S k): k<w.heap.size:=by
 have i:∀ {base e sz m:Nat} {v:Value} {xs:List Value},w.ownsRow base e sz v m xs->∀ g,v.ownBlock=some g->g<w.heap.size:=λj g u=>by grind [Jy]
 rcases h with h|h|h|h|⟨v,hv,h⟩
 .rw[h];exact H.jb.lt
 .exact i H.row k h
 .exact i H.at_ k h
 .exact i H.all k h
 exact i (H.lists.own v hv) k h
theorem RB.iter(H:RB K q S cont alls w){A:Option Addr}(hx1:Ext w w1)(hT:Off (λk=>k<w.heap.size) w1 (λu=>TriA u A (K.vars q).length (K.rs q)))(hx2:Ext w1 w2)(hg:w1.heap.size<=g)(hI:ItB w2 g A (K.vars q).length 0 0 0 (λ_=>0) (λ_=>0) 0):
  RB K (q+1) { S with G:=upd S.G q g,A:=upd S.A q A,lo:=upd S.lo q w.heap.size,hi:=upd S.hi q w1.heap.size } cont alls w2:=by
 have F:=H.ext (hx1.trans hx2);have a2:=hI.lt;have ne:∀ {j},j<q->j≠q:=λh e=>by omega
 have D:∀ {j},j<q+1->j<q∨j=q:=λh=>by omega
 have a1:=hx1.size;have U:=hx2.size;refine⟨F.jb,F.row,F.at_,F.lists,F.all,F.alld,λj y=>?_,λj y=>?_,λj k y Z=>?_,λi j hi y=>?_,λi j J y=>?_,λj y=>?_,λj y=>?_,F.bj⟩
 .rcases D y with y|rfl
  .simp only[Jp _ _ (ne y)];exact F.its j y
  repeat grind [Qy]
 .rcases D y with y|rfl
  .simp only[Jp _ _ (ne y)];exact F.tri j y
  simp only[Qy];exact(hT.mono λk Z h=>by grind).ext hx2
 .have O:OB K S k:=Z;rcases D y with y|rfl
  .simp only[Jp _ _ (ne y)];exact H.iv j k y O
  simp only[Qy];exact .inl (H.oblt O)
 .rcases D y with y|rfl
  .simp only[Jp _ _ (ne y)];have h5:=(H.jlo j y).2;rcases D hi with hi|rfl
   .simp only[Jp _ _ (ne hi)];exact H.gi i j hi y
   repeat grind [Qy]
  simp only[Qy];rcases D hi with hi|rfl
  .simp only[Jp _ _ (ne hi)];exact .inl (H.its i hi).lt
  repeat grind [Qy]
 .rcases D y with y|rfl
  .simp only[Jp _ _ (ne y),Jp _ _ (ne (show i<q by omega))];exact H.ginj i j J y
  simp only[Qy,Jp _ _ (ne J)];have:=(H.its i J).lt;omega
 .rcases D y with y|rfl
  .simp only[Jp _ _ (ne y)];exact F.jlo j y
  simp only[Qy];exact⟨H.jb.lt,U⟩
 rcases D y with y|rfl
 .simp only[Jp _ _ (ne y)];exact F.jg j y
 simp only[Qy];have:=H.jb.lt;omega
theorem RB.trig(H:RB K q S cont alls w){N:Nat->Prop}(hg:GrN N w w')(hN:∀ k,k<w.heap.size->N k->OB K S k)(hj:j<q): Off (λk=>k<S.lo j∨S.hi j<=k) w' (λu=>TriA u (S.A j) (K.vars j).length (K.rs j)) :=
 (H.tri j hj).gr (hg.mono λk i h=>H.iv j k hj (hN k i h))
theorem RB.pushAll(H:RB K q S cont alls w)(ho:w'.ownsRow K.base 198 1 va' (alls.length+1) (alls++[p]))(hg:w.grownBy w' S.va.ownBlock)(hn:∀ g,va'.ownBlock=some g->S.va.ownBlock=some g∨w.heap.size<=g):
  RB K q { S with va:=va' } cont (alls++[p]) w':=by
 have y:GrN (λk=>S.va.ownBlock=some k) w w':=GrN.by hg λk U=>U
 have G:∀ g,S.va.ownBlock=some g->g≠K.J:=λg F e=>(H.jb.ne_own H.all rfl) (by rw[F,e]);have D:∀ k,OB K { S with va:=va' } k->OB K S k∨w.heap.size<=k:=λk O=>by
  rcases O with h|h|h|h|h
  .exact .inl (.inl h)
  .exact .inl (.inr (.inl h))
  .exact .inl (.inr (.inr (.inl h)))
  .rcases hn k h with h'|h'
   .exact .inl (.inr (.inr (.inr (.inl h'))))
   exact .inr h'
  exact .inl (.inr (.inr (.inr (.inr h))))
 refine⟨Ju H.jb y (λe=>G _ e rfl),Zw H.row H.all hg rfl,Zw H.at_ H.all hg rfl,H.lists.gr y (λi g hi F e=>H.alld i g hi F e),by grind,λv g Z F e=>?_,λj u=>?_,λj u=>?_,λj k u O=>?_,H.gi,H.ginj,λj u=>⟨(H.jlo j u).1,Nat.le_trans (H.jlo j u).2 hg.size⟩,H.jg,H.bj⟩
 .rcases hn g e with h'|h'
  .exact H.alld v g Z F h'
  have:=(H.lists.lt Z F).2;omega
 .exact Ju (H.its j u) y (λe=>(H.its j u).ne_own H.all rfl e.symm)
 .exact H.trig y (λk _ U=>.inr (.inr (.inr (.inl U)))) u
 rcases D k O with h'|h'
 .exact H.iv j k u h'
 have:=(H.jlo j u).2;exact .inr (by simp only;omega)
theorem RB.pushAt(H:RB K q S cont alls w)(hv:v<K.n)(ho:w4.ownsRow K.base 198 1 v4 ((cont v).length+1) (cont v++[p]))(hg:w.grownBy w4 (S.vat v).ownBlock)(hn:∀ g,v4.ownBlock=some g->(S.vat v).ownBlock=some g∨w.heap.size<=g):
  w4.cell? (adr K.Ba v)=some (S.vat v)/\w4.frozen? (adr K.Ba v)=false/\v4.oneCell'=true/\RB K q { S with vat:=upd S.vat v v4 } (upd cont v (cont v++[p])) alls (w4.setCell (adr K.Ba v) v4)/\GrN (λk=>(S.vat v).ownBlock=some k∨(Value.slice K.Ba K.n K.n).ownBlock=some k) w (w4.setCell (adr K.Ba v) v4):=by
 have F:=H.lists.own v hv;have Z:w4.ownsRow K.base 192 1 (.slice K.Ba K.n K.n) K.n ((List.range K.n).map S.vat):=Zw H.at_ F hg rfl;have F4:=H.lists.upd hv ho hg hn;obtain⟨s1,s2,s3,s4,s5⟩:=Zp Z (q:=v) om v4;have h1:v4.oneCell'=true:=by obtain⟨B,c,e,_⟩:=Jy ho;rw[e];rfl
 have y:GrN (λk=>(S.vat v).ownBlock=some k∨(Value.slice K.Ba K.n K.n).ownBlock=some k) w (w4.setCell (adr K.Ba v) v4):=(GrN.by hg λk ek=>.inl ek).trans (GrN.by s5 λk ek=>.inr ek);have a1:∀ k,(S.vat v).ownBlock=some k∨(Value.slice K.Ba K.n K.n).ownBlock=some k->OB K S k:=λk O=>by
  rcases O with h|h
  .exact .inr (.inr (.inr (.inr ⟨v,hv,h⟩)))
  exact .inr (.inr (.inl h))
 have G:∀ k,OB K { S with vat:=upd S.vat v v4 } k->OB K S k∨w.heap.size<=k:=λk O=>by
  rcases O with h|h|h|h|⟨u,hu,h⟩
  .exact .inl (.inl h)
  .exact .inl (.inr (.inl h))
  .grind
  .exact .inl (.inr (.inr (.inr (.inl h))))
  by_cases e:u=v
  .grind [Qy]
  simp only[Jp _ _ e]at h;exact .inl (.inr (.inr (.inr (.inr ⟨u,hu,h⟩))))
 have a2:((List.range K.n).map S.vat).set v v4=(List.range K.n).map (upd S.vat v v4):=by
  apply List.ext_getElem?
  grind [Qy,Jp]
 rw[a2]at s3;have F5:=F4.other Z s5 rfl;have nJ:¬ ((S.vat v).ownBlock=some K.J∨(Value.slice K.Ba K.n K.n).ownBlock=some K.J):=by
  rintro(h|h)
  .exact H.jb.ne_own F rfl h.symm
  exact H.jb.ne_own H.at_ rfl h.symm
 refine⟨s1.trans (by simp[hv]),s2,h1,⟨Ju H.jb y nJ,Zw (Zw H.row F hg rfl) Z s5 rfl,s3,⟨λi hi=>?_,F5.dis⟩,Qj H.all y (λg U=>?_),λu g hu U e=>?_,λj D=>?_,λj D=>H.trig y (λk _ O=>a1 k O) D,λj k D O=>?_,H.gi,H.ginj,λj D=>⟨(H.jlo j D).1,Nat.le_trans (H.jlo j D).2 y.size⟩,H.jg,H.bj⟩,y⟩
 .have:=F5.own i hi;grind [Qy,List.length_append,List.length_singleton,Jp]
 .rintro(h|h)
  .exact H.alld v g hv h U
  exact Im H.at_ H.all rfl h U
 .by_cases e':u=v
  .subst e';simp only[Qy]at U;rcases hn g U with h'|h'
   .exact H.alld u g hu h' e
   obtain⟨_,_,_,_,hf⟩:=Jy H.all;grind
  simp only[Jp _ _ e']at U;exact H.alld u g hu U e
 .refine Ju (H.its j D) y ?_;rintro(h|h)
  .exact(H.its j D).ne_own F rfl h.symm
  exact(H.its j D).ne_own H.at_ rfl h.symm
 rcases G k O with h'|h'
 .exact H.iv j k D h'
 have:=(H.jlo j D).2;exact .inr (by simp only;omega)
end
open Go.RowKit Pl Go.Wk
attribute [local irreducible] WG
variable {vs:List Nat}{cs xs:List Value}{ca d g i m n q:Nat}{vars:Nat->List Nat}{G G' L e p:Nat->Nat}{N N' NY bx':Nat->Prop}{v x y yv:Value}{w w1 w2:World}
structure YS(s:Nat)(yv:Value)(bx:Nat->Prop)(Y:Nat->List Row->World->Prop): Prop where
 keep:∀ base l w w',Y base l w->GrN (λk=>s<=k/\k<base) w w'->Y base l w'
 call:∃ fid first cap,yv=.func (.func fid) first cap/\∀ base l w vr z,base<=w.heap.size->Y base l w->RowV w vr z->l.length<65536->Ret Tryz.prog fid (first.toList++[vr]++cap.toList) w λr w'=>r=.bool true/\Y base (l++[z]) w'/\GrN (λk=>bx k∨base<=k) w w'
theorem Jzb(ha:Qc vs)(hl:∀ u∈vs,u<n): vs.length<=n:=by
 have key:∀ k,lv vs k<=k:=by
  intro k;induction k with
  | zero=>rw[Jxj];exact nR _
  | succ k ih=>
   by_cases h:k∈vs
   repeat grind [Vh,Kv]
 have:=key n;rwa [Jpf hl]at this
theorem Jnf{cs:List Nat}(h:i<cs.length): (nz cs).getD i 0=(cs.getD i 0:Int):=by
 simp[nz,List.getD,List.getElem?_eq_getElem h]
structure RunOk(n:Nat)(ts:List TA)(vars:Nat->List Nat)(rs:Nat->List Row): Prop where
 n32:n<=32
 m32:ts.length<=32
 at_:∀ i,i<ts.length->(ts.getD i ta0).2=⟨nz (vars i),(vars i).length,rs i⟩
 asc:∀ i,i<ts.length->Qc (vars i)
 lt:∀ i,i<ts.length->∀ u∈vars i,u<n
 cov:∀ v,v<n->∃ i,i<ts.length/\v∈vars i
 srt:∀ i,i<ts.length->Lt [] (rs i)
 len:∀ i,i<ts.length->∀ r∈rs i,r.length=(vars i).length
 big:∀ i,i<ts.length->(rs i).length<=65536
theorem Jqw{base base' e sz:Nat}(h:w.ownsRow base e sz v m xs)(hb:base'<=base): w.ownsRow base' e sz v m xs:=by
 rcases h with⟨y,⟨rfl,rfl⟩|⟨g,u,j,rfl,i,D⟩⟩
 .exact⟨y,.inl ⟨rfl,rfl⟩⟩
 exact⟨y,.inr ⟨g,u,j,rfl,Nat.le_trans hb i,D⟩⟩
theorem _root_.Go.Wk.Blk.sub2{t:TypeId}(h:Blk w g t cs)(h0:cs[i]?=some x)(h1:cs[i+1]?=some y): ∀ j u,[x,y][j]?=some u->w.cell? ((⟨g,i,none⟩:Addr).add j)=some u:=λj u D=>by
 match j,D with
 | 0,D=>simp only[List.getElem?_cons_zero,Option.some.injEq]at D;subst D;exact h.sub h0
 | 1,D=>simp only[List.getElem?_cons_succ,List.getElem?_cons_zero,Option.some.injEq]at D;subst D;exact h.sub h1
 | j+2,D=>simp at D
def Yh(d t:Nat): List Value:=(List.range d).map λj=>.int .i64 ((if j<t then j else 0:Nat):Int)
theorem Qpb(d:Nat): (madeCells (Value.int .i64 0).cells (d*1)).toList=Yh d 0:=by
 rw[Nat.mul_one];have e:(madeCells (Value.int .i64 0).cells d).toList=List.replicate d (Value.int .i64 0):=Ye _ _;rw[e];simp[Yh,List.map_const']
theorem Qnz(d:Nat): Yh d d=Jt (nz (List.range d)):=by grind [Yh,Jt,nz,List.map_map,List.map_congr_left,List.mem_range.1]
theorem Qnw{t:Nat}(h:t<d): (Yh d t).set t (.int .i64 (t:Int))=Yh d (t+1):=by
 apply List.ext_getElem?
 grind [Yh,List.getElem?_range]
theorem Qnx(d t:Nat): (Yh d t).length=d:=by simp[Yh]
theorem Qdk(A:Option Addr)(n c:Nat): ∀ u∈[Value.slice A n c],u.oneCell'=true:=λu i=>by rw[List.mem_singleton.1 i];rfl
def itp(g:Nat): Value:=.pointer (some ⟨g,0,none⟩)
def Zq(vars:Nat->List Nat)(G:Nat->Nat)(q:Nat)(v:Nat): List Value:=((List.range q).filter λi=>decide (v∈vars i)).map λi=>itp (G i)
theorem Qpg(vars:Nat->List Nat)(G:Nat->Nat)(q v:Nat): (Zq vars G q v).length<=q:=by grind [Zq,List.length_map,List.length_filter_le,List.range,List.length_range]
theorem Qpf(vars:Nat->List Nat)(G:Nat->Nat)(q v:Nat): Zq vars G (q+1) v=Zq vars G q v++if v∈vars q then[itp (G q)] else[]:=by grind [Zq,List.range_succ,List.filter_cons_of_pos,List.filter_cons_of_neg]
theorem Qph(h:∀ j,j<q->G j=G' j)(v:Nat): Zq vars G q v=Zq vars G' q v:=by grind [Zq,List.map_congr_left,List.mem_range.1,List.mem_filter.1]
theorem _root_.Go.Wk.GrN.cut(hx:Ext w w1)(hg:GrN N w1 w2)(hN:∀ k,k<w.heap.size->N k->N' k): GrN N' w w2 :=
 ⟨hg.os.trans hx.os,hg.tape.trans hx.tape,hg.output.trans hx.output,Nat.le_trans hx.size hg.size,λk i hn=>(hg.block k (nM i hx.size) (λe=>hn (hN k i e))).trans (hx.block k i)⟩
theorem Cfg.steps{c:JC}{Y:List Row->World->Prop}{z:Row}{f h:Nat->Nat->Nat}{l:List Row}(H:Cfg c Y w z L p e f h l)(hok:JOk c)(hY:YC c Y NY){st:Int}(hJ:Blk w c.J 191 [c.rowv,c.ja,.int .i64 st,c.yv])(st':Int):
  Cfg c Y (w.setCell ⟨c.J,2,none⟩ (.int .i64 st')) z L p e f h l/\GrN c.NI w (w.setCell ⟨c.J,2,none⟩ (.int .i64 st')):=by
 have u:GrN (λk=>k=c.J) w (w.setCell ⟨c.J,2,none⟩ (.int .i64 st')):=GrN.set _ rfl;have j:GrN c.NI w (w.setCell ⟨c.J,2,none⟩ (.int .i64 st')):=GrN.set _ (.inl rfl);refine⟨⟨H.env.gr (j.mono λk _ D=>hok.sub k D),λi hi=>?_,Qj H.row u (λg G=>H.rowJ G),H.zl,⟨_,hJ.set 2 _⟩,hY.keep _ _ _ H.y j⟩,j⟩;obtain⟨st,F⟩:=H.its i hi;exact⟨st,Ju F u (hok.gj i hi)⟩
theorem Qqd(h:Qc vs): vs.Nodup:=h.imp λh e=>by omega
theorem Jfn(n:Nat): (madeCells (Value.slice none 0 0).cells (n*1)).toList=List.replicate n (Value.slice none 0 0):=by rw[Nat.mul_one];exact Ye _ _
theorem Qvk{ts:List TA}{Aa:Option Addr}{rs:Nat->List Row}{Y:Nat->List Row->World->Prop}(hok:RunOk n ts vars rs)(hR:Rd w 3 Aa ts.length (atC ts))(hat:∀ p∈ts,AtV w p.1 p.2)(hbx:∀ k,bx' k->k<w.heap.size)(hY:YS w.heap.size yv bx' Y)(hY0:∀ w',Ext w w'->Y w'.heap.size [] w')(hcap:∀ l:List Row,Lt [] l->(∀ x∈l,Gl n ts.length vars rs x)->l.length<=65536):
  Ret Tryz.prog 66 [.int .i64 (n:Int),.slice Aa ts.length ca,yv] w λu w'=>GrN bx' w w'/\∃ st base l,u=.tuple #[.int .i64 st,.int .i64 0]/\base<=w'.heap.size/\Y base l w'/\Lt [] l/\∀ x,x∈l↔Gl n ts.length vars rs x:=by
 have dk:=hok.n32;have dm:=hok.m32;obtain⟨m,hm⟩:∃ m,m=ts.length:=⟨_,rfl⟩;obtain⟨bj,first,bl,ex,d3⟩:=hY.call;subst ex;refine Jz Tryz.func66 Tryz.ntmps66 rfl kr rfl ?_;refine ρ ?_;have db:Ext w w.drew:=(Ext.refl w).drew;refine drG kr ?_;refine gpre (fuel':=5) [(0,0),(0,2),(0,4)] #[true,false,true,false,true,false,false,false] kr kr rfl ?_;refine ρd ?_;refine Jwl ?_;refine gcut 3 #[true,true,true,true,true,false,false,false] (fun (x:Option Addr×Option Addr)=>[(0,.int .i64 (n:Int)),(1,.slice Aa ts.length ca),(2,.func (.func bj) first bl),(24,.slice x.1 n n),(26,.slice x.2 n n),(27,.func (.func bj) first bl)])
  (λx w'=>Ext w.drew w'/\Yw w' w.heap.size (.slice x.1 n n) (List.replicate n V0)/\w'.ownsRow w.heap.size 192 1 (.slice x.2 n n) n (List.replicate n (.slice none 0 0))) ?_ ?_
 .rintro⟨Ra,Ba⟩ w1 ⟨dg,az,ch⟩;refine gpre (fuel':=0) [(1,5),(1,6),(0,7)] #[true,true,true,true,true,true,true,true] kr kr rfl ?_;refine Jxr ?_;refine bld (Qrp _ _ _ _ _ _ _) ?_;refine Qk (Jxq (Ext.refl _) ?_);refine Jxr ?_;refine bx ?_;intro w2 J a1 hJ f3;refine Qk (Jxq a1 ?_);refine ρd ?_;refine Jwl ?_;refine gend kr ?_;refine ρ ?_;have ac:Ext w w2:=(db.trans dg).trans a1;have e4:w.heap.size<=J:=nL (db.trans dg).size hJ;obtain⟨K,hK⟩:∃ K:RK,K=⟨n,vars,rs,w.heap.size,J,Ra,Ba,.func (.func bj) first bl⟩:=⟨_,rfl⟩;have H2:RB K 0 ⟨λ_=>0,λ_=>none,λ_=>0,λ_=>0,.slice none 0 0,λ_=>.slice none 0 0⟩ (λ_=>[]) [] w2:=by
   subst hK;refine⟨f3,Jv az a1,?_,⟨λi hi=>Qo _ _ _ _,λi j g _ _ _ e=>(by cases e)⟩,Qo _ _ _ _,λv g _ e=>(by cases e),λj hj=>om,λj hj=>om,λj k hj=>om,λi j hi=>om,λi j _ hj=>om,λj hj=>om,λj hj=>om,e4⟩;have:=Jv ch a1;have e:List.replicate n (Value.slice none 0 0)=(List.range n).map λ_=>Value.slice none 0 0:=by simp[List.map_const']
   rw[e]at this;exact this
  clear az ch;refine Jl (fun (i:Nat)=>[(0,.int .i64 (n:Int)),(1,.slice Aa ts.length ca),(8,.pointer (some ⟨J,0,none⟩)),(30,.slice Aa ts.length ca),(31,.int .i64 (ts.length:Int)),(32,.int .i64 (i:Int))])
   (λi w'=>i<=ts.length/\Ext w2 w'/\∀ j,j<i->rs j≠[]) (λi=>ts.length-i) 0 sB ⟨Nat.zero_le _,Ext.refl _,λj hj=>om⟩ ?_
  rintro i w3 ⟨hi,Z,c9⟩;refine ρ ?_;refine ci (λh=>?_) (λh=>?_)
  .have li:i<ts.length:=by have:=oT h;omega
   have e9:=hR.ext (ac.trans Z);obtain⟨t1,t2,t3,a,hp⟩:∃ t1 t2 t3 a,ts.getD i ta0=((t1,t2,t3),a):=⟨_,_,_,_,rfl⟩;have a8:AtV w (t1,t2,t3) a:=by have:=hat _ (Jvx rfl li);rw[hp]at this;exact this
   have ea:a=⟨nz (vars i),(vars i).length,rs i⟩:=by have:=hok.at_ i li;rw[hp]at this;exact this
   clear h;obtain⟨⟨D,d,e1,hd,f6,du⟩,e2,a6⟩:=id a8;simp only at e1 e2;subst e1;subst e2;obtain⟨ps,G,gc,_,ay,_⟩:=id a6;simp only at ay;subst ay;refine ρ ?_;refine ixq 3 i e9 li ?_;refine ρ ?_;refine lds (cs:=[.slice D a.vars.length d,.int .i64 (a.ar:Int),.slice G ps.length gc]) (λj u hu=>Jvf e9 rfl li (by rw[hp];exact hu)) ?_;refine ρ ?_;refine alc Vy ?_;intro w4 b a5 hb hB;refine ρ ?_;refine stb hB ?_ a8.one;intro w5 fd d0 cr;have av:Ext w3 w5:=cr w3 a5 hb;refine ρ ?_;refine lds (cs:=[.int .i64 (a.ar:Int),.slice G ps.length gc]) (fd.sub2 (i:=1) rfl rfl) ?_;refine ρ ?_;refine cl (Jkb ((a8.ext (((ac.trans Z).trans av))).rel)) ?_;rintro u w6 ⟨rfl,bp⟩;refine ρ ?_;refine ci (λh=>?_) (λh=>?_)
   .refine ρ ?_;have c0:Ext w w6:=((ac.trans Z).trans av).trans bp;refine Xx ⟨(GrN.ext c0),0,w6.heap.size,[],rfl,Nat.le_refl _,hY0 w6 c0,List.Pairwise.nil,λx=>⟨λhx=>(by cases hx),λhx=>?_⟩⟩;have U:=hx.2 i li;have h2:a.rows.length=0:=by have:=Un h;omega
    rw[ea]at h2;have h3:rs i=[]:=List.eq_nil_of_length_eq_zero h2;rw[h3]at U;cases U
   have h2:rs i≠[]:=λe=>by
    have h3:=Ve h;rw[ea,e]at h3;exact h3 rfl
   refine ρ ?_;refine Jf (i+1) sO ⟨om,(Z.trans av).trans bp,λj hj=>?_⟩ om;by_cases e:j=i
   .rw[e];exact h2
   exact c9 j om
  have cz:i=ts.length:=by have:=oF h;omega
  subst cz;refine ρ ?_;refine Qw (fun (q:Nat) (S:RS)=>[(0,.int .i64 (n:Int)),(8,.pointer (some ⟨J,0,none⟩)),(11,S.va),(41,.slice Aa ts.length ca),(42,.int .i64 (ts.length:Int)),(43,.int .i64 (q:Int))])
   (λq S w'=>q<=ts.length/\Ext w w'/\RB K q S (Zq vars S.G q) ((List.range q).map λj=>itp (S.G j)) w') (λq _=>ts.length-q) 0 ⟨λ_=>0,λ_=>none,λ_=>0,λ_=>0,.slice none 0 0,λ_=>.slice none 0 0⟩ sB
   ⟨Nat.zero_le _,ac.trans Z,H2.ext Z⟩ ?_
  rintro q S w4 ⟨hq,a5,H4⟩;refine ρ ?_;refine ci (λh=>?_) (λh=>?_)
  .have lq:q<ts.length:=by have:=oT h;omega
   have e8:=hR.ext a5;obtain⟨t1,t2,t3,a,hp⟩:∃ t1 t2 t3 a,ts.getD q ta0=((t1,t2,t3),a):=⟨_,_,_,_,rfl⟩;have a8:AtV w (t1,t2,t3) a:=by have:=hat _ (Jvx rfl lq);rw[hp]at this;exact this
   have ea:a=⟨nz (vars q),(vars q).length,rs q⟩:=by have:=hok.at_ q lq;rw[hp]at this;exact this
   subst ea;clear h;obtain⟨⟨D,d,e1,hd,f6,du⟩,e2,a6⟩:=id a8;simp only at e1 e2;subst e1;subst e2;obtain⟨ps,G,gc,_,ay,_⟩:=id a6;simp only at ay;subst ay;have dj:=Js (vars q);have fk:(vars q).length<=n:=Jzb (hok.asc q lq) (hok.lt q lq);refine ρ ?_;refine ixq 3 q e8 lq ?_;refine ρ ?_;refine lds (cs:=[.slice D (nz (vars q)).length d,.int .i64 ((vars q).length:Int),.slice G ps.length gc]) (λj u hu=>Jvf e8 rfl lq (by rw[hp];exact hu)) ?_;refine ρ ?_;refine alc Vy ?_;intro w5 b cr hb hB;refine ρ ?_;refine stb hB ?_ a8.one;intro w6 ei bu bp;have c4:Ext w4 w6:=bp w4 cr hb;have H6:=H4.ext c4;refine ρ ?_;refine ld (ei.at (i:=0) rfl) ?_;refine ρ ?_;rw[dj];refine mkn EI (vars q).length om (by unfold maxLen;omega) ?_;intro w7 O dc cx fn;rw[Qpb]at cx;refine ρ ?_;refine Jl (fun (t:Nat)=>[(0,.int .i64 (n:Int)),(8,.pointer (some ⟨J,0,none⟩)),(11,S.va),(41,.slice Aa ts.length ca),(42,.int .i64 (ts.length:Int)),(43,.int .i64 (q:Int)),(13,.pointer (some ⟨b,0,none⟩)),(14,.slice O (vars q).length (vars q).length),(51,.slice O (vars q).length (vars q).length),(52,.int .i64 ((vars q).length:Int)),(53,.int .i64 (t:Int))])
    (λt w'=>t<=(vars q).length/\Ext w6 w'/\w'.ownsRow w6.heap.size 3 1 (.slice O (vars q).length (vars q).length) (vars q).length (Yh (vars q).length t)) (λt=>(vars q).length-t) 0 sB
    ⟨Nat.zero_le _,dc,cx⟩ ?_
   clear cx dc;rintro t w8 ⟨ht,bo,b7⟩;refine ρ ?_;refine ci (λh=>?_) (λh=>?_)
   .have lt:t<(vars q).length:=by have:=oT h;omega
    clear h;refine ρ ?_;refine ix t (Rd.own b7) lt ?_;obtain⟨s1,s2,s3,s4,s5⟩:=Zp b7 (q:=t) om (.int .i64 (t:Int));have e0:t<(Yh (vars q).length t).length:=by rw[Qnx];exact lt
    refine ρ ?_;refine sto (s1.trans (gE e0)) s2 ?_;rw[Qnw lt]at s3;have au:Ext w6 (w8.setCell (adr O t) (.int .i64 (t:Int))):=Jh bo s5 (λk hk=>by
     obtain⟨_,_,_,_,hf⟩:=Jy b7;exact(hf k hk).1)
    refine ρ ?_;exact Jf (t+1) sO ⟨om,au,s3⟩ om
   have cv:t=(vars q).length:=by have:=oF h;omega
   subst cv;clear h;rw[Qnz]at b7;have eh:=ei.ext bo;have bz:Ext w w8:=(a5.trans c4).trans bo;have d1:IntsV w8 (.slice O (vars q).length (vars q).length) (nz (List.range (vars q).length)):=by
    have e:(nz (List.range (vars q).length)).length=(vars q).length:=by rw[Js,List.length_range]
    exact⟨O,(vars q).length,by rw[e],by rw[e];exact nR _,by rw[e];omega,by rw[e];exact Rd.own b7⟩
   refine ρ ?_;refine lds (cs:=[.int .i64 ((vars q).length:Int),.slice G ps.length gc]) (eh.sub2 (i:=1) rfl rfl) ?_;refine ρ ?_;refine cl (Qkc (a8.ext bz).rel (hok.srt q lq) (hok.len q lq) d1 (show(vars q).length<=32 by omega) (hok.big q lq)) ?_;rintro u w9 ⟨au,tv,rfl,⟨bm,rfl⟩,e6⟩;refine ρ ?_;refine alc Jvl ?_;intro fj b2 df f7 fc;refine ρ ?_;refine stb (cs':=[.slice bm (vars q).length (vars q).length]) fc ?_ (Qdk _ _ _);intro da em fg de;have ae:Ext w9 da:=de w9 df f7;refine ρ ?_;refine ldW em ?_;refine ρ ?_;refine cl (Qkd da) ?_;rintro u d9 ⟨aw,g,rfl,dt,cj⟩;have H8:=H6.ext bo;have e5:Off (λk=>k<w8.heap.size) w9 (λu=>TriA u bm (K.vars q).length (K.rs q)):=by
    subst hK;exact e6.imp λu h=>h.a
   have bh:ItB d9 g bm (K.vars q).length 0 0 0 (λ_=>0) (λ_=>0) 0:=by subst hK;exact cj
   have et:=H8.iter au e5 (ae.trans aw) (nL ae.size dt) bh;have bi:=eh.ext (((au.trans ae)).trans aw);have bw:K.n=n:=by rw[hK]
   have d7:K.base=w.heap.size:=by rw[hK]
   have f9:K.J=J:=by rw[hK]
   have bc:K.Ba=Ba:=by rw[hK]
   have ap:Ext w d9:=(bz.trans au).trans (ae.trans aw);have cy:∀ {w':World} {e sz m':Nat} {v:Value} {xs:List Value},w'.ownsRow K.base e sz v m' xs->∀ k,v.ownBlock=some k->w.heap.size<=k:=λho k ek=>by
    obtain⟨_,_,_,_,hf⟩:=Jy ho;rw[<-d7];exact(hf k ek).1
   refine ρ ?_;refine bsl (Qjk (some ⟨g,0,none⟩)) ?_;intro fi b3 a3 fm ff;have bn:=et.ext a3;refine ρ ?_;refine apb (base:=K.base) EIt bn.all (ff.rd (n:=1) rfl) (λu hu=>by rw[List.mem_singleton.1 hu];rfl) (by unfold maxLen;simp;omega) (by simp;omega) (by rw[d7];exact(ap.trans a3).size) ?_;intro cq ew c8 ai cb;have es:=bn.pushAll c8 ai cb;have cm:=(bi.ext a3).grown ai ((bi.ext a3).ne_own bn.all rfl);have c5:Ext w ew:=Jh (ap.trans a3) ai (cy bn.all);refine ρ ?_;refine ld (cm.at (i:=0) rfl) ?_;refine ρ ?_;refine Qw (fun (t:Nat) (vt:Nat->Value)=>[(0,.int .i64 (n:Int)),(8,.pointer (some ⟨J,0,none⟩)),(11,cq),(41,.slice Aa ts.length ca),(42,.int .i64 (ts.length:Int)),(43,.int .i64 (q:Int)),(18,.pointer (some ⟨g,0,none⟩)),(78,.slice D (nz (vars q)).length d),(79,.int .i64 ((nz (vars q)).length:Int)),(80,.int .i64 (t:Int))])
    (λt vt w'=>t<=(vars q).length/\Ext w w'/\RB K (q+1) { G:=upd S.G q g,A:=upd S.A q bm,lo:=upd S.lo q w8.heap.size,hi:=upd S.hi q w9.heap.size,va:=cq,vat:=vt } (λv=>Zq vars S.G q v++if v∈(vars q).take t then[itp g] else[]) (((List.range q).map λj=>itp (S.G j))++[itp g]) w') (λt _=>(vars q).length-t) 0 S.vat sB
    ⟨Nat.zero_le _,c5,?_⟩ ?_
   .have e:(λv=>Zq vars S.G q v++if v∈(vars q).take 0 then[itp g] else[])=Zq vars S.G q:=by funext v;simp
    rw[e];exact es
   clear es bn c8 ai cb cm c5 et bi cj bh e6 e5;rintro t vt cp ⟨ht,ah,ao⟩;refine ρ ?_;refine ci (λh=>?_) (λh=>?_)
   .have lt:t<(vars q).length:=by have:=oT h;omega
    clear h;obtain⟨vi,cu⟩:∃ vi,vi=(vars q).getD t 0:=⟨_,rfl⟩;have ey:vi∈vars q:=by rw[cu];exact getD_mem' 0 _ lt
    have am:vi<n:=hok.lt q lq vi ey;have ax:vi<K.n:=by rw[bw];exact am
    have ck:=du.ext ah;refine ρ ?_;refine ix t ck (by rw[dj];exact lt) ?_;refine ρ ?_;refine ld (ck.cell (Qg lt)) ?_;rw[<-cu];obtain⟨own,b5⟩:∃ own,own=(vt vi).ownBlock:=⟨_,rfl⟩;have bg:=ao.jb;rw[f9,bc,bw]at bg;have a7:=ao.at_;rw[bw,bc]at a7;have b6:=ao.lists.own vi ax;have nJ:¬ one own J:=λe=>by
     have U:own=some J:=e;exact bg.ne_own b6 rfl (by rw[<-U];exact b5)
    have nA:∀ ad,Ba=some ad->¬ one own ad.block:=λad e h'=>by
     subst e;exact Im a7 b6 rfl rfl (by have U:own=some ad.block:=h';rw[<-U];exact b5.symm)
    refine ρ ?_;refine drN (one own) 8 [(0,0),(0,1),(0,2),(0,3),(0,4),(0,5),(0,6),(0,7),(0,8),(0,9),(0,10),(0,11),(0,12),(1,13),(1,14),(0,15),(2,16)] kr ?_;have a2:Ext cp cp.drew:=(Ext.refl cp).drew;have er:=ao.ext a2;have bf:=bg.ext a2;have aj:=Jv a7 a2;have d2:((List.range n).map vt)[vi]?=some (vt vi):=by simp[am]
    refine ρn ?_;refine nld (Qh (bf.at (i:=1) rfl) nJ) ?_;refine ρn ?_;refine nld (Qh (bf.at (i:=1) rfl) nJ) ?_;refine ρn ?_;refine nix vi (Rd.own aj) am ?_;refine ρn ?_;refine nld (λw' hg=>(Zm (Rd.own aj) hg (λ_ ad e=>nA ad e)).cell d2) ?_;refine ρn ?_;refine nop ?_;refine bsl (Qjk (some ⟨g,0,none⟩)) ?_;intro fh b4 af fl fe;refine ρ ?_;refine Ql (GrN.ext af) ?_;have an:=er.ext af;refine nop ?_;have e0:=Qpg vars S.G q vi;refine apb (base:=K.base) EIt (an.lists.own vi ax) (fe.rd (n:=1) rfl) (λu hu=>by rw[List.mem_singleton.1 hu];rfl) ?_ ?_ (by rw[d7];exact((ah.trans a2).trans af).size) ?_
    .rw[List.length_append];unfold maxLen;split<;>simp<;>omega
    .rw[List.length_append];split<;>simp<;>omega
    intro v4 eu di b8 dl;refine ρ ?_;refine Ql (GrN.by b8 λj ej=>by rw[<-b5]at ej;exact ej) ?_;obtain⟨c1,c2,c3,ep,cd⟩:=an.pushAt ax di b8 dl;rw[bc]at c1 c2 ep cd;have co:=Zw an.at_ (an.lists.own vi ax) b8 rfl;rw[bw,bc]at co;refine ρn ?_;refine nix vi (Rd.own co) am ?_;refine ρn ?_;refine Xt ?_;refine sto c1 c2 ?_ (hv:=c3);have dd:Ext w (eu.setCell (adr Ba vi) v4):=cd.old ((ah.trans a2).trans af) (λk hk=>by
     rcases hk with hk|hk
     .exact cy (an.lists.own vi ax) k hk
     exact cy an.at_ k (by rw[bc];exact hk))
    refine ω5 ?_;refine Up ?_;refine ρn ?_;refine ρ ?_;refine Ja (t+1) (upd vt vi v4) sO ⟨om,dd,?_⟩ om;have dh:(vars q).take (t+1)=(vars q).take t++[vi]:=by rw[Xy 0 lt,cu]
    have f0:vi ∉ (vars q).take t:=λhm=>by
     have U:((vars q).take (t+1)).Nodup:=(Qqd (hok.asc q lq)).sublist (List.take_sublist _ _);rw[dh,List.nodup_append]at U;exact U.2.2 _ hm _ (List.mem_singleton.2 rfl) rfl
    have e:upd (λv=>Zq vars S.G q v++if v∈(vars q).take t then[itp g] else[]) vi ((Zq vars S.G q vi++if vi∈(vars q).take t then[itp g] else[])++[.pointer (some ⟨g,0,none⟩)])=(λv=>Zq vars S.G q v++if v∈(vars q).take (t+1) then[itp g] else[]):=by
     funext v
     rw[dh];by_cases e:v=vi
     .subst e;rw[Qy,if_neg f0,if_pos (by simp)];simp[itp]
     rw[Jp _ _ e];congr 1
     by_cases U:v∈(vars q).take t
     .rw[if_pos U,if_pos (by simp[U])]
     rw[if_neg U,if_neg (by simp[U,e])]
    rw[<-e];exact ep
   have cv:t=(vars q).length:=by have:=oF h;omega
   subst cv;clear h;refine ρ ?_;refine Ja (q+1) ⟨upd S.G q g,upd S.A q bm,upd S.lo q w8.heap.size,upd S.hi q w9.heap.size,cq,vt⟩ sO ⟨om,ah,?_⟩ om;have e1:(λv=>Zq vars S.G q v++if v∈(vars q).take (vars q).length then[itp g] else[])=Zq vars (upd S.G q g) (q+1):=by
    funext v
    rw[Qpf,List.take_length,Qy,Qph (G':=upd S.G q g) (λj hj=>(Jp _ _ om).symm)]
   have e2:((List.range q).map λj=>itp (S.G j))++[itp g]=(List.range (q+1)).map λj=>itp (upd S.G q g j):=by
    rw[List.range_succ,List.map_append,List.map_singleton,Qy];congr 1
    refine List.map_congr_left λj hj=>?_;have:=List.mem_range.1 hj;rw[Jp _ _ om]
   rw[e1,e2]at ao;exact ao
  have ez:q=ts.length:=by have:=oF h;omega
  subst ez;clear h;subst hK;obtain⟨h0,bt⟩:∃ h0,h0=w4.heap.size:=⟨_,rfl⟩;obtain⟨a9,ak⟩:∃ a9:Nat->Prop,a9=λk=>k=J∨(∃ i,i<ts.length/\k=S.G i)∨(Value.slice Ra n n).ownBlock=some k:=⟨_,rfl⟩;obtain⟨c,hc⟩:∃ c:JC,c=⟨⟨S.G,S.A,λi=>(vars i).length,rs⟩,n,ts.length,vars,J,Ra,w.heap.size,.slice Ba n n,.func (.func bj) first bl,S.vat,λk=>bx' k∨h0<=k∨a9 k⟩:=⟨_,rfl⟩;have d6:∀ k,c.NI k↔a9 k:=λk=>by subst hc;subst ak;exact Iff.rfl
  have bv:∀ k,c.N k↔bx' k∨h0<=k∨a9 k:=λk=>by subst hc;exact Iff.rfl
  have ec:J<h0:=by rw[bt];exact H4.jb.lt
  have c6:∀ {e sz m':Nat} {v:Value} {xs:List Value},w4.ownsRow w.heap.size e sz v m' xs->∀ k,v.ownBlock=some k->w.heap.size<=k/\k<h0:=λho k ek=>by
   obtain⟨_,_,_,_,hf⟩:=Jy ho;rw[bt];exact hf k ek
  have bb:∀ k,a9 k->w.heap.size<=k/\k<h0:=λk hk=>by
   subst ak;rcases hk with hk|⟨i,hi,hk⟩|hk
   .subst hk;exact⟨e4,ec⟩
   .subst hk;have U:=(H4.its i hi).lt;have h2:=H4.jg i hi;simp only at h2;omega
   exact c6 H4.row k hk
  have f8:∀ k,k<h0->¬ bx' k->¬ a9 k->¬ c.N k:=λk U h2 h3 h4=>by
   rcases(bv k).1 h4 with h5|h5|h5
   .exact h2 h5
   .omega
   exact h3 h5
  have cg:∀ k,w.heap.size<=k->¬ bx' k:=λk hk hb=>by have:=hbx k hb;omega
  have aa:∀ {e sz m':Nat} {v:Value} {xs:List Value},w4.ownsRow w.heap.size e sz v m' xs->Nat.beq e 191=false->Nat.beq e 224=false->Nat.beq 75 e=false->∀ k,v.ownBlock=some k->¬ c.N k:=λho e1 e2 e3 k ek=>by
   have U:=c6 ho k ek;refine f8 k U.2 (cg k U.1) λh2=>?_;subst ak;rcases h2 with h2|⟨i,hi,h2⟩|h2
   .subst h2;exact H4.jb.ne_own ho e1 ek.symm
   .subst h2;exact(H4.its i hi).ne_own ho e2 ek.symm
   exact Im H4.row ho e3 h2 ek
  have fa:∀ v,c.I v=(List.range ts.length).filter λi=>decide (v∈vars i):=λv=>by subst hc;rfl
  have c7:∀ v,Ih c.F (c.I v)=Zq vars S.G ts.length v:=λv=>by rw[fa];subst hc;rfl
  have ed:∀ v,(c.I v).length=(Zq vars S.G ts.length v).length:=λv=>by rw[<-c7];simp[Ih]
  have bd:JOk c:=by
   have dq:∀ i j,i<ts.length->j<ts.length->S.G i=S.G j->i=j:=λi j hi hj e=>by
    rcases Nat.lt_trichotomy i j with U|U|U
    .have:=H4.ginj i j U hj;omega
    .exact U
    have:=H4.ginj j i U hi;omega
   have f4:∀ i,i<ts.length->S.G i≠J:=λi hi e=>by have:=H4.jg i hi;simp only at this;omega
   have dw:∀ i,i<ts.length->(vars i).length<=32:=λi hi=>by have:=Jzb (hok.asc i hi) (hok.lt i hi);omega
   subst hc;exact⟨dk,dm,hok.asc,hok.lt,λi _=>rfl,dw,c9,hok.srt,hok.len,hok.big,dq,f4,hok.cov,λk hk=>.inr (.inr ((d6 k).1 hk))⟩
  have d8:JEnv c w4:=by
   refine⟨λi hi=>?_,⟨Ba,n,by subst hc;rfl,?_⟩,λv hv=>?_⟩
   .have bs:i<ts.length:=by subst hc;exact hi
    have U:=H4.tri i bs;have h2:Off c.N w4 (λu=>TriA u (S.A i) (vars i).length (rs i)):=U.mono λk hk h=>by
     have h3:=(H4.jlo i bs);have h4:=H4.iv i k bs;simp only at h3;rcases(bv k).1 h with h5|h5|h5
     .have:=hbx k h5;exact .inl om
     .omega
     subst ak;rcases h5 with h5|⟨i',cz,h5⟩|h5
     .exact h4 (.inl h5)
     .subst h5;exact H4.gi i' i cz bs
     exact h4 (.inr (.inl h5))
    subst hc;exact h2
   .have U:=Jqv H4.at_ (aa H4.at_ rfl rfl rfl);have h2:=U.imp (Ψ:=λu=>Rd u 1 Ba n ((List.range n).map S.vat)) λu h=>Rd.own h;have:c.n=n/\c.vat=S.vat:=by subst hc;exact⟨rfl,rfl⟩
    rw[this.1,this.2];exact h2
   have am:v<n:=by subst hc;exact hv
   have ho:=H4.lists.own v am;obtain⟨B,cc,e1,e2,e3⟩:=Jy ho;have:c.vat v=S.vat v:=by subst hc;rfl
   refine⟨B,cc,by rw[this,e1,ed],?_⟩;rw[c7,ed];refine(Jqv ho (aa ho rfl rfl rfl)).imp λu h=>?_;rw[e1]at h;exact Rd.own h
  have d5:YC c (λl u=>Y h0 l u/\h0<=u.heap.size) (λk=>bx' k∨h0<=k):=by
   refine⟨λk hk=>(bv k).2 (by rcases hk with h|h;(exact .inl h);exact .inr (.inl h)),λk hk h=>?_,λl u u' h hg=>⟨hY.keep _ _ _ _ h.1 (hg.mono λk _ hk=>?_),Nat.le_trans h.2 hg.size⟩,bj,first,bl,by subst hc;rfl,λl u vr z h hr hl=>?_⟩
   .have U:=bb k ((d6 k).1 h);rcases hk with h2|h2
    .exact cg k U.1 h2
    omega
   .have U:=bb k ((d6 k).1 hk);exact U
   refine(d3 h0 l u vr z h.2 h.1 hr hl).mono ?_;rintro r u' ⟨U,h2,h3⟩;exact⟨U,⟨h2,Nat.le_trans h.2 h3.size⟩,h3⟩
  have dx:c.n=n:=by subst hc;rfl
  have dz:c.m=ts.length:=by subst hc;rfl
  have ef:Cfg c (λl u=>Y h0 l u/\h0<=u.heap.size) w4 (List.replicate n V0) (λi=>lv (c.vars i) 0) (λ_=>0) (λ_=>0) (λ_ _=>0) (λ_ _=>0) []:=by
   refine⟨d8,λi hi=>⟨0,?_⟩,?_,by rw[dx];simp,⟨0,?_⟩,by rw[bt];exact hY0 w4 a5,by rw[bt];exact nR _⟩
   .simp only[Jxj];rw[dz]at hi;have:=H4.its i hi;subst hc;exact this
   .have:=H4.row;subst hc;exact this
   have:=H4.jb;subst hc;exact this
  have cn:∀ x,c.Ans x↔Gl n ts.length vars rs x:=λx=>by subst hc;exact Iff.rfl
  have eb:Pth c 0 (List.replicate n V0) (λ_=>0) (λ_=>0):=by
   refine⟨λi hi=>?_,λi hi h=>?_⟩
   .rw[Jxj,Vd,if_pos rfl,List.take_zero]
   rw[Jxj]at h;omega
  have b9:c.J=J:=by subst hc;rfl
  refine ρ ?_;have ce:=Qlx bd d5 (λl U h2=>hcap l U λx hx=>(cn x).1 (h2 x hx)) n 0 (List.replicate n V0) (λ_=>0) (λ_=>0) (λ_ _=>0) (λ_ _=>0) [] w4 (by rw[dx];omega) ef eb List.Pairwise.nil (λx hx=>by cases hx) (λx hx=>by cases hx);rw[b9]at ce;refine cl ce ?_;rintro u w5 ⟨rfl,d0,z5,f5,h5,l5,H5,_,_,dn,f2⟩;have ba:w5.ownsRow w.heap.size 198 1 S.va ts.length ((List.range ts.length).map λj=>itp (S.G j)):=by
   have U:=H4.all;rw[List.length_map,List.length_range]at U;exact Qj U d0 (aa H4.all rfl rfl rfl)
  obtain⟨VA,vc,en,_,_⟩:=Jy ba;rw[en]at ba ⊢;have cw:Off c.N w5 (λu=>Rd u 1 VA ts.length ((List.range ts.length).map λj=>itp (S.G j))):=by
   refine(Jqv ba λg eg=>?_).imp λu h=>Rd.own h;exact aa H4.all rfl rfl rfl g (by rw[en];exact eg)
  refine ρ ?_;refine Jl (fun (i:Nat)=>[(8,.pointer (some ⟨J,0,none⟩)),(104,.slice VA ts.length vc),(105,.int .i64 (ts.length:Int)),(106,.int .i64 (i:Int))])
   (λi w'=>i<=ts.length/\GrN c.N w5 w'/\Cfg c (λl u=>Y h0 l u/\h0<=u.heap.size) w' z5 (λi=>lv (c.vars i) 0) (λ_=>0) (λ_=>0) f5 h5 l5) (λi=>ts.length-i) 0 sB ⟨Nat.zero_le _,GrN.refl _ _,H5⟩ ?_
  rintro i w6 ⟨hi,bu,H6⟩;refine ρ ?_;refine ci (λh=>?_) (λh=>?_)
  .have li:i<ts.length:=by have:=oT h;omega
   clear h;have e7:=cw w6 bu;refine ρ ?_;refine ix i e7 li ?_;refine ρ ?_;refine ld (e7.cell (show((List.range ts.length).map λj=>itp (S.G j))[i]?=some (.pointer (some ⟨S.G i,0,none⟩)) by simp[li,itp])) ?_;obtain⟨sj,be⟩:=H6.jb;rw[b9]at be;refine ρ ?_;refine drN (λ_=>False) 10 [(0,0),(0,1),(0,2),(0,3),(0,4),(1,5),(0,6),(0,7),(0,8),(2,9)] kr ?_;have aq:Ext w6 w6.drew:=(Ext.refl w6).drew;have eo:=H6.ext d5 aq;have a4:=be.ext aq;obtain⟨si,ee⟩:=eo.its i (by rw[dz];exact li);have fb:c.F.G i=S.G i:=by subst hc;rfl
   rw[fb]at ee;refine ρn ?_;refine nld (Qh (a4.at (i:=2) rfl) (λe=>e)) ?_;refine ρn ?_;refine nop ?_;refine cl (Qhr ee) ?_;rintro u w7 ⟨rfl,rfl⟩;refine ρ ?_;refine Ql (GrN.refl _ _) ?_;refine ρn ?_;refine Xt ?_;refine sto (p:=⟨J,2,none⟩) (a4.cell 2) (a4.frozen _) ?_;rw[<-b9]at a4;obtain⟨H8,ds⟩:=eo.steps bd d5 a4 (IntKind.i64.wrap (sj+si));rw[b9]at H8 ds;refine ω5 ?_;refine Up ?_;refine ρn ?_;refine ρ ?_;exact Jf (i+1) sO ⟨om,(bu.trans (GrN.ext aq)).trans (ds.mono λk _ hk=>bd.sub k hk),H8⟩ om
  clear h;obtain⟨sj,be⟩:=H6.jb;rw[b9]at be;refine ρ ?_;refine ld (be.at (i:=2) rfl) ?_;refine ρ ?_;refine Xx ⟨GrN.cut a5 (d0.trans bu) λk hk h=>?_,sj,h0,l5,rfl,H6.y.2,H6.y.1,dn,λx=>?_⟩
  .rcases(bv k).1 h with U|U|U
   .exact U
   .have:=a5.size;omega
   have:=(bb k U).1;omega
  rw[f2,<-cn x];constructor
  .rintro(U|U)
   .cases U
   exact U.1
  intro U;exact .inr ⟨U,rfl⟩
 intro rest;refine gtwo 1 3 kr rfl rfl rfl ?_ ?_
 .refine ρ ?_;refine mkn EV n om (by unfold maxLen;omega) ?_;intro w2 A2 a1 br _;refine Qk (Jpt a1 ?_);refine gpre (fuel':=3) [(1,3)] #[true,true,true,true,true,false,false,false] kr kr rfl ?_;refine Jxr ?_;refine mkn EIts n om (by unfold maxLen;omega) ?_;intro w3 A3 Z bq _;refine Qk (Jxq Z ?_);refine dnil (Jwl ?_);refine rest (A2,A3) _ _ ⟨a1.trans Z,?_,?_⟩ sB
  .rw[Yw,List.length_replicate,<-Jyw];exact Jv br Z
  rw[Jfn]at bq;exact Jqw bq a1.size
 refine ρ ?_;refine mkn EIts n om (by unfold maxLen;omega) ?_;intro w2 A2 a1 br _;refine Qk (Jpt a1 ?_);refine gpre (fuel':=3) [(1,1)] #[true,true,true,true,true,false,false,false] kr kr rfl ?_;refine Jxr ?_;refine mkn EV n om (by unfold maxLen;omega) ?_;intro w3 A3 Z bq _;refine Qk (Jxq Z ?_);refine dnil (Jwl ?_);refine rest (A3,A2) _ _ ⟨a1.trans Z,?_,?_⟩ sB
 .rw[Yw,List.length_replicate,<-Jyw];exact Jqw bq a1.size
 rw[Jfn]at br;exact Jv br Z
end Go.Proofs.YtebiphhfkdbpfaaGreat
namespace Go.Wk
open Go.RowKit
variable {d n t t2 ty:Nat}
theorem fnl{P:Program}{al:AL}{w:World}{Q:Exit->Act->World->Prop}{ops:Array Oper}{rest:List Oper}{pos:String}{aft:Array Edge}{tt:TT}[h:Tab P tt]{x:Operand}{k:TK}{ps rs:Array TypeId}{va:Bool}{f:Fn}{first cap:Array Value}(kk:WL P n ops Q rest ((d,.bool false)::al) w)(ht:tk tt t=some k:=by rfl)(hk:k.desc=.func ps rs va:=by rfl)(hx:ev al x=some (.func f first cap):=by rfl)(hd:Nat.blt d n=true:=by rfl):
  WL P n ops Q (⟨some d,.binOp .eql t x (.const .nilFunc) t2,ty,pos,aft,none⟩::rest) al w :=
 wop hd (λa j=>by
  have i:=Yr h.ok ht hk rfl;have y:a.eval (.const .nilFunc)=.nilFunc:=rfl;have u:∀ d:Nat,(Op.equalIn (d+1) t (.func f first cap) .nilFunc).run P w=.ok false w:=λd=>by simp[Op.equalIn,run_underlying i]
  simp[execOp,j.ev hx,y,eqGuard,binOp,Op.equal,Op.maxDepth,u 9999]) kk
end Go.Wk
namespace Go.Proofs.YtebiphhfkdbpfaaGreat
open Go.RowKit Pl Go.Wk
attribute [local irreducible] WC WL QX WD WDB WP WN WG
variable {b ca n s:Nat}{Y:Nat->List Row->World->Prop}{yv:Value}
structure YZ(s:Nat)(yv:Value)(bx:Nat->Prop)(Y:Nat->List Row->World->Prop): Prop where
 keep:∀ base l w w',Y base l w->GrN (λk=>s<=k/\k<base) w w'->Y base l w'
 call:∃ fid first cap,yv=.func (.func fid) first cap/\∀ base l w w1 vr z,base<=w.heap.size->Y base l w->Ext w w1->RowX w1 (λk=>k<w.heap.size) vr z->l.length<65536->Ret Tryz.prog fid (first.toList++[vr]++cap.toList) w1 λr w'=>r=.bool true/\Y base (l++[z]) w'/\GrN (λk=>bx k∨base<=k) w1 w'
theorem Qmg{bx:Nat->Prop}(hY:YZ s yv bx Y)(hb:s<=b)(hbx:∀ k,bx k->k<s):
  YS (b+1) (.func (.func 67) #[] #[.pointer (some ⟨b,0,none⟩)]) bx (λbase l w=>(Y base l w/\Blk w b 103 [yv])/\b<base):=by
 obtain⟨a5,first,a6,Z,D⟩:=hY.call;subst Z;refine⟨λbase l w w' h J=>⟨⟨hY.keep _ _ _ _ h.1.1 (J.mono λk _ U=>⟨om,U.2⟩),Ju h.1.2 J (λU=>om)⟩,h.2⟩,_,_,_,rfl,λbase l w vr z F h hr hl=>?_⟩;obtain⟨⟨hy,hB⟩,a3⟩:=h;have O:¬ (bx b∨base<=b):=by grind
 refine Jz Tryz.func67 Tryz.ntmps67 rfl kr rfl ?_;refine ρ ?_;refine drN (λk=>bx k∨base<=k) 8 [(0,0),(0,1),(1,2),(1,3),(0,4)] kr ?_;have j:Ext w w.drew:=(Ext.refl w).drew;have a4:=hB.ext j;have a1:=hY.keep _ _ _ _ hy (GrN.ext j);refine ρn ?_;refine nld (Qh (a4.at (i:=0) rfl) O) ?_;refine ρn ?_;refine nop ?_;refine cl (Jdq (hr.ext j) (λk=>k<w.drew.heap.size) (λk U=>U)) ?_;rintro u w1 ⟨hu,y⟩;refine ρ ?_;refine Ql (GrN.ext y) ?_;refine nop ?_;refine clv (D base l w.drew w1 u z F a1 y hu hl) ?_;rintro r w2 ⟨rfl,a2,G⟩;refine ρ ?_;refine Ql G ?_;refine ρn ?_;refine ρ ?_;have J:GrN (λk=>bx k∨base<=k) w w2:=(GrN.ext (j.trans y)).trans G;exact Jq ⟨rfl,⟨⟨a2,Ju hB J O⟩,a3⟩,J⟩
theorem Qmf{w:World}{ts:List TA}{Aa:Option Addr}{vars:Nat->List Nat}{rs:Nat->List Row}{bx':Nat->Prop}(hok:RunOk n ts vars rs)(hR:Rd w 3 Aa ts.length (atC ts))(hle:ts.length<=ca)(hat:∀ p∈ts,AtV w p.1 p.2)(hchk:Gf n (ts.map (·.2)))(hbx:∀ k,bx' k->k<w.heap.size)(hY:YZ w.heap.size yv bx' Y)(hY0:∀ w',Ext w w'->Y w'.heap.size [] w')(hcap:∀ l:List Row,Lt [] l->(∀ x∈l,Gl n ts.length vars rs x)->l.length<=65536):
  Ret Tryz.prog 36 [.int .i64 (n:Int),yv,.slice Aa ts.length ca] w λu w'=>GrN bx' w w'/\∃ st base l,u=.tuple #[.int .i64 st,.int .i64 0]/\w.heap.size<=base/\base<=w'.heap.size/\Y base l w'/\Lt [] l/\∀ x,x∈l↔Gl n ts.length vars rs x:=by
 have a4:=hok.m32;obtain⟨a2,first,a3,U,_⟩:=hY.call;subst U;refine Jz Tryz.func36 Tryz.ntmps36 rfl kr rfl ?_;refine ρ ?_;refine bx ?_;intro w1 b y hb hB;refine ρ ?_;refine cl (Jpr (n:=(n:Int)) (ats:=ts.map (·.2)) ⟨ts,Aa,ca,rfl,rfl,hle,om,hR.ext y,λp Z=>(hat p Z).ext y⟩) ?_
 rintro u w2 ⟨G,e,rfl,he⟩;have e0:=he.2 hchk;subst e0;have F:=hB.ext G;refine ρ ?_;refine ld (F.at (i:=0) rfl) ?_;refine ρ ?_;refine fnl ?_;have j:=y.trans G;have a5:b+1<=w2.heap.size:=F.lt;refine ρ ?_;refine cl (Qvk (bx':=bx') (Y:=λbase l w=>(Y base l w/\Blk w b 103 [.func (.func a2) first a3])/\b<base) hok (hR.ext j) (λp Z=>(hat p Z).ext j) (λk J=>nM (hbx k J) j.size) ?_ (λw' D=>⟨⟨hY0 w' (j.trans D),F.ext D⟩,by have:=D.size;omega⟩) hcap) ?_
 .have O:=Qmg hY hb hbx;exact⟨λbase l u u' h hg=>O.keep base l u u' h (hg.mono λk _ J=>⟨om,J.2⟩),O.call⟩
 rintro u w3 ⟨a1,st,base,l,rfl,O,⟨⟨h2,_⟩,h3⟩,h4,h5⟩;refine ρ ?_;exact Xx ⟨GrN.cut j a1 λk _ J=>J,st,base,l,rfl,om,O,h2,h4,h5⟩
end Go.Proofs.YtebiphhfkdbpfaaGreat
namespace Go.Wk
open Go.RowKit
variable {e:Act}{parts:Array (Nat×Operand)}{pw:Array (Nat×Value)}{a b:Int}{k1 k2:IntKind}{vs:List Value}{i s t v:Nat}{x y:Operand}{yt:TypeId}
section
variable {N:Nat->Prop} {P:Program} {n:Nat} {al:AL} {w:World} {Q:Exit->Act->World->Prop} {ops:Array Oper} {rest:List Oper} {drest:List (Nat×Oper)}
variable {d ty:Nat} {pos:String} {aft:Array Edge}
theorem Jhx{t:TypeId}(hx:ev al x=some (.int k1 a))(hy:ev al y=some (.int k2 b))(h0:0<=b)(he:Fr n al e)(dst:Option Nat)(w:World):
  (execOp e.eval ⟨dst,.binOp .shr t x y yt,ty,pos,aft,none⟩).run P w=.ok (.value (.int k1 (a.fdiv (2^(min b.toNat k1.bits))))) w:=by
 have i:¬ b<0:=om
 simp[execOp,he.ev hx,he.ev hy,eqGuard,binOp,Op.shift,i]
theorem Jzw{t:TypeId}(hx:ev al x=some (.int k1 a))(hy:ev al y=some (.int k2 b))(h0:0<=b)(he:Fr n al e)(dst:Option Nat)(w:World):
  (execOp e.eval ⟨dst,.binOp .shl t x y yt,ty,pos,aft,none⟩).run P w=.ok (.value (.int k1 (k1.wrap (a*2^(min b.toNat k1.bits))))) w:=by
 have i:¬ b<0:=om
 simp[execOp,he.ev hx,he.ev hy,eqGuard,binOp,Op.shift,i]
theorem Jhr(s v:Nat)(hv:v<=32): ((s:Int)).fdiv (2^(min ((v:Nat):Int).toNat 32))=((s / 2^v:Nat):Int):=by grind
theorem Qbx(hv:v<32): 2^v<4294967296:=nM (Nat.pow_lt_pow_right (by decide:1<2) hv) (by decide)
theorem Jyh(hv:v<32): IntKind.u32.wrap (1*2^(min ((v:Nat):Int).toNat 32))=((2^v:Nat):Int):=by
 have h:=Qbx hv;rw[Int.toNat_natCast,Nat.min_eq_left om,Int.one_mul];have:((2:Int)^v)=((2^v:Nat):Int):=by simp
 rw[this,IntKind.wrap_u32];grind
theorem sr32{t:TypeId}(hv:v<=32)(kk:WL P n ops Q rest ((d,.int .u32 ((s / 2^v:Nat):Int))::al) w)(hx:ev al x=some (.int .u32 (s:Int)):=by rfl)(hy:ev al y=some (.int .i64 (v:Int)):=by rfl)(hd:Nat.blt d n=true:=by rfl):
  WL P n ops Q (⟨some d,.binOp .shr t x y yt,ty,pos,aft,none⟩::rest) al w:=by
 rw[<-Jhr s v hv]at kk;exact wop hd (λa i=>Jhx hx hy om i (some d) w) kk
theorem sl32{t:TypeId}(hv:v<32)(kk:WL P n ops Q rest ((d,.int .u32 ((2^v:Nat):Int))::al) w)(hy:ev al y=some (.int .i64 (v:Int)):=by rfl)(hd:Nat.blt d n=true:=by rfl):
  WL P n ops Q (⟨some d,.binOp .shl t (.const (.int .u32 1)) y yt,ty,pos,aft,none⟩::rest) al w:=by
 rw[<-Jyh hv]at kk;exact wop hd (λa i=>Jzw (x:=.const (.int .u32 1)) rfl hy om i (some d) w) kk
end
section
variable {N:Nat->Prop} {P:Program} {n:Nat} {al:AL} {w:World} {Q:Exit->Act->World->Prop} {ops:Array Oper} {drest:List (Nat×Oper)}
variable {d ty:Nat} {pos:String} {aft:Array Edge}
theorem Jlf{v:Value}(hb:∀ w,(Instr.build t pw).run P w=.ok v w)(hx:evs al (parts.toList.map (·.2))=some vs)(hp:((parts.toList.map (·.1)).zip vs).toArray=pw){a:Act}(ha:Fr n al a)(dst:Option Nat)(w:World):
  (execOp a.eval ⟨dst,.build t parts,ty,pos,aft,none⟩).run P w=.ok (.value v) w:=by
 subst hp;have u:=ha.evs hx;have j:(parts.map fun (i,x)=>(i,a.eval x))=((parts.toList.map (·.1)).zip vs).toArray:=by grind
 simp only[execOp,j,Sem.run_bind,hb w];rfl
theorem nbld{v:Value}(hb:∀ w,(Instr.build t pw).run P w=.ok v w)(kk:WN N P n ops Q drest ((d,v)::al) w)(hx:evs al (parts.toList.map (·.2))=some vs:=by rfl)(hp:((parts.toList.map (·.1)).zip vs).toArray=pw:=by rfl)(hd:Nat.blt d n=true:=by rfl): WN N P n ops Q ((0,⟨some d,.build t parts,ty,pos,aft,none⟩)::drest) al w :=
 ny_ (λw' _ a i=>Jlf hb hx hp i (some d) w') hd kk
theorem dbld{v:Value}(hb:∀ w,(Instr.build t pw).run P w=.ok v w)(kk:WD P n ops Q drest ((d,v)::al) w)(hx:evs al (parts.toList.map (·.2))=some vs:=by rfl)(hp:((parts.toList.map (·.1)).zip vs).toArray=pw:=by rfl)(hd:Nat.blt d n=true:=by rfl): WD P n ops Q ((0,⟨some d,.build t parts,ty,pos,aft,none⟩)::drest) al w :=
 dy (λw' _ a i=>Jlf hb hx hp i (some d) w') hd kk
end
theorem Jxz(hs:s<4294967296): (bits .and .u32 ((s / 2^v:Nat):Int) 1 == 1)=s.testBit v:=by
 have i:s / 2^v<4294967296:=nN (Nat.div_le_self _ _) hs;have j:=u32_and_nat (s / 2^v) 1 i om;grind
def Jzd(s t:Nat): Nat:=s &&& (4294967295-t)
theorem Qqg(hs:s<4294967296)(ht:t<4294967296): (Jzd s t).testBit i=(s.testBit i && !t.testBit i):=by
 unfold Jzd;have e:4294967295-t=2^32-(t+1):=om
 rw[Nat.testBit_and,e,Nat.testBit_two_pow_sub_succ om];by_cases hi:i<32
 .grind
 have:s.testBit i=false:=Nat.testBit_lt_two_pow (nM hs (Nat.pow_le_pow_right (n:=2) (by decide) (show 32<=i by omega)));rw[this];rfl
theorem Jfb(hs:s<4294967296)(ht:t<4294967296): bits .andNot .u32 (s:Int) (t:Int)=((Jzd s t:Nat):Int):=u32_andNot_nat s t hs ht
theorem Qrw(hs:s<4294967296)(ht:t<4294967296): bits .or .u32 (s:Int) (t:Int)=((s ||| t:Nat):Int):=u32_or_nat s t hs ht
theorem Qdd(hs:s<4294967296)(ht:t<4294967296): s ||| t<4294967296:=Nat.or_lt_two_pow (n:=32) hs ht
end Go.Wk
namespace Go.Proofs.YtebiphhfkdbpfaaGreat
open Go.RowKit Pl Go.Wk
attribute [local irreducible] WC WL QX WD WDB WP WN WG
variable {cs vars:List Nat}{b base c d k n s ty z:Nat}{w:World}
def Qa(vars:List Nat)(s:Nat): List Nat:=(List.range vars.length).filter λi=>s.testBit (vars.getD i 0)
def inS(vars:List Nat)(s:Nat): List Nat:=vars.filter λv=>s.testBit v
theorem Jxx(h:c∈Qa vars s): c<vars.length:=List.mem_range.1 (List.mem_filter.1 h).1
def Zt(vars:List Nat)(s k:Nat): List Nat:=(List.range k).filter λi=>s.testBit (vars.getD i 0)
theorem Jjp(vars:List Nat)(s k:Nat): Zt vars s (k+1)=Zt vars s k++if s.testBit (vars.getD k 0) then[k] else[]:=by grind [Zt,List.range_succ]
theorem Jjg(h:k<vars.length): inS (vars.take (k+1)) s=inS (vars.take k) s++if s.testBit (vars.getD k 0) then[vars.getD k 0] else[]:=by grind [inS,Xy,List.filter_cons_of_pos,List.filter_cons_of_neg]
theorem Kg(vars:List Nat)(s:Nat): ∀ k,k<=vars.length->(Zt vars s k).length=(inS (vars.take k) s).length
 | 0,_=>by simp[Zt,inS]
 | k+1,h=>by
  rw[Jjp,Jjg om,List.length_append,List.length_append,Kg vars s k om];split<;>rfl
theorem bs1Int''(z:Int)(w:World): (Instr.buildSlice 28 1 #[(0,.int .i64 z)]).run Tryz.prog w=.ok (.slice (some ⟨w.heap.size,0,none⟩) 1 1) (w.alloc (.cells [.int .i64 z].toArray 3)):=kr
theorem Qdt(a b:List Nat): nz (a++b)=nz a++nz b:=by simp[nz]
theorem Qlc(a b:List Int): Jt (a++b)=Jt a++Jt b:=by simp[Jt]
abbrev Qz(w:World)(base:Nat)(v:Value)(cs:List Nat): Prop:=w.ownsRow base 3 1 v cs.length (Jt (nz cs))
theorem apI{al:AL}{Q:Exit->Act->World->Prop}{ops:Array Oper}{rest:List Oper}{pos:String}{aft:Array Edge}{x y:Operand}{v:Value}(ho:Qz w base v cs)(hb:Blk w b 3 [.int .i64 (z:Int)])(hm:cs.length<=1100000)(hbase:base<=w.heap.size)(kk:∀ v' w',Qz w' base v' (cs++[z])->w.grownBy w' v.ownBlock->(∀ g,v'.ownBlock=some g->v.ownBlock=some g∨w.heap.size<=g)->WL Tryz.prog n ops Q rest ((d,v')::al) w')(hx:ev al x=some v:=by rfl)(hy:ev al y=some (.slice (some ⟨b,0,none⟩) 1 1):=by rfl)(hd:Nat.blt d n=true:=by rfl):
  WL Tryz.prog n ops Q (⟨some d,.call { callee:=.builtin .append,args:=#[x,y],argTypes:=#[28,28] },ty,pos,aft,none⟩::rest) al w:=by
 refine apb (base:=base) EI ho (hb.rd (n:=1) rfl) (λu j=>by rw[List.mem_singleton.1 j];rfl) (by unfold maxLen;omega) om hbase ?_ hx hy hd;intro v' w' i D hn;refine kk v' w' ?_ D hn;rw[Qz,List.length_append,Qdt,Qlc];exact i
theorem Qjw{t:V3}{rs:List Row}(hA:AtV w t ⟨nz vars,vars.length,rs⟩)(hs:s<4294967296)(hasc:Qc vars)(hlt:∀ v∈vars,v<32)(hlen:∀ r∈rs,r.length=vars.length)(hbig:rs.length<=65536):
  Ret Tryz.prog 9 [.agg t.cells.toArray,.int .u32 (s:Int)] w λu w'=>Ext w w'/\∃ t':V3,u=.tuple #[.agg t'.cells.toArray,.int .i64 0]/\∃ m,Off (λk=>k<w.heap.size) w' (λx=>AtV x t' ⟨nz (inS vars s),(inS vars s).length,m⟩)/\m.length<=65536/\(∀ x∈m,x∈rs.map (pmR (Qa vars s))) /\
   ((rs.length<=12∨Srt [] (rs.map (pmR (Qa vars s))))->Xd [] (rs.map (pmR (Qa vars s))) m):=by
 obtain⟨t1,t2,t3⟩:=t;obtain⟨⟨D,d,e1,hd,d8,cb⟩,e2,be⟩:=id hA;simp only at e1 e2;subst e1;subst e2;obtain⟨ps,G,gc,_,c4,_⟩:=id be;simp only at c4;subst c4;have d0:=Js vars;have dh:=Jzb hasc hlt;refine Jz Tryz.func9 Tryz.ntmps9 rfl kr rfl ?_;refine ρ ?_;refine bx ?_;intro w1 b c1 hb hB;refine ρ ?_;refine alc Vy ?_;intro w2 br bz dm bn;have bs:=hB.ext bz;have ax:=c1.trans bz;have aj:Rd w 1 D (nz vars).length (Jt (nz vars)):=cb;clear cb hd d8;have mono:∀ i,1<=i->i<vars.length->vars.getD (i-1) 0<vars.getD i 0:=λi h1 h2=>by
  have:=List.pairwise_iff_getElem.1 hasc (i-1) i om h2 om;simpa [List.getD,List.getElem?_eq_getElem h2,List.getElem?_eq_getElem (show i-1<vars.length by omega)] using this
 have ay:∀ i,i<vars.length->vars.getD i 0<32:=λi hi=>hlt _ (getD_mem' 0 _ hi);refine ρ ?_;refine Jl (fun (i:Nat)=>[(1,.int .u32 (s:Int)),(2,.pointer (some ⟨b,0,none⟩)),(4,.pointer (some ⟨br,0,none⟩)),(6,.int .i64 (i:Int))])
  (λi w'=>1<=i/\i<=1000/\Ext w2 w') (λi=>1000-i) 1 sB ⟨nR _,om,Ext.refl _⟩ ?_
 rintro i w3 ⟨d6,dl,ae⟩;have aw:=bs.ext ae;refine ρ ?_;refine ld (aw.at (i:=0) rfl) ?_;refine ρ ?_;refine ci (λh=>?_) (λh=>?_)
 .have li:i<vars.length:=by have:=oT h;omega
  clear h;have ba:Ext w3 w3.drew:=(Ext.refl w3).drew;have cq:=aw.ext ba;have ar:=aj.ext ((ax.trans ae).trans ba);refine ρ ?_;refine dr [(0,0),(0,1),(0,2),(0,3),(0,4),(0,5),(0,6),(0,7),(0,8),(0,9),(0,10),(0,11)] kr ?_;refine ρd ?_;refine dld (cq.at (i:=0) rfl) ?_;refine ρd ?_;refine dix (i-1) ar om ?_;refine ρd ?_;refine dld (ar.cell (Qg (show i-1<vars.length by omega))) ?_;refine ρd ?_;refine dld (cq.at (i:=0) rfl) ?_;refine ρd ?_;refine dix i ar om ?_;refine ρd ?_;refine dld (ar.cell (Qg li)) ?_;refine ρd ?_;refine ρ ?_;refine cf ?_ ?_
  .exact dF (by have:=mono i d6 li;omega)
  refine ρ ?_;exact Jf (i+1) sO ⟨om,om,ae.trans ba⟩ om
 clear h;refine ρ ?_;refine ld (aw.at (i:=0) rfl) ?_;refine ρ ?_;refine Jl (fun (i:Nat)=>[(1,.int .u32 (s:Int)),(2,.pointer (some ⟨b,0,none⟩)),(4,.pointer (some ⟨br,0,none⟩)),(36,.slice D (nz vars).length d),(37,.int .i64 ((nz vars).length:Int)),(38,.int .i64 (i:Int))])
  (λi w'=>i<=vars.length/\Ext w3 w') (λi=>vars.length-i) 0 sB ⟨Nat.zero_le _,Ext.refl _⟩ ?_
 rintro i w4 ⟨hi,ao⟩;have ad:=(ax.trans ae).trans ao;have de:=aw.ext ao;refine ρ ?_;refine ci (λh=>?_) (λh=>?_)
 .have li:i<vars.length:=by have:=oT h;omega
  clear h;have cm:=aj.ext ad;refine ρ ?_;refine ix i cm om ?_;refine ρ ?_;refine ld (cm.cell (Qg li)) ?_;refine ρ ?_;refine cf ?_ ?_
  .exact dF (by have:=ay i li;omega)
  refine ρ ?_;exact Jf (i+1) sO ⟨om,ao⟩ om
 have d7:i=vars.length:=by have:=oF h;omega
 clear h hi d7;have a7:Ext w4 w4.drew:=(Ext.refl w4).drew;have b5:=de.ext a7;refine ρ ?_;refine dr [(0,0),(0,1),(0,2),(0,3),(0,4),(1,5),(0,6)] kr ?_;refine ρd ?_;refine dld (b5.at (i:=0) rfl) ?_;refine ρd ?_;refine Qq (cs:=[.int .i64 (vars.length:Int),.slice G ps.length gc]) (b5.sub2 (i:=1) rfl rfl) ?_;refine ρd ?_;refine dcl (Jbc ((hA.ext (ad.trans a7)).rel)) ?_;rintro u w5 ⟨rfl,bd⟩;refine⟨bd,?_⟩;refine ρd ?_;refine ρ ?_;refine cf ?_ ?_
 .exact bne_f (by rw[d0])
 have ac:=(ad.trans a7).trans bd;have a5:Ext w2 w5:=((ae.trans ao).trans a7).trans bd;refine ρ ?_;refine alc Vy ?_;intro w6 bq bc dn cp;have bp:=(bs.ext a5).ext bc;have bv:=ac.trans bc;have b4:=(bn.ext a5).ext bc;refine ρ ?_;refine ld (bp.at (i:=0) rfl) ?_;refine ρ ?_;refine Zy (fun (k:Nat) (vv vc:Value)=>[(1,.int .u32 (s:Int)),(2,.pointer (some ⟨b,0,none⟩)),(4,.pointer (some ⟨br,0,none⟩)),(9,.pointer (some ⟨bq,0,none⟩)),(10,vc),(59,.slice D (nz vars).length d),(60,.int .i64 ((nz vars).length:Int)),(61,.int .i64 (k:Int))])
  (λk vv vc w'=>k<=vars.length/\Ext w w'/\Blk w' b 37 [.slice D (nz vars).length d,.int .i64 (vars.length:Int),.slice G ps.length gc]/\Blk w' br 37 [.slice none 0 0,.int .i64 0,.slice none 0 0]/\Blk w' bq 37 [vv,.int .i64 0,.slice none 0 0] /\
   Qz w' w.heap.size vv (inS (vars.take k) s)/\Qz w' w.heap.size vc (Zt vars s k)/\∀ g,vv.ownBlock=some g->vc.ownBlock≠some g) (λk _ _=>vars.length-k) 0 (.slice none 0 0) (.slice none 0 0) sB
  ⟨Nat.zero_le _,bv,bp,b4,cp,Qo _ _ _ _,Qo _ _ _ _,λg e=>(by cases e)⟩ ?_
 clear bp b4 cp;rintro k vv vc w7 ⟨hk,a6,av,a1,a3,a4,aa,ah⟩;refine ρ ?_;refine ci (λh=>?_) (λh=>?_)
 .have lk:k<vars.length:=by have:=oT h;omega
  clear h;have ck:=aj.ext a6;have cc:=Kg vars s k om;have dk:(inS (vars.take k) s).length<=32:=by
   have:=List.length_filter_le (λv=>s.testBit v) (vars.take k);rw[List.length_take]at this;unfold inS;omega
  refine ρ ?_;refine ix k ck om ?_;refine ρ ?_;refine ld (ck.cell (Qg lk)) ?_;refine ρ ?_;refine sr32 (s:=s) (v:=vars.getD k 0) (by have:=ay k lk;omega) ?_;refine ρ ?_;refine ci (λh=>?_) (λh=>?_)
  .rw[Jxz hs]at h;refine ρ ?_;refine ld (a3.at (i:=0) rfl) ?_;refine ρ ?_;refine bsl (bs1Int'' _) ?_;intro w8 b8 j dq dd;refine ρ ?_;refine apI (Jv a4 j) dd om (a6.trans j).size ?_;intro O w9 ap a9 c7;have U:∀ {w':World} {cs:List Nat} {v:Value},Qz w' w.heap.size v cs->∀ g,v.ownBlock=some g->w.heap.size<=g/\g<w'.heap.size:=λho g y=>by
    obtain⟨_,_,_,_,hf⟩:=Jy ho;exact hf g y
   have an:Ext w w9:=Jh (a6.trans j) a9 (λg y=>(U a4 g y).1);have a2:=(a3.ext j).grown a9 ((a3.ext j).ne_own (Jv a4 j) rfl);have au:=(av.ext j).grown a9 ((av.ext j).ne_own (Jv a4 j) rfl);have b3:=(a1.ext j).grown a9 ((a1.ext j).ne_own (Jv a4 j) rfl);have bj:Qz w9 w.heap.size vc (Zt vars s k):=Qj (Jv aa j) (GrN.by a9 λg y=>y) (λg y e=>ah g e y);have b2:∀ g,O.ownBlock=some g->vc.ownBlock≠some g:=λg y e=>by
    rcases c7 g y with h'|h'
    .exact ah g h' e
    have:=(U aa g e).2;have:=j.size;omega
   have df:O.oneCell'=true:=by obtain⟨_,_,e,_⟩:=Jy ap;rw[e];rfl
   refine ρ ?_;refine sto (p:=⟨bq,0,none⟩) (a2.cell 0) (a2.frozen _) ?_ (hv:=df);have bf:w9.grownBy (w9.setCell ⟨bq,0,none⟩ O) (some bq):=Jhv _;have co:=a2.set 0 O;have bw:Ext w (w9.setCell ⟨bq,0,none⟩ O):=an.setCell (by simp only;have:=ac.size;omega) _;have c3:Qz (w9.setCell ⟨bq,0,none⟩ O) w.heap.size O (inS (vars.take k) s++[vars.getD k 0]):=Qj ap (GrN.by bf λg y=>y) (λg y e=>by injection e with e;subst e;exact a2.ne_own ap rfl y.symm);have bh:Qz (w9.setCell ⟨bq,0,none⟩ O) w.heap.size vc (Zt vars s k):=Qj bj (GrN.by bf λg y=>y) (λg y e=>by injection e with e;subst e;exact a2.ne_own bj rfl y.symm);have b6:∀ {x:Nat},x<w5.heap.size->x≠bq:=λh e=>by omega
   have dc:Blk (w9.setCell ⟨bq,0,none⟩ O) b 37 _:=au.far (b6 (by have:=bs.lt;have:=a5.size;omega)) _;have cn:Blk (w9.setCell ⟨bq,0,none⟩ O) br 37 _:=b3.far (b6 (by have:=bn.lt;have:=a5.size;omega)) _;generalize w9.setCell ⟨bq,0,none⟩ O=am at *
   clear a2 au b3 bj an a9 bf ap c7;refine ρ ?_;refine bsl (bs1Int'' _) ?_;intro b7 ds J dj cr;refine ρ ?_;refine apI (Jv bh J) cr om (bw.trans J).size ?_;intro bu a8 cd Z c8;have af:Ext w a8:=Jh (bw.trans J) Z (λg y=>(U bh g y).1);have nb:∀ {g:Nat} {cs:List Value},Blk am g 37 cs->Blk a8 g 37 cs:=λh=>(h.ext J).grown Z ((h.ext J).ne_own (Jv bh J) rfl);refine ρ ?_;refine Xj (k+1) O bu sO ⟨om,af,nb dc,nb cn,nb co,?_,?_,λg y e=>?_⟩ om
   .rw[Jjg lk,if_pos h];exact Qj (Jv c3 J) (GrN.by Z λg y=>y) (λg y e=>b2 g y e)
   .rw[Jjp,if_pos h];exact cd
   rcases c8 g e with h'|h'
   .exact b2 g y h'
   have:=(U c3 g y).2;have:=J.size;omega
  rw[Jxz hs]at h;have hf:¬ s.testBit (vars.getD k 0)=true:=by rw[h];simp
  refine ρ ?_;refine Xj (k+1) vv vc sO ⟨om,a6,av,a1,a3,?_,?_,ah⟩ om
  .rw[Jjg lk,if_neg hf,List.append_nil];exact a4
  rw[Jjp,if_neg hf,List.append_nil];exact aa
 have d3:k=vars.length:=by have:=oF h;omega
 subst d3;clear h;rw[List.take_length]at a4;have d9:Zt vars s vars.length=Qa vars s:=rfl;rw[d9]at aa;obtain⟨VA,cx,bt,cy,_⟩:=Jy a4;obtain⟨CA,dg,cw,da,_⟩:=Jy aa;have bi:(Qa vars s).length<=32:=by
  have:=List.length_filter_le (λi=>s.testBit (vars.getD i 0)) (List.range vars.length);rw[List.length_range]at this;unfold Qa;omega
 have d5:(inS vars s).length<=32:=by
  have:=List.length_filter_le (λv=>s.testBit v) vars;unfold inS;omega
 refine ρ ?_;refine lds (cs:=[.int .i64 (vars.length:Int),.slice G ps.length gc]) (av.sub2 (i:=1) rfl rfl) ?_;refine ρ ?_;have aq:IntsV w7 vc (nz (Qa vars s)):=by
  refine⟨CA,dg,by rw[Js];exact cw,by rw[Js];exact da,by rw[Js];omega,?_⟩;rw[Js];have:=aa;rw[cw]at this;exact Rd.own this
 refine cl (Jlq (cs:=Qa vars s) ((hA.ext a6).rel) aq hlen (λc hc=>Jxx hc) bi hbig) ?_;rintro u w8 ⟨j,rv,rfl,⟨z,RB,rm,rd,rfl⟩,m,c6,d2,d1,c5⟩;refine ρ ?_;refine alc Uw ?_;intro w9 b9 an db au;refine ρ ?_;refine stb (cs':=[.int .i64 z,.slice RB rm rd]) au ?_ Vf;intro am cu di c0;have F:Ext w8 am:=c0 w8 an db;refine ρ ?_;refine ldW cu ?_;have ak:=(a3.ext j).ext F;refine ρ ?_;refine stB (o:=1) (us:=[.int .i64 z,.slice RB rm rd]) ak (by simp) Vf ?_;intro b7 bo ai;refine ρ ?_;refine ldW bo ?_;have ch:w.heap.size<=bq:=by have:=ac.size;omega
 have bb:Ext w b7:=Jcm ((a6.trans j).trans F) ai ch;have cg:br≠bq:=by have:=bn.lt;have:=a5.size;omega
 have bm:Blk b7 br 37 _:=((a1.ext j).ext F).grown ai (λe=>by injection e with e;exact cg e);refine ρ ?_;refine stb (cs':=[vv,.int .i64 z,.slice RB rm rd]) bm ?_ (λu hu=>by
  simp only[List.mem_cons,List.not_mem_nil,or_false]at hu;rcases hu with rfl|rfl|rfl
  .rw[bt];rfl
  .rfl
  rfl)
 intro a8 bl Z _;refine ρ ?_;have ce:w.heap.size<=br:=by have:=c1.size;omega
 have af:Ext w a8:=Jcm bb Z ce;refine Zo bl ⟨af,(vv,.int .i64 z,.slice RB rm rd),rfl,m,?_,d2,d1,c5⟩;have c9:GrN (λk=>k=bq∨k=br) am a8:=(GrN.by ai λk e=>.inl (by injection e with e;exact e.symm)).trans (GrN.by Z λk e=>.inr (by injection e with e;exact e.symm));have cj:bq<w7.heap.size/\br<w7.heap.size:=⟨a3.lt,a1.lt⟩;intro w' ca;have bg:GrN (λk=>k<w7.heap.size) w8 w':=((GrN.ext F).trans (c9.mono λk _ hk=>by rcases hk with rfl|rfl;(exact cj.1);exact cj.2)).trans (ca.mono λk _ hk=>nM hk a6.size);obtain⟨rv,cv,cz⟩:=c6 w' bg;have az:(Value.int .i64 z)=.int .i64 ((Qa vars s).length:Int)/\Value.slice RB rm rd=rv:=by
  simp only[Value.agg.injEq,Array.mk.injEq,List.cons.injEq,and_true]at cv;exact cv
 have c2:Qz w' w.heap.size vv (inS vars s):=by
  have h1:=Jv (Jv a4 j) F;have h2:Qz a8 w.heap.size vv (inS vars s):=Qj h1 c9 λg y hk=>by
   rcases hk with rfl|rfl
   .exact ak.ne_own h1 rfl y.symm
   exact((a1.ext j).ext F).ne_own h1 rfl y.symm
  refine Qj h2 ca λg y hk=>?_;obtain⟨_,_,_,_,hf⟩:=Jy h2;have:=(hf g y).1;omega
 have cc:(Qa vars s).length=(inS vars s).length:=by
  have:=Kg vars s vars.length (nR _);rw[List.take_length]at this;exact this
 refine⟨⟨VA,cx,by rw[Js];exact bt,by rw[Js];exact cy,by rw[Js];omega,?_⟩,?_,?_⟩
 .rw[Js];rw[bt]at c2;exact Rd.own c2
 .simp only;rw[<-cc];exact az.1
 simp only;rw[az.2];exact cz
open Go.RowKit Pl Go.Wk
variable {nums vars:List Nat}{ls rs:List Row}{ar b s:Nat}{w:World}
def RowG(w:World)(cs:List Value)(z:Row): Prop:=∃ v,cs=[v]/\RowV w v z
theorem RowG.ext{w w':World}{cs:List Value}{z:Row}(h:RowG w cs z)(hx:Ext w w'): RowG w' cs z:=by
 obtain⟨v,e,i⟩:=h;exact⟨v,e,i.ext hx⟩
theorem Jlh: ∀(ps:List (List Value×Row)) (w:World),(∀ p∈ps,RowG w p.1 p.2)->∃ qs:List Pr,qs.map (·.2)=ps.map (·.2)/\qs.map (·.1)=Jd ps/\qs.length=ps.length/\∀ q∈qs,RowV w q.1 q.2
 | [],w,_=>⟨[],rfl,rfl,rfl,λq hq=>by cases hq⟩
 | p::ps,w,h=>by
  obtain⟨qs,h1,h2,h3,h4⟩:=Jlh ps w λq hq=>h q (List.mem_cons_of_mem _ hq);obtain⟨v,e,hr⟩:=h p (mC ..);refine⟨(v,p.2)::qs,by simp[h1],?_,by simp[h3],λq hq=>?_⟩;repeat grind [Jd,List.mem_cons.1]
theorem Qvl{v:Value}(h:GV 1 RowG w v ls): RowsV w v ls:=by
 obtain⟨ps,A,c,e,y,u,j,i,F⟩:=h;obtain⟨D,Z,U,O,J⟩:=Jlh ps w λp G=>(F p G).2;rw[<-O]at y u j i;exact⟨D,A,c,by rw[e,Z],y,u,j,by rw[U];exact i,J⟩
def YM(b:Nat)(base:Nat)(l:List Row)(w:World): Prop:=b<base/\∃ v,Blk w b 33 [v]/\OwnG 73 1 RowG w base v l
theorem Qfz(hb:b<s): YZ s (.func (.func 37) #[] #[.pointer (some ⟨b,0,none⟩)]) (λk=>k=b) (YM b):=by
 refine⟨λbase l w w' h hg=>?_,_,_,_,rfl,λbase l w w1 vr z D h hx hr hl=>?_⟩
 .obtain⟨y,v,hB,hO⟩:=h;exact⟨y,v,Ju hB hg (λe=>om),hO.gr hg λk Z=>Z.2⟩
 obtain⟨y,v,hB,hO⟩:=h;have J:=hB.ext hx;have F:=hO.ext hx;obtain⟨RA,rn,rc,a6,_,_,_⟩:∃ A n c,vr=.slice A n c/\True/\True/\True:=by obtain⟨A,c,e,_⟩:=hr;exact⟨A,_,c,e,trivial,trivial,trivial⟩
 refine Jz Tryz.func37 Tryz.ntmps37 rfl kr rfl ?_;refine ρ ?_;refine ld (J.at (i:=0) rfl) ?_;refine ρ ?_;refine bsl (cs:=[vr]) (λw=>Qjg vr w RA rn rc a6) ?_;intro w2 b2 j ah ac;obtain⟨_,_,_,_,hf⟩:=F.form;have hΦ:Off (Va base v) w2 (λu=>RowG u [vr] z):=((hr.off.mono λk Z h=>by
  rcases h with h|h
  .omega
  obtain⟨_,_,_,_,a9⟩:=hO.form;exact(a9 k h).2).imp λu h=>⟨vr,rfl,h⟩).ext j
 refine ρ ?_;refine apG ER (Φ:=RowG) (F.ext j) ac rfl (λu hu=>by rw[List.mem_singleton.1 hu,a6];rfl) hΦ om om (nL D (hx.trans j).size) ?_;intro U O a4 a3 ad;obtain⟨A3,c3,e3,af,ae⟩:=a4.form;have a1:GrN (λk=>k=b∨base<=k) w1 O:=(GrN.ext j).trans (GrN.by a3 λk ek=>.inr (hf k ek).1);have a7:some b≠v.ownBlock:=by
  obtain⟨ps,_,ho,_⟩:=F;exact J.ne_own ho rfl
 have G:Blk O b 33 [v]:=(J.ext j).grown a3 a7;refine ρ ?_;refine sto (p:=⟨b,0,none⟩) (G.cell 0) (G.frozen _) ?_ (hv:=by rw[e3];rfl);have a5:=G.set 0 U;have a2:GrN (λk=>k=b) O (O.setCell ⟨b,0,none⟩ U):=GrN.set _ rfl;refine ρ ?_;have a8:(l++[z]).length=l.length+1:=by simp
 rw[a8]at e3;refine ld (v:=.slice A3 (l.length+1) c3) ((a5.at (i:=0) rfl).trans (by simp[e3])) ?_;refine ρ ?_;have aa:OwnG 73 1 RowG (O.setCell ⟨b,0,none⟩ U) base U (l++[z]):=a4.gr a2 λk Z=>by omega
 refine Jq ⟨?_,⟨y,U,a5,aa⟩,a1.trans (a2.mono λk _ Z=>.inl Z)⟩;rw[decide_eq_true (show((l.length+1:Nat):Int)<=65536 by omega)]
theorem Qrr(z:Int)(A:Option Addr)(n c:Nat)(w:World): (Instr.build 37 #[(1,.agg #[.int .i64 z,.slice A n c])]).run Tryz.prog w=.ok (.agg #[.slice none 0 0,.int .i64 z,.slice A n c]) w:=kr
theorem Qgb{Na:Option Addr}{t:V3}(hA:AtV w t ⟨nz vars,ar,rs⟩)(hB:Blk w b 28 [.slice Na nums.length nums.length])(hN:Rd w 1 Na nums.length (Jt (nz nums)))(hlt:∀ v∈vars,v<nums.length)(hl:vars.length<=1000):
  Ret Tryz.prog 35 [.agg t.cells.toArray,.pointer (some ⟨b,0,none⟩)] w λu w'=>Ext w w'/\∃ v1,u=.agg #[v1,t.2.1,t.2.2]/\Off (λk=>k<w.heap.size) w' (λx=>IntsV x v1 (nz (vars.map λv=>nums.getD v 0))):=by
 obtain⟨t1,t2,t3⟩:=t;obtain⟨⟨D,d,e1,hd,bg,ap⟩,e2,af⟩:=id hA;simp only at e1 e2;subst e1;subst e2;obtain⟨ps,G,gc,_,ak,_⟩:=id af;simp only at ak;subst ak;have bp:=Js vars;have ao:Rd w 1 D (nz vars).length (Jt (nz vars)):=ap;clear ap hd bg;refine Jz Tryz.func35 Tryz.ntmps35 rfl kr rfl ?_;refine ρ ?_;refine bx ?_;intro w1 b1 ac bv b5;refine ρ ?_;refine alc Vy ?_;intro w2 b2 a5 bu az;refine ρ ?_;refine lds (cs:=[.int .i64 (ar:Int),.slice G ps.length gc]) ((b5.ext a5).sub2 (i:=1) rfl rfl) ?_;refine ρ ?_;refine bld (Qrr _ _ _ _ _) ?_;refine ρ ?_;refine alc Vy ?_;intro w3 b3 ba bi bn;refine ρ ?_;refine stb (cs':=[.slice none 0 0,.int .i64 (ar:Int),.slice G ps.length gc]) bn ?_ (λu hu=>by
  simp only[List.mem_cons,List.not_mem_nil,or_false]at hu;rcases hu with rfl|rfl|rfl<;>rfl)
 intro w4 bm bs b9;have a3:Ext w2 w4:=b9 w2 ba bi;have ah:Ext w w4:=(ac.trans a5).trans a3;have b4:=(b5.ext a5).ext a3;have ay:=az.ext a3;refine ρ ?_;refine ld (b4.at (i:=0) rfl) ?_;refine ρ ?_;refine Qw (fun (k:Nat) (vv:Value)=>[(1,.pointer (some ⟨b,0,none⟩)),(3,.pointer (some ⟨b2,0,none⟩)),(4,.pointer (some ⟨b3,0,none⟩)),(11,.slice D (nz vars).length d),(12,.int .i64 ((nz vars).length:Int)),(13,.int .i64 (k:Int))])
  (λk vv w'=>k<=vars.length/\Ext w w'/\Blk w' b2 37 [.slice none 0 0,.int .i64 0,.slice none 0 0]/\Blk w' b3 37 [vv,.int .i64 (ar:Int),.slice G ps.length gc]/\Qz w' w.heap.size vv ((vars.take k).map λv=>nums.getD v 0)) (λk _=>vars.length-k) 0 (.slice none 0 0) sB
  ⟨Nat.zero_le _,ah,ay,bm,Qo _ _ _ _⟩ ?_
 rintro k vv w5 ⟨hk,a1,Z,aa,a2⟩;refine ρ ?_;refine ci (λh=>?_) (λh=>?_)
 .have lk:k<vars.length:=by have:=oT h;omega
  clear h;have av:=ao.ext a1;have ai:=hlt _ (getD_mem' 0 _ lk);obtain⟨own,J⟩:∃ own,own=vv.ownBlock:=⟨_,rfl⟩;have an:∀ j,own=some j->w.heap.size<=j:=λj ej=>by
   obtain⟨_,_,_,_,hf⟩:=Jy a2;exact(hf j (by rw[<-J];exact ej)).1
  have br:((vars.take k).map λv=>nums.getD v 0).length<=1000:=by simp;omega
  refine ρ ?_;refine ix k av om ?_;refine ρ ?_;refine ld (av.cell (Qg lk)) ?_;refine ρ ?_;refine drN (one own) 8 [(0,0),(0,1),(0,2),(0,3),(0,4),(0,5),(1,6),(1,7),(0,8),(2,9)] kr ?_;have F:Ext w5 w5.drew:=(Ext.refl w5).drew;have O:=aa.ext F;have bj:=hB.ext (a1.trans F);have au:=hN.ext (a1.trans F);have a6:=Jv a2 F;have n3:¬ one own b3:=λe=>O.ne_own a6 rfl (by rw[<-J];exact e.symm);have a9:∀ {g:Nat},g<w.heap.size->¬ one own g:=λhg e=>by have:=an _ e;omega
  refine ρn ?_;refine nld (Qh (O.at (i:=0) rfl) n3) ?_;refine ρn ?_;refine nld (Qh (bj.at (i:=0) rfl) (a9 hB.lt)) ?_;refine ρn ?_;refine nix (vars.getD k 0) au ai ?_;refine ρn ?_;refine nld (λw' hg=>(Zm au hg (λh0 ad e=>a9 (by
   obtain⟨bw,e',am,_⟩:=hN.2 h0;rw[e]at e';injection e' with e';subst e';exact am))).cell (Qg ai)) ?_
  refine ρn ?_;refine nop ?_;refine bsl (bs1Int'' _) ?_;intro w6 b6 y bt bl;refine ρ ?_;refine Ql (GrN.ext y) ?_;refine nop ?_;refine apI (Jv a6 y) bl om (((a1.trans F).trans y).size) ?_;intro a4 w7 ae a7 bq;refine ρ ?_;refine Ql (GrN.by a7 λj ej=>by rw[<-J]at ej;exact ej) ?_;refine ρn ?_;refine Xt ?_;have U:=(O.ext y).grown a7 ((O.ext y).ne_own (Jv a6 y) rfl);have aw:=((Z.ext F).ext y).grown a7 (((Z.ext F).ext y).ne_own (Jv a6 y) rfl);have b8:Ext w w7:=Jh ((a1.trans F).trans y) a7 (λj ej=>an j (by rw[J];exact ej));have bo:a4.oneCell'=true:=by obtain⟨_,_,e,_⟩:=Jy ae;rw[e];rfl
  refine sto (p:=⟨b3,0,none⟩) (U.cell 0) (U.frozen _) ?_ (hv:=bo);have be:GrN (λk=>k=b3) w7 (w7.setCell ⟨b3,0,none⟩ a4):=GrN.set _ rfl;have bh:w.heap.size<=b3:=by have:=(ac.trans a5).size;omega
  refine ω5 ?_;refine Up ?_;refine ρn ?_;refine ρ ?_;refine Ja (k+1) a4 sO ⟨om,b8.setCell bh _,aw.far (by simp only;have:=az.lt;omega) _,U.set 0 a4,?_⟩ om;rw[Xy 0 lk,List.map_append];exact Qj ae be (λg eg e=>by subst e;exact U.ne_own ae rfl eg.symm)
 have bd:k=vars.length:=by have:=oF h;omega
 subst bd;clear h;rw[List.take_length]at a2;obtain⟨VA,b7,a8,aj,bb⟩:=Jy a2;rw[List.length_map]at a8 aj;refine ρ ?_;refine ldW aa ?_;refine ρ ?_;refine stb (cs':=[vv,.int .i64 (ar:Int),.slice G ps.length gc]) Z ?_ (λu hu=>by
  simp only[List.mem_cons,List.not_mem_nil,or_false]at hu;rcases hu with rfl|rfl|rfl
  .rw[a8];rfl
  .rfl
  rfl)
 intro w6 ax bf y;refine ρ ?_;have aq:w.heap.size<=b2:=by have:=ac.size;omega
 refine Zv ax ⟨y w a1 aq,vv,rfl,?_⟩;have bc:Qz w6 w.heap.size vv (vars.map λv=>nums.getD v 0):=Qj a2 (GrN.by bf λg eg=>eg) (λg eg e=>by injection e with e;subst e;exact Z.ne_own a2 rfl eg.symm);refine(Jqv bc (λg eg hk=>by have:=(bb g eg).1;omega)).imp λx h=>⟨VA,b7,by rw[Js,List.length_map];exact a8,by rw[Js,List.length_map];exact aj,by rw[Js,List.length_map];omega,?_⟩;rw[a8]at h;rw[Js,List.length_map];simp only[List.length_map]at h;exact Rd.own h
end Go.Proofs.YtebiphhfkdbpfaaGreat
namespace Go.Proofs.YtebiphhfkdbpfaaGreat
open Pl Go.Wk
variable {vars vs:List Nat}{k m n s u v:Nat}
def bk(s v:Nat): List Nat:=(List.range v).filter λu=>s.testBit u
theorem bk_mem: u∈bk s v↔u<v/\s.testBit u=true:=by simp[bk]
theorem Jdx(s v:Nat): bk s (v+1)=bk s v++if s.testBit v then[v] else[]:=by grind [bk,List.range_succ]
theorem Yz(s v:Nat): Qc (bk s v):=List.Pairwise.sublist List.filter_sublist List.pairwise_lt_range
theorem Jdz(s v:Nat): (bk s v).length<=v:=by
 have:=List.length_filter_le (λu=>s.testBit u) (List.range v);rw[List.length_range]at this;exact this
theorem Jpd(s n:Nat): ∀ u,u<=n->lv (bk s n) u=(bk s u).length
 | 0,_=>by rw[Jxj];rfl
 | u+1,h=>by
  have ih:=Jpd s n u om;rw[Jdx,List.length_append,<-ih];by_cases hb:s.testBit u=true
  .rw[if_pos hb,(Vh (Yz s n) (bk_mem.2 ⟨om,hb⟩)).1];rfl
  rw[if_neg hb,Kv (λh'=>hb (bk_mem.1 h').2)];rfl
theorem Ut(ha:Qc vs)(hk:k<vs.length): lv vs (vs.getD k 0)=k:=by
 obtain⟨_,i,j⟩:=Vh ha (getD_mem' 0 vs hk);exact Jnj (Qqd ha) i hk ((Qn 0 vs i).symm.trans (j.trans (Qn 0 vs hk)))
theorem Yx(hs:s<2^n)(h:s.testBit u=true): u<n:=by grind [Nat.lt_or_ge,Nat.testBit_lt_two_pow,Nat.lt_of_lt_of_le,Nat.pow_le_pow_right]
def Zc(s v:Nat): List Nat:=(List.range 32).map λu=>if u<v/\s.testBit u=true then(bk s u).length else 0
theorem Ie(s v:Nat): (Zc s v).length=32:=by simp[Zc]
theorem Qdv(hu:u<32)(h:s.testBit u=true): (Zc s 32).getD u 0=lv (bk s 32) u:=by grind [Jpd,Zc,List.getD]
theorem Jng(hv:v<32): Zc s (v+1)=if s.testBit v then(Zc s v).set v (bk s v).length else Zc s v:=by
 apply List.ext_getElem?
 grind [Ie,Zc,List.getElem?_range,Nat.lt_or_ge]
def rnm(vars:List Nat)(s:Nat): List Nat:=(inS vars s).map λv=>lv (bk s 32) v
theorem inS_mem: v∈inS vars s↔v∈vars/\s.testBit v=true:=by simp[inS]
theorem Jrc(h:Qc vars): Qc (inS vars s):=List.Pairwise.sublist List.filter_sublist h
theorem Qgh(ha:Qc vs)(hu:u∈vs)(h:u<v): lv vs u<lv vs v:=by
 have i:=(Vh ha hu).1;have mono:∀ k,lv vs (u+1)<=lv vs (u+1+k):=by
  intro k;induction k with
  | zero=>exact nR _
  | succ k ih=>
   by_cases h:u+1+k∈vs
   repeat grind [Vh,Nat.add_assoc,Kv]
 have:=mono (v-(u+1));grind
theorem Qvz(h:Qc vars)(hl:∀ v∈vars,v<32): Qc (rnm vars s):=by
 unfold rnm Qc;rw[List.pairwise_map];refine List.Pairwise.imp_of_mem (fun {u v} hu hv huv=>?_) (Jrc (s:=s) h);exact Qgh (Yz s 32) (bk_mem.2 ⟨hl u (inS_mem.1 hu).1,(inS_mem.1 hu).2⟩) huv
theorem Qvx(hl:∀ v∈vars,v<32)(hk:k∈rnm vars s): k<(bk s 32).length:=by
 obtain⟨v,i,rfl⟩:=List.mem_map.1 hk;obtain⟨u,j⟩:=inS_mem.1 i;exact(Vh (Yz s 32) (bk_mem.2 ⟨hl v u,j⟩)).2.1
theorem Jln(vars:List Nat)(s:Nat): (rnm vars s).length=(inS vars s).length:=by simp[rnm]
def Ks(m:Nat)(vars:Nat->List Nat)(rs:Nat->List Row)(s:Nat)(z:Row): Prop:=∀ i,i<m->∃ r∈rs i,∀ j,j<(vars i).length->s.testBit ((vars i).getD j 0)=true->r.getD j V0=z.getD ((vars i).getD j 0) V0
theorem Jtc{vars:List Nat}{s:Nat}{r z:Row}(hr:r.length=vars.length): ∀ k,k<=vars.length->(pmR (Zt vars s k) r=pmR (inS (vars.take k) s) z↔∀ j,j<k->s.testBit (vars.getD j 0)=true->r.getD j V0=z.getD (vars.getD j 0) V0)
 | 0,_=>by simp[Zt,inS,pmR]
 | k+1,h=>by
  have ih:=Jtc (s:=s) (z:=z) hr k om;grind [Kg,Jjp,Jjg,pmR,Zt,V0,inS,List.append_inj,Zk]
theorem Qfw{vars:Nat->List Nat}{rs ms:Nat->List Row}(hs:s<2^n)(hn:n<=32)(hlt:∀ i,i<m->∀ v∈vars i,v<n)(hlen:∀ i,i<m->∀ r∈rs i,r.length=(vars i).length)(hms:∀ i,i<m->∀ x,x∈ms i↔x∈(rs i).map (pmR (Qa (vars i) s)))(x:Row):
  Gl (bk s 32).length m (λi=>rnm (vars i) s) ms x↔∃ z:Row,z.length=n/\x=pmR (bk s 32) z/\Ks m vars rs s z:=by
 have key:∀ z:Row,∀ i,i<m->(pmR (rnm (vars i) s) (pmR (bk s 32) z)∈ms i↔∃ r∈rs i,∀ j,j<(vars i).length->s.testBit ((vars i).getD j 0)=true->r.getD j V0=z.getD ((vars i).getD j 0) V0):=λz i hi=>by
  have e:pmR (rnm (vars i) s) (pmR (bk s 32) z)=pmR (inS (vars i) s) z:=by
   unfold rnm pmR;rw[List.map_map];refine List.map_congr_left λv J=>?_;obtain⟨h1,D⟩:=inS_mem.1 J;have G:v∈bk s 32:=bk_mem.2 ⟨by grind,D⟩;obtain⟨_,h4,h5⟩:=Vh (Yz s 32) G;grind
  rw[e,hms i hi,List.mem_map];have hk:∀ r∈rs i,(pmR (Qa (vars i) s) r=pmR (inS (vars i) s) z↔∀ j,j<(vars i).length->s.testBit ((vars i).getD j 0)=true->r.getD j V0=z.getD ((vars i).getD j 0) V0):=λr Z=>by
   have:=Jtc (s:=s) (z:=z) (hlen i hi r Z) (vars i).length (nR _);rw[List.take_length]at this;exact this
  grind
 constructor
 .rintro⟨hl,hx⟩;let z:Row:=(List.range n).map λu=>x.getD (lv (bk s 32) u) V0
  have y:z.length=n:=by simp[z]
  have F:x=pmR (bk s 32) z:=by
   apply List.ext_getElem
   .rw[Zk];exact hl
   intro k h1 D;rw[Zk]at D;have U:=bk_mem.1 (getD_mem' 0 _ D);have O:=Yx hs U.2;have h3:=Jmp (z:=z) D;grind [Qn,V0,Zk,bk,lv,List.getD,List.getElem?_range,Ut,Yz]
  refine⟨z,y,F,λi hi=>?_⟩;grind
 rintro⟨z,y,rfl,G⟩;exact⟨Zk _ _,λi hi=>(key z i hi).2 (G i hi)⟩
end Go.Proofs.YtebiphhfkdbpfaaGreat
