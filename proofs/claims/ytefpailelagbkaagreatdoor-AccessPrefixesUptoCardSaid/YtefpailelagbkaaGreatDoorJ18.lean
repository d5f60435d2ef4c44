/- Part 18 of the proof: Lf2, Lf3, Lf4, Map. -/
import Derived.Test.YtefpailelagbkaaGreatDoorJ17
import Derived.Maps.RangeWalk
set_option linter.unusedVariables false
set_option maxRecDepth 100000
set_option maxHeartbeats 40000000
namespace Go.Proofs.YtefpailelagbkaaGreatDoor
open Go.RowKit Pl Go.Wk
attribute [local irreducible] WC WL QX WD WDB WP WN
theorem _root_.Go.Wk.GrN.newBy{N:Nat->Prop}{w w' w'':World}{b:Nat}(h:GrN N w w')(hg:w'.grownBy w'' (some b))(hb:w.heap.size<=b): GrN N w w'' :=
 ⟨hg.os.trans h.os,hg.tape.trans h.tape,hg.output.trans h.output,Nat.le_trans h.size hg.size,λk hk hn=>(hg.block k (Nat.lt_of_lt_of_le hk h.size) (λe=>by injection e with e;omega)).trans (h.block k hk hn)⟩
theorem Qqq{α:Type}{l:List α}(h:l.Nodup){i j:Nat}(hi:i<l.length)(hj:j<l.length)(e:l[i]=l[j]): i=j:=by
 have h':=List.pairwise_iff_getElem.1 h;rcases Nat.lt_trichotomy i j with h1|h1|h1
 ·exact absurd e (h' i j hi hj h1)
 ·exact h1
 ·exact absurd e.symm (h' j i hj hi h1)
theorem Xbd{n k s:Nat}(h1:1<=s)(h2:s<n)(h3:s<=k): (k-s) % n≠k % n:=by
 intro e;have h4:(k-s+s) % n=(k-s) % n:=by rw [Nat.sub_add_cancel h3];exact e.symm
 have h5:((k-s) % n+s) % n=(k-s) % n:=by rw [Nat.mod_add_mod];exact h4
 generalize hx:(k-s) % n=x at *
 have hxn:x<n:=by rw [<-hx];exact Nat.mod_lt _ (by omega)
 rcases Nat.lt_or_ge (x+s) n with h6|h6
 ·rw [Nat.mod_eq_of_lt h6]at h5;omega
 ·rw [Nat.mod_eq_sub_mod h6,Nat.mod_eq_of_lt (by omega)]at h5;omega
theorem Xzl{n k r:Nat}(hr:r<n)(hk:n<=k): ∃ s,1<=s/\s<=n/\(k-s) % n=r:=by
 have hm:k % n<n:=Nat.mod_lt _ (by omega);have hdm:=Nat.div_add_mod k n;by_cases h:r<k % n
 ·refine ⟨k % n-r,by omega,by omega,?_⟩;have:k-(k % n-r)=n*(k / n)+r:=by omega
  rw [this,Nat.mul_add_mod,Nat.mod_eq_of_lt hr]
 ·refine ⟨k % n+n-r,by omega,by omega,?_⟩;have hq:1<=k / n:=(Nat.one_le_div_iff (by omega)).2 hk;obtain ⟨q,hq'⟩:∃ q,k / n=q+1:=⟨k / n-1,by omega⟩;rw [hq',Nat.mul_succ]at hdm;have:k-(k % n+n-r)=n*q+r:=by omega
  rw [this,Nat.mul_add_mod,Nat.mod_eq_of_lt hr]
theorem Qyq{w:World}{F:Fix}{V':Lev}{I:List Nat}{J:Nat}{p:Nat->Nat}{jr ja yv:Value}{B:Option Addr}{c:Nat}(hO:OnS F V' I)(hne:0<I.length)(hnd:I.Nodup)(hIts:Its F V' I w p)(hJ:JB w J jr ja yv)(hJG:∀ i∈I,F.G i≠J)(hT:∀ i∈I,Off (NG F I J) w (λu=>TriA u (F.A i) (F.d i) (F.rs i)))(hB:Off (NG F I J) w (λu=>Rd u 1 B I.length (Xwk F I)))(hp:∀ i∈I,V'.lo i<=p i/\p i<V'.e i)(hK:∀ i∈I,∀ a,V'.lo i<=a->a<p i->cmpV (F.val V' i a) (F.val V' (I.getD 0 0) (p (I.getD 0 0)))<0):
  Ret Tryz.prog 205 [.pointer (some ⟨J,0,none⟩),.slice B I.length c] w λu w'=>GrN (NG F I J) w w'/\JB w' J jr ja yv/\∃ p' t,u=.bool t/\Its F V' I w' p'/\(∀ i∈I,V'.lo i<=p' i/\p' i<=V'.e i) /\
   (t=true->∃ x,(∀ i∈I,p' i<V'.e i/\F.val V' i (p' i)=x)/\cmpV (F.val V' (I.getD 0 0) (p (I.getD 0 0))) x<=0/\∀ y,Cmn F V' I y->cmpV (F.val V' (I.getD 0 0) (p (I.getD 0 0))) y<=0->cmpV x y<=0) /\
   (t=false->∀ y,Cmn F V' I y->¬ cmpV (F.val V' (I.getD 0 0) (p (I.getD 0 0))) y<=0):=by
 have hm0:I.getD 0 0∈I:=getD_mem' 0 I hne;obtain ⟨K0,hK0⟩:∃ K0,K0=F.val V' (I.getD 0 0) (p (I.getD 0 0)):=⟨_,rfl⟩;rw [<-hK0]at hK ⊢;have hlen:=hO.len;have hGlt:∀ i∈I,F.G i<w.heap.size:=λi hi=>by obtain ⟨st,h1⟩:=hIts i hi;exact h1.lt
 have hJlt:J<w.heap.size:=by obtain ⟨st,h1⟩:=hJ;exact h1.lt
 refine Jjb Tryz.func205 Tryz.ntmps205 rfl (by kernel_rfl) rfl ?_;refine ρ ?_;refine ix 0 hB.here hne ?_;refine ρ ?_;refine ld (hB.here.cell (Jbj hne)) ?_;refine ρ ?_;obtain ⟨st0,hI0⟩:=hIts _ hm0;have hl0:=hO.lev _ hm0;have hp0:=hp _ hm0;have hr0:=hO.rng _ hm0;refine cl (Jmv hI0 (hT _ hm0).here hl0.2.1 hl0.2.2 (λ_=>hr0.1)) ?_;rintro u w1 ⟨hx1,v,rfl,hv⟩;have hv':=hv ⟨hl0.1,hp0.2⟩;have hvK:v=K0:=by rw [hv',hK0];rfl
 subst hvK;rw [decide_eq_true (show 0<V'.L (I.getD 0 0)/\p (I.getD 0 0)<V'.e (I.getD 0 0) from ⟨hl0.1,hp0.2⟩)];refine ρ ?_;refine alc (cs:=V0.cells) Qpl ?_;intro w2 bk hx2 hbk hBk;refine ρ ?_;refine stb (cs':=v.cells) hBk ?_ (V.one _);intro w3 hBk3 hg3 hx3;have hx13:Ext w1 w3:=hx3 w1 hx2 hbk;have hxw3:=hx1.trans hx13;have hbkw:w.heap.size<=bk:=Nat.le_trans hx1.size hbk;refine ρ ?_;refine Jpn (fun (same k:Nat) (key:V) (p:Nat->Nat)=>[(0,.pointer (some ⟨J,0,none⟩)),(1,.slice B I.length c),(5,.pointer (some ⟨bk,0,none⟩)),(7,.int .i64 (same:Int)),(8,.int .i64 (k:Int))])
  (λsame k key p w'=>GrN (NG F I J) w w'/\JB w' J jr ja yv/\Its F V' I w' p/\Blk w' bk 71 key.cells/\(∀ i∈I,V'.lo i<=p i/\p i<V'.e i)/\(∀ i∈I,∀ a,V'.lo i<=a->a<p i->cmpV (F.val V' i a) key<0)/\cmpV v key<=0/\(∀ y,Cmn F V' I y->cmpV v y<=0->cmpV key y<=0) /\
   1<=same/\same<=I.length/\same<=k/\k+(gtN (Xkz F V' I) key*33+(I.length-same))<=2000000000/\(∀ s,1<=s->s<=same->F.val V' (I.getD ((k-s) % I.length) 0) (p (I.getD ((k-s) % I.length) 0))=key)) (λsame k key p=>gtN (Xkz F V' I) key*33+(I.length-same)) 1 1 v p sB
  ⟨GrN.ext hxw3,?_,λi hi=>?_,hBk3,hp,hK,by rw [Jqk];omega,λy _ h'=>h',Nat.le_refl _,hne,Nat.le_refl _,?_,λs h1 h2=>?_⟩ ?_
 ·obtain ⟨st,hJ⟩:=hJ;exact ⟨st,hJ.ext hxw3⟩
 ·obtain ⟨st,hI⟩:=hIts i hi;exact ⟨st,hI.ext hxw3⟩
 ·have h1:=Xbp (Xkz F V' I) v;have h2:=Qbx (F:=F) (V':=V') (I:=I) (λi hi=>(hO.rng i hi).2);omega
 ·have:s=1:=by omega
  subst this;rw [Nat.sub_self,Nat.zero_mod];exact hK0.symm
 clear hBk3 hg3 hx3 hBk hx13 hxw3 hx2 hbk hJ hIts hp hK hI0 hp0;rintro same k key p w4 ⟨hg4,⟨sj,hJ4⟩,hIts4,hBk4,hp4,hK4,hv4,hmin,hs1,hs2,hsk,hbd,hsm⟩;refine ρ ?_;refine ci (λh1=>?_) (λh1=>?_)
 ·have hlt:same<I.length:=by have:=of_decide_eq_true h1;omega
  clear h1;have hB4:=hB w4 hg4;refine ρ ?_;refine rem (show ((I.length:Nat):Int)≠0 by omega) ?_;rw [Qpv];have lr:k % I.length<I.length:=Nat.mod_lt _ hne;refine ρ ?_;refine ix (k % I.length) hB4 lr ?_;refine ρ ?_;refine ld (hB4.cell (Jbj lr)) ?_;refine ρ ?_;obtain ⟨i,hi⟩:∃ i,i=I.getD (k % I.length) 0:=⟨_,rfl⟩;rw [<-hi];have him:i∈I:=by rw [hi];exact getD_mem' 0 I lr
  refine lds (cs:=key.cells) (λj u hu=>hBk4.at hu) ?_;refine ρ ?_;obtain ⟨sti,hIi⟩:=hIts4 i him;have hli:=hO.lev i him;have hri:=hO.rng i him;have hpi:=hp4 i him;have hTi:Off (λk=>k=F.G i) w4 (λu=>TriA u (F.A i) (F.d i) (F.rs i)):=((hT i him).gr hg4).mono λj _ ej=>.inr ⟨i,him,ej⟩;refine cl (Qdl (v:=key) hIi hTi hli.1 hli.2.1 hli.2.2 hpi.2 hri.1 hri.2 (λa b h1 h2 h3=>hO.srt i him a b (by omega) h2 h3)) ?_;rintro u w5 ⟨hg5,q,st5,rfl,hq1,hq2,hq3,hq4,hI5⟩;have hGi:∀ j∈I,j≠i->¬ (λk=>k=F.G i) (F.G j):=λj hj hji e=>hji (hO.inj j hj i him e);have hg45:GrN (NG F I J) w4 w5:=hg5.mono λj _ ej=>.inr ⟨i,him,ej⟩;have hIts5:Its F V' I w5 (upd p i q):=λj hj=>by
   by_cases e:j=i
   ·subst e;rw [Jjp];exact ⟨st5,hI5⟩
   ·rw [Jjl _ _ e];obtain ⟨st,hIj⟩:=hIts4 j hj;exact ⟨st,Jqb hIj hg5 (hGi j hj e)⟩
  have hJ5:=Jqb hJ4 hg5 (λe=>hJG i him e.symm);have hbkG:¬ (λk=>k=F.G i) bk:=λe=>by have h1:=hGlt i him;omega
  have hBk5:=Jqb hBk4 hg5 hbkG;have hgw5:=hg4.trans hg45;have before:∀ a,V'.lo i<=a->a<q->cmpV (F.val V' i a) key<0:=λa h1 h2=>by
   by_cases h3:a<p i
   ·exact hK4 i him a h1 h3
   ·exact hq3 a (by omega) h2
  refine ρ ?_;refine ci (λh1=>?_) (λh1=>?_)
  ·have hqe:¬ q<V'.e i:=by simpa using h1
   refine ρ ?_;refine Jjq ⟨hgw5,⟨sj,hJ5⟩,upd p i q,false,rfl,hIts5,λj hj=>?_,λe=>(by cases e),λ_ y hy hvy=>?_⟩
   ·by_cases e:j=i
    ·subst e;rw [Jjp];omega
    ·rw [Jjl _ _ e];have:=hp4 j hj;omega
   ·obtain ⟨a,h2,h3,h4⟩:=hy i him;have h5:=hmin y hy hvy;have h6:=before a h2 (by omega);rw [h4]at h6;have:=cmp_V.anti key y;omega
  have hqe:q<V'.e i:=by simpa using h1
  have hq5:=hq4 hqe;clear h1;refine ρ ?_;refine cl (Jmv hI5 (hTi w5 hg5) hli.2.1 hli.2.2 (λ_=>hri.1)) ?_;rintro u w6 ⟨hx6,nx,rfl,hnx⟩;have hnx':nx=F.val V' i q:=hnx ⟨hli.1,hqe⟩;rw [decide_eq_true (show 0<V'.L i/\q<V'.e i from ⟨hli.1,hqe⟩)];refine ρ ?_;refine alc (cs:=V0.cells) Qpl ?_;intro w7 b7 hx7 hb7 hB7;refine ρ ?_;refine stb (cs':=nx.cells) hB7 ?_ (V.one _);intro w8 hB8 hg8 hx8;have hx58:Ext w5 w8:=hx6.trans (hx8 w6 hx7 hb7);have hJ8:=hJ5.ext hx58;refine ρ ?_;refine ld (hJ8.at (i:=2) rfl) ?_;refine ρ ?_;refine sto (p:=⟨J,2,none⟩) (hJ8.cell 2) (hJ8.frozen _) ?_;have hJ9:=hJ8.set 2 (.int .i64 (IntKind.i64.wrap (sj+1)));have hgJ:GrN (NG F I J) w8 (w8.setCell ⟨J,2,none⟩ (.int .i64 (IntKind.i64.wrap (sj+1)))):=GrN.set _ (.inl rfl);have hb7w:w.heap.size<=b7:=Nat.le_trans hgw5.size (Nat.le_trans hx6.size hb7);have hB9:Blk (w8.setCell ⟨J,2,none⟩ (.int .i64 (IntKind.i64.wrap (sj+1)))) b7 71 nx.cells:=hB8.far (by simp only;omega) _
  have hBk9:Blk (w8.setCell ⟨J,2,none⟩ (.int .i64 (IntKind.i64.wrap (sj+1)))) bk 71 key.cells:=(hBk5.ext hx58).far (by simp only;omega) _;have hIts9:Its F V' I (w8.setCell ⟨J,2,none⟩ (.int .i64 (IntKind.i64.wrap (sj+1)))) (upd p i q):=λj hj=>by
   obtain ⟨st,hIj⟩:=hIts5 j hj;exact ⟨st,(hIj.ext hx58).far (hJG j hj) _⟩
  have hgw9:=(hgw5.trans (GrN.ext hx58)).trans hgJ;clear hg8 hx8 hB8 hB7 hx7 hx6 hJ8;generalize w8.setCell ⟨J,2,none⟩ (.int .i64 (IntKind.i64.wrap (sj+1)))=w9 at *
  have hpu:∀ j∈I,V'.lo j<=upd p i q j/\upd p i q j<V'.e j:=λj hj=>by
   by_cases e:j=i
   ·subst e;rw [Jjp];have:=hp4 j hj;omega
   ·rw [Jjl _ _ e];exact hp4 j hj
  refine ρ ?_;refine lds (cs:=nx.cells) (λj u hu=>hB9.at hu) ?_;refine ρ ?_;refine lds (cs:=key.cells) (λj u hu=>hBk9.at hu) ?_;refine ρ ?_;refine cl (Jxk nx key _) ?_;rintro u w10 ⟨rfl,hx10⟩;refine ρ ?_;have hJ10:JB w10 J jr ja yv:=⟨_,hJ9.ext hx10⟩;have hIts10:Its F V' I w10 (upd p i q):=λj hj=>by
   obtain ⟨st,hIj⟩:=hIts9 j hj;exact ⟨st,hIj.ext hx10⟩
  refine ci (λh1=>?_) (λh1=>?_)
  ·have henx:nx=key:=cmp_V.zero _ _ (Jql h1);refine ρ ?_;refine Jvx (same+1) (k+1) key (upd p i q) sO ⟨hgw9.trans (GrN.ext hx10),hJ10,hIts10,hBk9.ext hx10,hpu,λj hj a h2 h3=>?_,hv4,hmin,by omega,by omega,by omega,by omega,λs h2 h3=>?_⟩ (by omega)
   ·by_cases e:j=i
    ·subst e;rw [Jjp]at h3;exact before a h2 h3
    ·rw [Jjl _ _ e]at h3;exact hK4 j hj a h2 h3
   ·by_cases e:s=1
    ·subst e;rw [Nat.add_sub_cancel,<-hi,Jjp,<-hnx',henx]
    ·have h4:k+1-s=k-(s-1):=by omega
     rw [h4];have h5:(k-(s-1)) % I.length<I.length:=Nat.mod_lt _ hne;have h6:I.getD ((k-(s-1)) % I.length) 0≠i:=λe2=>by
      rw [hi,Jjh 0 I h5,Jjh 0 I lr]at e2;have e3:=Qqq hnd h5 lr e2;exact Xbd (n:=I.length) (k:=k) (s:=s-1) (by omega) (by omega) (by omega) e3
     rw [Jjl _ _ h6];exact hsm (s-1) (by omega) (by omega)
  ·have hne':=Jqh h1;have hlt':cmpV key nx<0:=by
    have h2:=cmp_V.anti nx key;have h3:¬ cmpV nx key<0:=by rw [hnx'];exact hq5
    omega
   have hgt:=Xjt (U:=Xkz F V' I) (by rw [hnx'];exact Qtm him (by omega) hqe) hlt';have hBk10:=hBk9.ext hx10;refine ρ ?_;refine lds (cs:=nx.cells) (λj u hu=>(hB9.ext hx10).at hu) ?_;refine ρ ?_;refine stb (cs':=nx.cells) hBk10 ?_ (V.one _);intro w11 hBk11 hg11 hx11;have hnbk:∀ {g:Nat},g<w.heap.size->some g≠some bk:=fun {g} hg e=>by injection e with e;omega
   refine ρ ?_;refine Jvx 1 (k+1) nx (upd p i q) sO ⟨(hgw9.trans (GrN.ext hx10)).newBy hg11 hbkw,?_,λj hj=>?_,hBk11,hpu,λj hj a h2 h3=>?_,?_,λy hy hvy=>?_,Nat.le_refl _,hne,by omega,by omega,λs h2 h3=>?_⟩ (by omega)
   ·obtain ⟨st,hJ⟩:=hJ10;exact ⟨st,hJ.grown hg11 (hnbk hJlt)⟩
   ·obtain ⟨st,hIj⟩:=hIts10 j hj;exact ⟨st,hIj.grown hg11 (hnbk (hGlt j hj))⟩
   ·by_cases e:j=i
    ·subst e;rw [Jjp]at h3;exact cmp_V.lt_trans (before a h2 h3) hlt'
    ·rw [Jjl _ _ e]at h3;exact cmp_V.lt_trans (hK4 j hj a h2 h3) hlt'
   ·exact Jts hv4 (by omega)
   ·obtain ⟨a,h2,h3,h4⟩:=hy i him;have h5:=hmin y hy hvy;have h6:q<=a:=by
     rcases Nat.lt_or_ge a q with h7|h7
     ·have h8:=before a h2 h7;rw [h4]at h8;have:=cmp_V.anti key y;omega
     ·exact h7
    rw [hnx',<-h4];by_cases e:a=q
    ·subst e;rw [Jqk];omega
    ·have:=hO.srt i him q a (by omega) (by omega) h3;omega
   ·have:s=1:=by omega
    subst this;rw [Nat.add_sub_cancel,<-hi,Jjp];exact hnx'.symm
 ·have heq:same=I.length:=by have:=of_decide_eq_false h1;omega
  refine ρ ?_;refine Jjq ⟨hg4,⟨sj,hJ4⟩,p,true,rfl,hIts4,λi hi=>⟨(hp4 i hi).1,Nat.le_of_lt (hp4 i hi).2⟩,λ_=>⟨key,λi hi=>⟨(hp4 i hi).2,?_⟩,hv4,hmin⟩,λe=>by cases e⟩;obtain ⟨r,hr,er⟩:=List.getElem_of_mem hi;obtain ⟨s,h1,h2,h3⟩:=Xzl hr (show I.length<=k by omega);have:=hsm s h1 (by omega);rw [h3,Jjh 0 I hr,er]at this;exact this
end Go.Proofs.YtefpailelagbkaaGreatDoor
namespace Go.Proofs.YtefpailelagbkaaGreatDoor
open Pl
def Jcn(vs:List Nat): Prop:=vs.Pairwise (· < ·)
def lv(vs:List Nat)(v:Nat): Nat:=(vs.filter λu=>decide (u<v)).length
theorem Xbg(vs:List Nat)(v:Nat): lv vs v<=vs.length:=List.length_filter_le _ _
theorem Jmn(vs:List Nat): lv vs 0=0:=by simp [lv]
theorem Xjp{vs:List Nat}{n:Nat}(h:∀ u∈vs,u<n): lv vs n=vs.length:=by
 unfold lv;rw [List.filter_eq_self.2 (λu hu=>by simpa using h u hu)]
theorem Jmq(u:Nat)(vs:List Nat)(v:Nat): lv (u::vs) v=(if u<v then 1 else 0)+lv vs v:=by
 unfold lv;by_cases h:u<v
 ·rw [List.filter_cons_of_pos (by simpa using h),if_pos h,List.length_cons];omega
 ·rw [List.filter_cons_of_neg (by simpa using h),if_neg h];omega
theorem Qkr{vs:List Nat}{v:Nat}(h:∀ u∈vs,v<=u): lv vs v=0:=by
 unfold lv;rw [List.filter_eq_nil_iff.2 (λu hu=>by have:=h u hu;simp;omega)];rfl
theorem Jmp{vs:List Nat}{v:Nat}(h:v ∉ vs): lv vs (v+1)=lv vs v:=by
 induction vs with
 | nil=>rfl
 | cons u vs ih=>
  rw [Jmq,Jmq,ih (λh'=>h (List.mem_cons_of_mem _ h'))];have:u≠v:=λe=>h (by rw [e];exact List.mem_cons_self ..);by_cases h1:u<v
  ·rw [if_pos h1,if_pos (by omega)]
  ·rw [if_neg h1,if_neg (by omega)]
theorem Jwq{vs:List Nat}{v:Nat}(ha:Jcn vs)(h:v∈vs): lv vs (v+1)=lv vs v+1/\lv vs v<vs.length/\vs.getD (lv vs v) 0=v:=by
 induction vs with
 | nil=>cases h
 | cons u vs ih=>
  obtain ⟨h1,h2⟩:=List.pairwise_cons.1 ha;rw [Jmq,Jmq];rcases List.mem_cons.1 h with rfl|h'
  ·have e1:lv vs v=0:=Qkr λx hx=>Nat.le_of_lt (h1 x hx);have e2:lv vs (v+1)=0:=Qkr λx hx=>h1 x hx;rw [if_pos (show v<v+1 by omega),if_neg (show ¬ v<v by omega),e1,e2];exact ⟨rfl,by rw [List.length_cons];omega,rfl⟩
  ·have hu:=h1 v h';obtain ⟨i1,i2,i3⟩:=ih h2 h';rw [if_pos (show u<v+1 by omega),if_pos hu,i1];refine ⟨by omega,by rw [List.length_cons];omega,?_⟩;rw [Nat.add_comm 1,List.getD_cons_succ];exact i3
theorem Xzp{vs:List Nat}{v:Nat}(ha:Jcn vs): vs.take (lv vs v)=vs.filter λu=>decide (u<v):=by
 induction vs with
 | nil=>rfl
 | cons u vs ih=>
  obtain ⟨h1,h2⟩:=List.pairwise_cons.1 ha;by_cases h:u<v
  ·rw [Jmq,if_pos h,Nat.add_comm 1,List.take_succ_cons,ih h2,List.filter_cons_of_pos (by simpa using h)]
  ·have e:lv (u::vs) v=0:=Qkr λx hx=>by
    rcases List.mem_cons.1 hx with rfl|h'
    ·omega
    ·have:=h1 x h';omega
   rw [e,List.take_zero,List.filter_eq_nil_iff.2];intro x hx;have:v<=x:=by
    rcases List.mem_cons.1 hx with rfl|h'
    ·omega
    ·have:=h1 x h';omega
   simp;omega
theorem Qjs{z z':Row}{v u:Nat}(h:z.take v=z'.take v)(hu:u<v): z.getD u V0=z'.getD u V0:=by
 have:=congrArg (λl=>l.getD u V0) h;simp only [List.getD,List.getElem?_take,if_pos hu]at this;exact this
theorem Qhx{vs:List Nat}{v:Nat}{z z':Row}(ha:Jcn vs)(h:z.take v=z'.take v): (pmR vs z).take (lv vs v)=(pmR vs z').take (lv vs v):=by
 unfold pmR;rw [<-List.map_take,<-List.map_take,Xzp ha];exact List.map_congr_left λu hu=>Qjs h (by simpa using (List.mem_filter.1 hu).2)
theorem Xyn{vs:List Nat}{z:Row}{k:Nat}(h:k<vs.length): (pmR vs z).getD k V0=z.getD (vs.getD k 0) V0:=Jsq h
theorem Qhz{vs:List Nat}{v:Nat}{z:Row}(ha:Jcn vs)(h:v∈vs): (pmR vs z).take (lv vs v+1)=(pmR vs z).take (lv vs v)++[z.getD v V0]:=by
 obtain ⟨_,h2,h3⟩:=Jwq ha h;rw [Jjm V0 (by rw [Jqx];exact h2),Xyn h2,h3]
theorem Jrq: ∀ (v:Nat) (z z':Row),z.take v=z'.take v->v<z.length->v<z'.length->cmpV (z.getD v V0) (z'.getD v V0)<0->Jxg z z' []<0
 | 0,a::z,b::z',_,_,_,h=>by
  simp only [List.getD_cons_zero]at h;simp only [Jxg];rw [if_neg (by omega)];exact h
 | v+1,a::z,b::z',h,h1,h2,h3=>by
  simp only [List.take_succ_cons,List.cons.injEq]at h;simp only [Jxg];rw [if_pos (by rw [h.1];exact Jqk b)];exact Jrq v z z' h.2 (by simpa using h1) (by simpa using h2) (by simpa using h3)
 | _,[],_,_,h,_,_=>by simp at h
 | _,_::_,[],_,_,h,_=>by simp at h
def Qjl(n m:Nat)(vars:Nat->List Nat)(rs:Nat->List Row)(z:Row): Prop:=z.length=n/\∀ i,i<m->pmR (vars i) z∈rs i
theorem Qgx{q y:Row}{l:Nat}(h1:q.length=l+1)(h2:q.take l=y): q=y++[q.getD l V0]:=by
 have:=Jjm V0 (l:=q) (k:=l) (by omega);rw [List.take_of_length_le (by omega),h2]at this;exact this
theorem Xxz{rs:List Row}{d l:Nat}(h:Srt [] rs)(hl:∀ r∈rs,r.length=d)(hld:l<=d){q:Row}(hq:q∈pfx rs l): q.length=l:=by
 obtain ⟨r,hr,e⟩:=(Jft h).1 hq;rw [<-e,List.length_take,hl r hr];omega
theorem Qrb{z:Row}{v:Nat}(x:V): (z.set v x).take v=z.take v:=List.take_set_of_le (Nat.le_refl _)
theorem Xyf{z:Row}{v:Nat}(x:V)(h:v<z.length): (z.set v x).getD v V0=x:=by rw [Jbq V0 _ _ _ _ h,if_pos rfl]
theorem Qgw{z z':Row}{u v:Nat}(h:z.take v=z'.take v)(hu:u<=v): z.take u=z'.take u:=by
 have:=congrArg (List.take u) h;rwa [List.take_take,List.take_take,Nat.min_eq_left hu]at this
theorem Qgv{z z':Row}{v:Nat}(h:z.take v=z'.take v)(h1:v<z.length)(h2:v<z'.length)(h3:z.getD v V0=z'.getD v V0): z.take (v+1)=z'.take (v+1):=by
 rw [Jjm V0 h1,Jjm V0 h2,h,h3]
open Go.RowKit Pl Go.Wk
attribute [local irreducible] WC WL QX WD WDB WP WN
structure JC where
 F: Fix
 n:Nat
 m:Nat
 vars:Nat->List Nat
 J:Nat
 Ra:Option Addr
 base:Nat
 ja:Value
 yv:Value
 vat:Nat->Value
 N:Nat->Prop
def JC.I(c:JC)(v:Nat): List Nat:=(List.range c.m).filter λi=>decide (v∈c.vars i)
theorem JC.mem_I{c:JC}{v i:Nat}: i∈c.I v↔i<c.m/\v∈c.vars i:=by simp [JC.I]
theorem JC.nodup_I(c:JC)(v:Nat): (c.I v).Nodup:=List.Nodup.sublist List.filter_sublist List.nodup_range
theorem JC.len_I(c:JC)(v:Nat): (c.I v).length<=c.m:=by have:=List.length_filter_le (λi=>decide (v∈c.vars i)) (List.range c.m);rw [List.length_range]at this;exact this
def JC.rowv(c:JC): Value:=.slice c.Ra c.n c.n
abbrev JC.Ans(c:JC)(z:Row): Prop:=Qjl c.n c.m c.vars c.F.rs z
def JC.NI(c:JC)(k:Nat): Prop:=k=c.J∨(∃ i,i<c.m/\k=c.F.G i)∨c.rowv.ownBlock=some k
structure JOk(c:JC): Prop where
 n32:c.n<=32
 m32:c.m<=32
 asc:∀ i,i<c.m->Jcn (c.vars i)
 lt:∀ i,i<c.m->∀ u∈c.vars i,u<c.n
 d:∀ i,i<c.m->c.F.d i=(c.vars i).length
 d32:∀ i,i<c.m->c.F.d i<=32
 ne:∀ i,i<c.m->c.F.rs i≠[]
 srt:∀ i,i<c.m->Lt [] (c.F.rs i)
 len:∀ i,i<c.m->∀ r∈c.F.rs i,r.length=c.F.d i
 big:∀ i,i<c.m->(c.F.rs i).length<=65536
 inj:∀ i j,i<c.m->j<c.m->c.F.G i=c.F.G j->i=j
 gj:∀ i,i<c.m->c.F.G i≠c.J
 cov:∀ v,v<c.n->∃ i,i<c.m/\v∈c.vars i
 sub:∀ k,c.NI k->c.N k
structure JEnv(c:JC)(w:World): Prop where
 tri:∀ i,i<c.m->Off c.N w (λu=>TriA u (c.F.A i) (c.F.d i) (c.F.rs i))
 at_:∃ B cc,c.ja=.slice B c.n cc/\Off c.N w (λu=>Rd u 1 B c.n ((List.range c.n).map c.vat))
 lists:∀ v,v<c.n->∃ B cc,c.vat v=.slice B (c.I v).length cc/\Off c.N w (λu=>Rd u 1 B (c.I v).length (Xwk c.F (c.I v)))
theorem JEnv.gr{c:JC}{w w':World}(h:JEnv c w)(hg:GrN c.N w w'): JEnv c w':=by
 refine ⟨λi hi=>(h.tri i hi).gr hg,?_,λv hv=>?_⟩
 ·obtain ⟨B,cc,e,ho⟩:=h.at_;exact ⟨B,cc,e,ho.gr hg⟩
 ·obtain ⟨B,cc,e,ho⟩:=h.lists v hv;exact ⟨B,cc,e,ho.gr hg⟩
def AllIt(c:JC)(w:World)(L p e:Nat->Nat)(f h:Nat->Nat->Nat): Prop:=∀ i,i<c.m->∃ st,ItB w (c.F.G i) (c.F.A i) (c.F.d i) (L i) (p i) (e i) (f i) (h i) st
structure YC(c:JC)(Y:List Row->World->Prop)(NY:Nat->Prop): Prop where
 sub:∀ k,NY k->c.N k
 off:∀ k,NY k->¬ c.NI k
 keep:∀ l w w',Y l w->GrN c.NI w w'->Y l w'
 call:∃ fid first cap,c.yv=.func (.func fid) first cap/\∀ l w vr z,Y l w->RowV w vr z->l.length<65536->Ret Tryz.prog fid (first.toList++[vr]++cap.toList) w λr w'=>r=.bool true/\Y (l++[z]) w'/\GrN NY w w'
structure Cfg(c:JC)(Y:List Row->World->Prop)(w:World)(z:Row)(L p e:Nat->Nat)(f h:Nat->Nat->Nat)(l:List Row): Prop where
 env:JEnv c w
 its:AllIt c w L p e f h
 row:Qjd w c.base c.rowv z
 zl:z.length=c.n
 jb:JB w c.J c.rowv c.ja c.yv
 y:Y l w
section
variable {c:JC} {Y:List Row->World->Prop} {NY:Nat->Prop} {w w':World} {z:Row} {L p e:Nat->Nat} {f h:Nat->Nat->Nat} {l:List Row}
theorem Cfg.ext(H:Cfg c Y w z L p e f h l)(hY:YC c Y NY)(hx:Ext w w'): Cfg c Y w' z L p e f h l :=
 ⟨H.env.gr (GrN.ext hx),λi hi=>by obtain ⟨st,h1⟩:=H.its i hi;exact ⟨st,h1.ext hx⟩,Jjc H.row hx,H.zl,by obtain ⟨st,h1⟩:=H.jb;exact ⟨st,h1.ext hx⟩,hY.keep _ _ _ H.y (GrN.ext hx)⟩
theorem Cfg.rowG(H:Cfg c Y w z L p e f h l){i:Nat}(hi:i<c.m){k:Nat}(hk:c.rowv.ownBlock=some k): k≠c.F.G i:=λe'=>by
 obtain ⟨st,h1⟩:=H.its i hi;exact h1.ne_own H.row rfl (by rw [hk,e'])
theorem Cfg.rowJ(H:Cfg c Y w z L p e f h l){k:Nat}(hk:c.rowv.ownBlock=some k): k≠c.J:=λe'=>by
 obtain ⟨st,h1⟩:=H.jb;exact h1.ne_own H.row rfl (by rw [hk,e'])
theorem Cfg.it(H:Cfg c Y w z L p e f h l)(hok:JOk c)(hY:YC c Y NY){i:Nat}(hi:i<c.m)(hg:GrN (λk=>k=c.F.G i) w w'){L' p' e':Nat}{f' h':Nat->Nat}{st:Int}(hI:ItB w' (c.F.G i) (c.F.A i) (c.F.d i) L' p' e' f' h' st):
  Cfg c Y w' z (upd L i L') (upd p i p') (upd e i e') (upd f i f') (upd h i h') l:=by
 have hNI:GrN c.NI w w':=hg.mono λk _ ek=>.inr (.inl ⟨i,hi,ek⟩);refine ⟨H.env.gr (hNI.mono λk _ hk=>hok.sub k hk),λj hj=>?_,Jjr H.row hg (λg eg=>H.rowG hi eg),H.zl,?_,hY.keep _ _ _ H.y hNI⟩
 ·by_cases ej:j=i
  ·subst ej;rw [Jjp,Jjp,Jjp,Jjp,Jjp];exact ⟨st,hI⟩
  ·rw [Jjl _ _ ej,Jjl _ _ ej,Jjl _ _ ej,Jjl _ _ ej,Jjl _ _ ej];obtain ⟨st,h1⟩:=H.its j hj;exact ⟨st,Jqb h1 hg (λek=>ej (hok.inj j i hj hi ek))⟩
 ·obtain ⟨st,h1⟩:=H.jb;exact ⟨st,Jqb h1 hg (λek=>hok.gj i hi ek.symm)⟩
theorem Cfg.mt(H:Cfg c Y w z L p e f h l)(hok:JOk c)(hY:YC c Y NY){v:Nat}(hg:GrN (NG c.F (c.I v) c.J) w w')(hJ:JB w' c.J c.rowv c.ja c.yv){p':Nat->Nat}(hI:Its c.F ⟨L,λ_=>0,e,f,h⟩ (c.I v) w' p'):
  Cfg c Y w' z L (λi=>if i∈c.I v then p' i else p i) e f h l:=by
 have hNI:GrN c.NI w w':=hg.mono λk _ ek=>by
  rcases ek with ek|⟨i,hi,ek⟩
  ·exact .inl ek
  ·exact .inr (.inl ⟨i,(JC.mem_I.1 hi).1,ek⟩)
 refine ⟨H.env.gr (hNI.mono λk _ hk=>hok.sub k hk),λj hj=>?_,Jjr H.row hg (λg eg=>?_),H.zl,hJ,hY.keep _ _ _ H.y hNI⟩
 ·by_cases ej:j∈c.I v
  ·simp only [if_pos ej];exact hI j ej
  ·simp only [if_neg ej];obtain ⟨st,h1⟩:=H.its j hj;refine ⟨st,Jqb h1 hg ?_⟩;rintro (ek|⟨i,hi,ek⟩)
   ·exact hok.gj j hj ek
   ·have:=hok.inj j i hj (JC.mem_I.1 hi).1 ek;subst this;exact ej hi
 ·rintro (ek|⟨i,hi,ek⟩)
  ·exact H.rowJ eg ek
  ·exact H.rowG (JC.mem_I.1 hi).1 eg ek
end
end Go.Proofs.YtefpailelagbkaaGreatDoor
namespace Go.Wk
open Go.RowKit
open Go.Maps (Keyed)
abbrev DV:= DataW Value
def RT(v:Value): Option (DV×List MemPlace):=some (.held v,[])
theorem Xqj{v u:Value}{ps:List MemPlace}(h:RT v=some (.held u,ps)): v=u:=by
 simp only [RT,Option.some.injEq,Prod.mk.injEq,DataW.held.injEq]at h;exact h.1
def MapS(P:Program)(k:TypeId)(w:World)(b n:Nat)(f:Lit->Option Value): Prop :=
 ∃ D:DV,w.ownsMap P k RT b n D/\(∀ kl,Maps.has D kl=(f kl).isSome)/\∀ kl zd,D.atKey kl zd=(match f kl with|some v=>.held v|none=>zd)
def upL(f:Lit->Option Value)(kl:Lit)(x:Option Value): Lit->Option Value:=λz=>if z.sameKey kl=true then x else f z
section
variable {P:Program} {k:TypeId} {w w':World} {b n:Nat} {f:Lit->Option Value}
theorem MapS.lt(h:MapS P k w b n f): b<w.heap.size:=by obtain ⟨D,h1,_⟩:=h;exact h1.lt
theorem MapS.kept{row:Option Nat}(h:MapS P k w b n f)(hg:w.grownBy w' row)(hne:some b≠row): MapS P k w' b n f:=by
 obtain ⟨D,h1,h2⟩:=h;exact ⟨D,h1.kept hg hne,h2⟩
theorem MapS.gr{N:Nat->Prop}(h:MapS P k w b n f)(hg:GrN N w w')(hn:¬ N b): MapS P k w' b n f:=by
 obtain ⟨D,⟨es,clock,hb,h1⟩,h2⟩:=h;have hlt:b<w.heap.size:=by
  rcases Nat.lt_or_ge b w.heap.size with h'|h'
  ·exact h'
  ·rw [Array.getElem?_eq_none h']at hb;cases hb
 exact ⟨D,⟨es,clock,(hg.block b hlt hn).trans hb,h1⟩,h2⟩
theorem MapS.ext(h:MapS P k w b n f)(hx:Ext w w'): MapS P k w' b n f:=h.gr (N:=λ_=>False) (GrN.ext hx) (λe=>e)
theorem MapS.made(w:World)(P:Program)(k:TypeId): MapS P k (w.alloc (.map #[] 0)) w.heap.size 0 (λ_=>none) :=
 ⟨.map [],World.ownsMap_made w P k RT,λkl=>rfl,λkl zd=>rfl⟩
theorem Jdj{kl:Lit}(hk:WideAt.IsKeyLit kl)(x:Option Value): upL f kl x kl=x:=by unfold upL;rw [if_pos (WideAt.sameKey_self hk)]
theorem Jyl{kl z:Lit}(h:z≠kl)(x:Option Value): upL f kl x z=f z:=by
 unfold upL;rw [if_neg (by rw [Maps.sameKey_ne h];simp)]
theorem MapS.look(h:MapS P k w b n f)(K:Keyed P k){t e:TypeId}(ht:P.underlying t=some (.map k e)){z:Value}(hz:(zeroValue e).run P w=.ok z w){key:Value}{kl:Lit}(hkey:keyOf P k key=some kl):
  (Instr.lookup t (.map (some b)) key true).run P w=.ok (.tuple #[(f kl).getD z,.bool (f kl).isSome]) w/\(Instr.lookup t (.map (some b)) key false).run P w=.ok ((f kl).getD z) w:=by
 obtain ⟨D,h1,h2,h3⟩:=h;have e2:D.atKey kl (.held z)=.held ((f kl).getD z):=by rw [h3];cases f kl<;>rfl
 constructor
 ·obtain ⟨v,ps,hr,hv⟩:=h1.look_ok K ht hz (zd:=.held z) (zp:=[]) rfl hkey;rw [e2]at hv;rw [hr,Xqj hv,h2]
 ·obtain ⟨v,ps,hr,hv⟩:=h1.lookup K ht hz (zd:=.held z) (zp:=[]) rfl hkey;rw [e2]at hv;rw [hr,Xqj hv]
theorem MapS.put(h:MapS P k w b n f)(K:Keyed P k){t e:TypeId}(ht:P.underlying t=some (.map k e))(hn:n<maxLen){key:Value}{kl:Lit}(hkey:keyOf P k key=some kl)(v:Value):
  ∃ w',(Instr.mapUpdate t (.map (some b)) key v).run P w=.ok () w'/\MapS P k w' b (n+1) (upL f kl (some v))/\w.grownBy w' (some b):=by
 obtain ⟨D,h1,h2,h3⟩:=h;obtain ⟨w',hr,ho,hg⟩:=h1.update K ht hn hkey (val:=v) (d:=.held v) (ps:=[]) rfl;have hk:=K.key hkey;refine ⟨w',hr,⟨_,ho,λx=>?_,λx zd=>?_⟩,hg⟩
 ·by_cases e:x=kl
  ·subst e;rw [Jdj hk,Maps.has_put_same h1.isMap hk];rfl
  ·rw [Jyl e,Maps.has_put_other e,h2]
 ·by_cases e:x=kl
  ·subst e;rw [Jdj hk,Maps.atKey_put_same h1.isMap hk]
  ·rw [Jyl e,Maps.atKey_put_other e,h3]
theorem MapS.drop(h:MapS P k w b n f)(K:Keyed P k){t e:TypeId}(ht:P.underlying t=some (.map k e)){key:Value}{kl:Lit}(hkey:keyOf P k key=some kl)(ty:TypeId):
  ∃ w',(Builtin.delete_ #[t,k] ty #[.map (some b),key]).run P w=.ok (.tuple #[]) w'/\MapS P k w' b n (upL f kl none)/\w.grownBy w' (some b):=by
 obtain ⟨D,h1,h2,h3⟩:=h;obtain ⟨w',hr,ho,hg⟩:=h1.drop K ht hkey ty;have hk:=K.key hkey;refine ⟨w',hr,⟨_,ho,λx=>?_,λx zd=>?_⟩,hg.grown⟩
 ·by_cases e:x=kl
  ·subst e;rw [Jdj hk,Maps.has_del_same];rfl
  ·rw [Jyl e,Maps.has_del_other e,h2]
 ·by_cases e:x=kl
  ·subst e;rw [Jdj hk,Maps.atKey_del_same]
  ·rw [Jyl e,Maps.atKey_del_other e,h3]
theorem MapS.len0(h:MapS P k w b n f){t e:TypeId}(ht:P.underlying t=some (.map k e))(K:Keyed P k)(ty:TypeId): ∃ m:Nat,(Builtin.len_ #[t] ty #[.map (some b)]).run P w=.ok (.int .i64 (m:Int)) w/\(m=0↔∀ kl,f kl=none):=by
 obtain ⟨D,h1,h2,h3⟩:=h;refine ⟨Maps.size D,h1.len ht ty,?_⟩;obtain ⟨es,rfl,_,hkl⟩:=h1.entries K;constructor
 ·intro h0 kl;have:es=[]:=List.eq_nil_of_length_eq_zero h0;subst this;have:=h2 kl;cases hf:f kl with
  | none=>rfl
  | some v=>rw [hf]at this;cases this
 ·intro hn;cases es with
  | nil=>rfl
  | cons p es=>
   have:=h2 p.1;rw [hn p.1,Maps.has_eq,List.any_cons,WideAt.sameKey_self (hkl p (List.mem_cons_self ..))]at this;cases this
theorem Jlp{t:TypeId}{z:Value}(hz:Jxc P t=some z)(w:World): (zeroValue t).run P w=.ok z w:=by
 unfold Jxc at hz;obtain ⟨i,h1,h2⟩:=Option.bind_eq_some_iff.1 hz;simp [zeroValue,typeInfo,h1,h2]
end
section
variable {N:Nat->Prop} {P:Program} {n:Nat} {al:AL} {w:World} {Q:Exit->Act->World->Prop} {ops:Array Oper} {rest:List Oper} {drest:List (Nat×Oper)}
variable {d ty:Nat} {pos:String} {aft:Array Edge} {tt:TT}
theorem mkm{t:Nat}(k:TypeId)(kk:∀ w1 b,Ext w w1->w.heap.size<=b->MapS P k w1 b 0 (λ_=>none)->WL P n ops Q rest ((d,.map (some b))::al) w1)(hd:Nat.blt d n=true:=by rfl):
  WL P n ops Q (⟨some d,.makeMap t none,ty,pos,aft,none⟩::rest) al w :=
 wop hd (λa ha=>by
  show _=Result.ok (Next.value (.map (some w.heap.size))) (w.alloc (.map #[] 0));simp [execOp,run_makeMap]) (kk _ _ ((Ext.refl w).alloc _) (Nat.le_refl _) (MapS.made w P k))
theorem mlk[hT:Tab P tt]{t k e b m:Nat}{kd:TK}{f:Lit->Option Value}{x y:Operand}{key z:Value}{kl:Lit}(K:Keyed P k)(hM:MapS P k w b m f)(hz:Jxc P e=some z)(hkey:keyOf P k key=some kl)(kk:WL P n ops Q rest ((d,(f kl).getD z)::al) w)(ht:tk tt t=some kd:=by rfl)(hk:kd.desc=.map k e:=by rfl)(hx:ev al x=some (.map (some b)):=by rfl)(hy:ev al y=some key:=by rfl)(hd:Nat.blt d n=true:=by rfl):
  WL P n ops Q (⟨some d,.lookup t x y false,ty,pos,aft,none⟩::rest) al w :=
 wop hd (λa ha=>by
  have:=(hM.look K (Jcr hT.ok ht hk rfl) (Jlp hz w) hkey).2;simp [execOp,ha.ev hx,ha.ev hy,this]) kk
theorem mup[hT:Tab P tt]{t k e b m:Nat}{kd:TK}{f:Lit->Option Value}{x y z:Operand}{key v:Value}{kl:Lit}(K:Keyed P k)(hM:MapS P k w b m f)(hm:m<maxLen)(hkey:keyOf P k key=some kl)(kk:∀ w1,MapS P k w1 b (m+1) (upL f kl (some v))->w.grownBy w1 (some b)->WL P n ops Q rest al w1)(ht:tk tt t=some kd:=by rfl)(hk:kd.desc=.map k e:=by rfl)(hx:ev al x=some (.map (some b)):=by rfl)(hy:ev al y=some key:=by rfl)(hv:ev al z=some v:=by rfl):
  WL P n ops Q (⟨none,.mapUpdate t x y z,ty,pos,aft,none⟩::rest) al w:=by
 obtain ⟨w',hr,hS,hg⟩:=hM.put K (Jcr hT.ok ht hk rfl) hm hkey v;exact Xqp (λa ha=>by simp [execOp,ha.ev hx,ha.ev hy,ha.ev hv,hr]) (kk w' hS hg)
theorem mln[hT:Tab P tt]{t k e b m:Nat}{kd:TK}{f:Lit->Option Value}{x:Operand}(K:Keyed P k)(hM:MapS P k w b m f)(kk:∀ q:Nat,(q=0↔∀ kl,f kl=none)->WL P n ops Q rest ((d,.int .i64 (q:Int))::al) w)(ht:tk tt t=some kd:=by rfl)(hk:kd.desc=.map k e:=by rfl)(hx:ev al x=some (.map (some b)):=by rfl)(hd:Nat.blt d n=true:=by rfl):
  WL P n ops Q (⟨some d,.call { callee:=.builtin .len,args:=#[x],argTypes:=#[t] },ty,pos,aft,none⟩::rest) al w:=by
 obtain ⟨q,hr,hq⟩:=hM.len0 (Jcr hT.ok ht hk rfl) K ty;exact wop hd (λa ha=>by simp [execOp,resolve,invoke,builtin,ha.ev hx,hr]) (kk q hq)
end
end Go.Wk
