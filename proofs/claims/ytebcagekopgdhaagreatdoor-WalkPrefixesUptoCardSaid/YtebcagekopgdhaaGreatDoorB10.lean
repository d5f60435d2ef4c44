/- Part 10. -/
import Derived.Test.YtebcagekopgdhaaGreatDoorB09
set_option linter.unusedVariables false
set_option maxRecDepth 100000
set_option maxHeartbeats 40000000
namespace Go.Proofs.YtebcagekopgdhaaGreatDoor
open Go.RowKit Pl Go.Wk
attribute [local irreducible] WC WL QX WD WDB WP
theorem DP.same{w0 w w':World}{base:Nat}{A:Option Addr}{n c:Nat}{ps q:List Pr}(h:DP w0 w base A n c ps q)(k:DP w w' base A n c q q): DP w0 w' base A n c ps q:=h.after k
theorem DP.ins{w0 w w':World}{base:Nat}{A:Option Addr}{n c a b:Nat}{ps q q':List Pr}(h:DP w0 w base A n c ps q)(k1:Dat w' base (.slice A n c) q')(k2:Seg z0 a b q q')(k3:w.grownBy w' (Value.slice A n c).ownBlock): DP w0 w' base A n c ps q' :=
 ⟨k1,k2.perm.trans h.p,Zx h.g k3,by rw [k2.len];exact h.l⟩
section
variable {ds:List Bool} {q q1 q2:List Pr} {a b m A B:Nat}
def BelZ(ds:List Bool)(q:List Pr)(a b:Nat): Prop:=a=0∨∀ i,a<=i->i<b->fP ds (q.getD (a-1) z0) (q.getD i z0)<=0
def KpZ(ds:List Bool)(q:List Pr)(a b A B:Nat): Prop:=∀ q2,Seg z0 a b q q2->SOn z0 (fP ds) q2 a b->SOn z0 (fP ds) q2 A B
theorem KpZ.seg(h:KpZ ds q a b A B)(hs:Seg z0 a b q q1): KpZ ds q1 a b A B:=λq2 u o=>h q2 (hs.trans u) o
theorem BelZ.seg(h:BelZ ds q a b)(hs:Seg z0 a b q q1)(hab:a<=b)(hb:b<=q.length): BelZ ds q1 a b:=by
 rcases h with h|h
 .exact .inl h
 .rcases Nat.eq_zero_or_pos a with h0|h0
  .exact .inl h0
  .refine .inr λi u o=>?_;rw [hs.lo (a-1) om];exact hs.all hab hb (Φ:=λx=>fP ds (q.getD (a-1) z0) x<=0) h i u o
theorem BelZ.arr(h:BelZ ds q a b): Go.Sort.Below (ltP ds) a b q.toArray:=by
 rcases h with h|h
 .exact .inl h
 .exact .inr λi u o=>by rw [az,az];exact ltP_f' (h i u o)
theorem Jvn{x y z:Pr}(h1:fP ds x y<=0)(h2:fP ds y z<=0): fP ds x z<=0:=Jvt _ _ _ ds h1 h2
theorem Qhr{w0 w:World}{base:Nat}{A0:Option Addr}{n c pv:Nat}(H:DP w0 w base A0 n c q q1)(hlq:q.length=n)(hB:BelZ ds q a b)(hK:KpZ ds q a b A B)(h0:0<a)(hlt:ltP ds (q.getD (a-1) z0) (q.getD pv z0)=false)(hp0:a<=pv)(hp1:pv<b)(hb:b<=n)(hE:Go.Sort.partitionEqual (ltP ds) q.toArray a b pv=(m,q1.toArray)): Seg z0 a b q q1/\BelZ ds q1 m b/\KpZ ds q1 m b A B:=by
 have O:∀ i,a<=i->i<b->fP ds (q.getD pv z0) (q.getD i z0)<=0:=λi J G=>by
  rcases hB with h|h
  .omega
  .exact Jvn (Jqm hlt) (h i J G)
 have hP:=Go.Sort.partitionEqual_holds (ltP ds) (swoP ds) q.toArray a b pv hp0 hp1 (by simpa [hlq] using hb) λi J G=>by
  rw [az,az];exact ltP_f' (O i J G)
 rw [hE]at hP;obtain ⟨a3,a1,C,a2,a4⟩:=hP;have U:=H.seg C;have o:=U.all om om (Φ:=λx=>fP ds (q.getD pv z0) x<=0) O;have u:∀ i,a<=i->i<m->fP ds (q1.getD i z0) (q.getD pv z0)<=0:=λi J G=>by
  have:=a2 i J G;rw [az,az]at this;exact Jqm this
 refine ⟨U,.inr λi J G=>Jvn (u (m-1) om om) (o i om G),λq3 Z h4=>hK q3 (U.trans (Z.mono om (Nat.le_refl _))) λi j h5 h6 h7=>?_⟩;by_cases hi:i<m
 .rw [Z.lo i hi];refine Jvn (u i h5 hi) ?_;by_cases hj:j<m
  .rw [Z.lo j hj];exact o j om h7
  .exact Z.all a1 (by rw [U.len];omega) (Φ:=λx=>fP ds (q.getD pv z0) x<=0) (λk k1 k2=>o k om k2) j om h7
 .exact h4 i j om h6 h7
theorem Qcc{w0 w:World}{base:Nat}{A0:Option Addr}{n c pv:Nat}{t:Bool}(H:DP w0 w base A0 n c q q1)(hlq:q.length=n)(hp0:a<=pv)(hp1:pv<b)(hb:b<=n)(hE:Go.Sort.partition (ltP ds) q.toArray a b pv=(m,t,q1.toArray)):
  Seg z0 a b q q1/\a<=m/\m<b/\(∀ i,a<=i->i<m->fP ds (q1.getD i z0) (q1.getD m z0)<=0)/\(∀ i,m<i->i<b->fP ds (q1.getD m z0) (q1.getD i z0)<=0):=by
 have Z:=Go.Sort.partition_holds (ltP ds) (swoP ds) q.toArray a b pv hp0 hp1 (by simpa [hlq] using hb);rw [hE]at Z;obtain ⟨C,u,o,G,J⟩:=Z;refine ⟨H.seg o,C,u,λi U O=>?_,λi U O=>?_⟩
 .have:=G i U O;rw [az,az]at this;exact Int.le_of_lt (Jcx this)
 .have:=J i U O;rw [az,az]at this;exact Jqm this
theorem Jrb{q3:List Pr}{pm:Pr}(hm:a<=m)(hmb:m<b)(hpm:q3.getD m z0=pm)(hL:SOn z0 (fP ds) q3 a m)(hR:SOn z0 (fP ds) q3 (m+1) b)(hlo:∀ i,a<=i->i<m->fP ds (q3.getD i z0) pm<=0)(hhi:∀ i,m<i->i<b->fP ds pm (q3.getD i z0)<=0): SOn z0 (fP ds) q3 a b:=λi j C u o=>by
 rcases Nat.lt_trichotomy i m with hi|hi|hi
 .rcases Nat.lt_trichotomy j m with hj|hj|hj
  .exact hL i j C u hj
  .subst hj;rw [hpm];exact hlo i C hi
  .exact Jvn (hlo i C hi) (hhi j hj o)
 .subst hi;rw [hpm];exact hhi j u o
 .exact hR i j om u o
theorem Qfq(hS:Seg z0 a b q q1)(hl:b<=q.length)(hK:KpZ ds q a b A B)(hm:a<=m)(hmb:m<b)(hlo:∀ i,a<=i->i<m->fP ds (q1.getD i z0) (q1.getD m z0)<=0)(hhi:∀ i,m<i->i<b->fP ds (q1.getD m z0) (q1.getD i z0)<=0)(h2:Seg z0 a m q1 q2)(hs:SOn z0 (fP ds) q2 a m): BelZ ds q2 (m+1) b/\KpZ ds q2 (m+1) b A B:=by
 have l1:q1.length=q.length:=hS.len;have Z:q2.length=q1.length:=h2.len;have G:q2.getD m z0=q1.getD m z0:=h2.hi m (Nat.le_refl _);have u:∀ i,m+1<=i->i<b->fP ds (q1.getD m z0) (q2.getD i z0)<=0:=λi C o=>by rw [h2.hi i om];exact hhi i om o
 refine ⟨.inr λi C o=>by rw [show m+1-1=m by omega,G];exact u i C o,λO J U=>hK O ((hS.trans (h2.mono (Nat.le_refl _) om)).trans (J.mono om (Nat.le_refl _))) ?_⟩;refine Jrb hm hmb (pm:=q1.getD m z0) (by rw [J.lo m om,G]) (hs.same λk C o=>J.lo k om) U (λi C o=>?_) λi C o=>?_
 .rw [J.lo i om];exact h2.all hm om (Φ:=λx=>fP ds x (q1.getD m z0)<=0) hlo i C o
 .exact J.all om om (Φ:=λx=>fP ds (q1.getD m z0) x<=0) u i om o
theorem Qyk(hS:Seg z0 a b q q1)(hl:b<=q.length)(hB:BelZ ds q a b)(hK:KpZ ds q a b A B)(hm:a<=m)(hmb:m<b)(hlo:∀ i,a<=i->i<m->fP ds (q1.getD i z0) (q1.getD m z0)<=0)(hhi:∀ i,m<i->i<b->fP ds (q1.getD m z0) (q1.getD i z0)<=0)(h2:Seg z0 (m+1) b q1 q2)(hs:SOn z0 (fP ds) q2 (m+1) b): BelZ ds q2 a m/\KpZ ds q2 a m A B:=by
 have l1:q1.length=q.length:=hS.len;have l2:q2.length=q1.length:=h2.len;have J:q2.getD m z0=q1.getD m z0:=h2.lo m om;have O:=(hB.seg hS om hl).seg (h2.mono om (Nat.le_refl _)) om om;refine ⟨O.imp id λh i u o=>h i u om,λZ C h4=>hK Z ((hS.trans (h2.mono om (Nat.le_refl _))).trans (C.mono (Nat.le_refl _) om)) ?_⟩;refine Jrb hm hmb (pm:=q1.getD m z0) (by rw [C.hi m (Nat.le_refl _),J]) h4 (hs.same λk u o=>C.hi k om) (λi u o=>?_) λi u o=>?_
 .exact C.all hm om (Φ:=λx=>fP ds x (q1.getD m z0)<=0) (λk U G=>by rw [h2.lo k om];exact hlo k U G) i u o
 .rw [C.hi i om];exact h2.all om om (Φ:=λx=>fP ds (q1.getD m z0) x<=0) (λk U G=>hhi k om G) i om o
end
theorem Qbw: ∀ (m:Nat) {w:World} {base:Nat} {A:Option Addr} {n c:Nat} {fid:FuncId} {first cap:Array Value} {ps:List Pr} {ds:List Bool} (hD:Dat w base (.slice A n c) ps) (hn:ps.length=n) (hmx:n<=140737488355328) (hC:CF w (Value.slice A n c).ownBlock fid first cap ps ds) {a0 b0:Nat} {ai bi lim:Int} (hai:ai=(a0:Int)) (hbi:bi=(b0:Int)) (hab:a0<=b0) (hb:b0<=n) (hl:0<=lim/\lim<=64) (hm:b0-a0<=m) (hBl:BelZ ds ps a0 b0),
  Ret Tryz.prog 158 [.slice A n c,.int .i64 ai,.int .i64 bi,.int .i64 lim,.func (.func fid) first cap] w λv w'=>∃ ps',DP w w' base A n c ps ps'/\Seg z0 a0 b0 ps ps'/\SOn z0 (fP ds) ps' a0 b0:=by
 intro m;induction m using Nat.strongRecOn with
 | ind m ih=>
 intro w base A n c fid first cap ps ds hD hn hmx hC a0 b0 ai bi lim hai hbi hab hb hl hm hBl
 subst hai;subst hbi;refine Jz Tryz.func158 Tryz.ntmps158 rfl kr rfl ?_;refine ρ ?_;refine Jjg (fun (ab:Nat×Nat) (lt:Int×Bool) (wp:Bool) (q:List Pr)=>[(0,.slice A n c),(1,.int .i64 (ab.1:Int)),(2,.int .i64 (ab.2:Int)),(3,.int .i64 lt.1),(4,.func (.func fid) first cap),(10,.bool lt.2),(11,.bool wp)])
  (λab lt wp q w'=>DP w w' base A n c ps q/\(Seg z0 a0 b0 ps q/\BelZ ds q ab.1 ab.2/\KpZ ds q ab.1 ab.2 a0 b0/\a0<=ab.1/\ab.2<=b0)/\ab.1<=ab.2/\ab.2<=n/\ab.2-ab.1<=m/\0<=lt.1/\lt.1<=64) (λab _ _ _=>ab.2-ab.1) (a0,b0) (lim,true) true ps sB ⟨DP.start hD hn,⟨Seg.refl _ _ _,hBl,λq2 _ h=>h,Nat.le_refl _,Nat.le_refl _⟩,om,om,om,om,om⟩ ?_
 have ak:=hb;clear hD hab hb hm;rintro ⟨a,b⟩ ⟨lim,wb⟩ a4 q w1 ⟨H,⟨u,C,o,O,J⟩,hab,hb,hm,a6,a5⟩;simp only at hab hb hm a6 a5 C o O J;refine ρ ?_;refine ci (λh=>?_) (λh=>?_)
 .refine ρ ?_;refine cl (Qgm (ai:=(a:Int)) (bi:=(b:Int)) H.d H.l rfl rfl hb om hmx (hC.step H).pack) ?_;rintro v w2 ⟨q2,k1,k2,k3,k4⟩;refine ρ ?_;exact Jzt ⟨q2,H.ins k1 k2 k4,u.trans (k2.mono O J),o q2 k2 k3⟩
 have a8:a+12<b:=by have:=oF h;omega
 clear h;refine ρ ?_;refine ci (λh=>?_) (λh=>?_)
 .refine ρ ?_;refine cl (Qgz (a:=a) (b:=b) H.d H.l hmx (hC.step H) rfl rfl om hb) ?_;rintro v w2 ⟨q2,H2,a3⟩;have hs:=Go.Sort.heapSort_holds (lt:=ltP ds) (swoP ds) q.toArray a b om (by simpa [H.l] using hb);rw [a3]at hs;have ae:=H2.seg hs.1;refine ρ ?_;exact Jzt ⟨q2,H.after H2,u.trans (ae.mono O J),o q2 ae (Jlw hs.2)⟩
 have ag:lim≠0:=Xg h;clear h;refine ρ ?_;refine Kr (fun (lim:Int) (q:List Pr)=>[(0,.slice A n c),(1,.int .i64 (a:Int)),(2,.int .i64 (b:Int)),(3,.int .i64 lim),(4,.func (.func fid) first cap),(10,.bool wb),(11,.bool a4),(12,.int .i64 ((b:Int)-(a:Int)))]) (λlim q w'=>DP w w' base A n c ps q/\0<=lim/\lim<=64/\Seg z0 a0 b0 ps q/\BelZ ds q a b/\KpZ ds q a b a0 b0) ?_ ?_
 .refine ci (λh=>?_) (λh=>?_)
  .refine ρ ?_;refine cl (Qmx (a:=a) (b:=b) H.d H.l hmx (hC.step H) rfl rfl a8 hb) ?_;rintro v w2 ⟨q2,H2,G⟩;refine ρ ?_;exact Zn (lim-1) q2 sB ⟨H.after H2,om,om,u.trans (G.mono O J),C.seg G om (by rw [H.l];exact hb),o.seg G⟩
  .refine ρ ?_;exact Zn lim q sB ⟨H,om,om,u,C,o⟩
 clear H a6 a5 ag u C o lim q;rintro lim q w2 ⟨H,a6,a5,u,C,o⟩;refine ρ ?_;refine cl (Qmp (a:=a) (b:=b) H.d H.l hmx (hC.step H) rfl rfl a8 hb) ?_;rintro v w3 ⟨pv,Z,rfl,a2,a1,H2⟩;have H3:=H.same H2;clear H H2;refine ρ ?_;refine Jhl (fun (pv:Nat) (Z:Int) (q:List Pr)=>[(0,.slice A n c),(1,.int .i64 (a:Int)),(2,.int .i64 (b:Int)),(3,.int .i64 lim),(4,.func (.func fid) first cap),(10,.bool wb),(11,.bool a4),(12,.int .i64 ((b:Int)-(a:Int))),(13,.int .i64 (pv:Int)),(14,.int .i64 Z)]) (λpv Z q w'=>DP w w' base A n c ps q/\a<=pv/\pv<b/\Seg z0 a0 b0 ps q/\BelZ ds q a b/\KpZ ds q a b a0 b0) ?_ ?_
 .refine ci (λh=>?_) (λh=>?_)
  .refine ρ ?_;refine cl (Qyl (a:=a) (b:=b) H3.d H3.l hmx (hC.step H3) rfl rfl om hb) ?_;rintro v w2 ⟨q2,H2,G⟩;refine ρ ?_;exact Jwl (b-1-(pv-a)) 1 q2 sO ⟨H3.after H2,om,om,u.trans (G.mono O J),C.seg G om (by rw [H3.l];exact hb),o.seg G⟩
  .refine ρ ?_;exact Jwl pv Z q sB ⟨H3,a2,a1,u,C,o⟩
 clear H3 a2 a1 u C o pv Z q;rintro pv Z q w3 ⟨H,a2,a1,u,C,o⟩;refine ρ ?_;refine Vm (fun (t:Bool)=>[(0,.slice A n c),(1,.int .i64 (a:Int)),(2,.int .i64 (b:Int)),(3,.int .i64 lim),(4,.func (.func fid) first cap),(10,.bool wb),(11,.bool a4),(12,.int .i64 ((b:Int)-(a:Int))),(13,.int .i64 (pv:Int)),(75,.bool t)]) (λt w'=>DP w w' base A n c ps q) ?_ ?_
 .refine ki 69 (λh=>?_) (λh=>?_)
  .refine ρ ?_;refine ki 72 (λh=>?_) (λh=>?_)
   .refine ρ ?_;exact Jb _ sB H
   .refine ρ ?_;exact Jb _ sB H
  .refine ρ ?_;exact Jb _ sB H
 clear H;rintro t w4 H;refine Xa (fun (q:List Pr)=>[(0,.slice A n c),(1,.int .i64 (a:Int)),(2,.int .i64 (b:Int)),(3,.int .i64 lim),(4,.func (.func fid) first cap),(10,.bool wb),(11,.bool a4),(12,.int .i64 ((b:Int)-(a:Int))),(13,.int .i64 (pv:Int))]) (λq w'=>DP w w' base A n c ps q/\Seg z0 a0 b0 ps q/\BelZ ds q a b/\KpZ ds q a b a0 b0) ?_ ?_
 .refine ci (λh=>?_) (λh=>?_)
  .refine ρ ?_;refine cl (Qbz (a:=a) (b:=b) H.d H.l hmx (hC.step H) rfl rfl om hb) ?_;rintro v w2 ⟨q2,H2,t2,rfl,a3⟩;have hs:=Go.Sort.partialInsertionSort_holds (lt:=ltP ds) (swoP ds) q.toArray a b om (by simpa [H.l] using hb) C.arr;rw [a3]at hs;have G:=H2.seg hs.1;refine ρ ?_;refine ci (λh=>?_) (λh=>?_)
   .refine ρ ?_;exact Jzt ⟨q2,H.after H2,u.trans (G.mono O J),o q2 G (Jlw (hs.2 h))⟩
   .refine ρ ?_;exact Jb _ sB ⟨H.after H2,u.trans (G.mono O J),C.seg G om (by rw [H.l];exact hb),o.seg G⟩
  .refine ρ ?_;exact Jb _ sB ⟨H,u,C,o⟩
 clear H u C o q;rintro q w5 ⟨H,u,C,o⟩;refine ρ ?_;refine Xa (fun (t:Bool)=>[(0,.slice A n c),(1,.int .i64 (a:Int)),(2,.int .i64 (b:Int)),(3,.int .i64 lim),(4,.func (.func fid) first cap),(10,.bool wb),(11,.bool a4),(12,.int .i64 ((b:Int)-(a:Int))),(13,.int .i64 (pv:Int)),(97,.bool t)]) (λt w'=>DP w w' base A n c ps q/\(t=true->0<a/\ltP ds (q.getD (a-1) z0) (q.getD pv z0)=false)) ?_ ?_
 .skip
  refine dr [(0,0),(0,1),(0,2),(0,3),(0,4),(0,5),(0,6),(0,7),(0,8),(0,9),(0,10),(0,11),(0,12),(1,13),(0,14),(0,15),(0,16)] kr ?_;have Hd:=H.drew;refine ρd ?_;refine dki 83 (λh=>?_) (λh=>?_)
  .have hT:0<a:=by have:=oT h;omega
   have lx:a-1<n:=om
   have ly:pv<n:=om
   refine ρd ?_;refine dix (a-1) Hd.rd lx ?_;refine ρd ?_;refine dld (Hd.cell lx) ?_;refine ρd ?_;refine dix (pv) Hd.rd ly ?_;refine ρd ?_;refine dld (Hd.cell ly) ?_;refine ρd ?_;refine Za (hC.callV Hd lx ly) ?_;rintro r aj ⟨rfl,a7⟩;refine ⟨a7,?_⟩;have HT:=Hd.ext a7;refine ρd ?_;refine ρ ?_;exact Jb _ sB ⟨HT,λe=>⟨hT,by
    cases h':ltP ds (q.getD (a-1) z0) (q.getD pv z0) with
    | false=>rfl
    | true=>exact absurd (show (!ltP ds (q.getD (a-1) z0) (q.getD pv z0))=true from e) (by rw [h'];decide)⟩⟩
  .refine ρd ?_;refine ρ ?_;exact Jb false sB ⟨Hd,λe=>by cases e⟩
 clear H;rintro t2 w6 ⟨H,a9⟩;refine ci (λh=>?_) (λh=>?_)
 .refine ρ ?_;refine cl (Qcg (a:=a) (b:=b) (pv:=pv) H.d H.l hmx (hC.step H) rfl rfl rfl om hb a2 a1) ?_;rintro v w2 ⟨q2,H2,U,rfl,ac,aa,a3⟩;obtain ⟨k1,k2,k3⟩:=Qhr H2 H.l C o (a9 h).1 (a9 h).2 a2 a1 hb a3;refine ρ ?_;exact Gy (U,b) (lim,wb) a4 q2 sB ⟨H.after H2,⟨u.trans (k1.mono O J),k2,k3,by simp only;omega,J⟩,by simp only;omega,by simp only;omega,by simp only;omega,by simp only;omega,by simp only;omega⟩ (by simp only;omega)
 refine ρ ?_;refine cl (Qcd (a:=a) (b:=b) (pv:=pv) H.d H.l hmx (hC.step H) rfl rfl rfl om hb a2 a1) ?_;rintro v w7 ⟨q2,H2,U,af,rfl,ac,aa,a3⟩;have H3:=H.after H2;obtain ⟨k1,_,_,k4,k5⟩:=Qcc H2 H.l a2 a1 hb a3;have ad:b<=q.length:=by rw [H.l];exact hb
 have ah:=C.seg k1 om ad;clear H H2 a9;refine ρ ?_;refine qn (b-a) 8 ?_;refine ρ ?_;refine ci (λh=>?_) (λh=>?_)
 .refine ρ ?_;refine cl (ih (U-a) om H3.d H3.l hmx (hC.step H3) (a0:=a) (b0:=U) rfl rfl om om ⟨a6,a5⟩ (Nat.le_refl _) (ah.imp id λh i j1 j2=>h i j1 om)) ?_;rintro v w8 ⟨q3,H4,k6,k7⟩;obtain ⟨k8,k9⟩:=Qfq k1 ad o ac aa k4 k5 k6 k7;refine ρ ?_;exact Gy (U+1,b) (lim,_) af q3 sO ⟨H3.after H4,⟨(u.trans (k1.mono O J)).trans (k6.mono O om),k8,k9,by simp only;omega,J⟩,by simp only;omega,by simp only;omega,by simp only;omega,by simp only;omega,by simp only;omega⟩ (by simp only;omega)
 .refine ρ ?_;refine cl (ih (b-(U+1)) om H3.d H3.l hmx (hC.step H3) (a0:=U+1) (b0:=b) (ai:=(U:Int)+1) om rfl om om ⟨a6,a5⟩ (Nat.le_refl _) (.inr λi j1 j2=>by rw [show U+1-1=U by omega];exact k5 i om j2)) ?_;rintro v w8 ⟨q3,H4,k6,k7⟩;obtain ⟨k8,k9⟩:=Qyk k1 ad C o ac aa k4 k5 k6 k7;refine ρ ?_;exact Gy (a,U) (lim,_) af q3 sO ⟨H3.after H4,⟨(u.trans (k1.mono O J)).trans (k6.mono om J),k8,k9,O,by simp only;omega⟩,by simp only;omega,by simp only;omega,by simp only;omega,by simp only;omega,by simp only;omega⟩ (by simp only;omega)
end Go.Proofs.YtebcagekopgdhaaGreatDoor
namespace Go.Wk
open Go.RowKit
structure GrN(N:Nat->Prop)(w w':World): Prop where
 os:w'.os=w.os
 tape:w'.tape=w.tape
 output:w'.output=w.output
 size:w.heap.size<=w'.heap.size
 block:∀ k,k<w.heap.size->¬ N k->w'.heap[k]?=w.heap[k]?
theorem GrN.refl(N:Nat->Prop)(w:World): GrN N w w:=⟨rfl,rfl,rfl,Nat.le_refl _,λ_ _ _=>rfl⟩
theorem GrN.ext{N:Nat->Prop}{w w':World}(h:Ext w w'): GrN N w w':=⟨h.os,h.tape,h.output,h.size,λk o _=>h.block k o⟩
theorem GrN.trans{N:Nat->Prop}{a b c:World}(h:GrN N a b)(k:GrN N b c): GrN N a c :=
 ⟨k.os.trans h.os,k.tape.trans h.tape,k.output.trans h.output,Nat.le_trans h.size k.size,λj o hn=>(k.block j (nM o h.size) hn).trans (h.block j o hn)⟩
theorem GrN.by{N:Nat->Prop}{w w':World}{g:Option Nat}(h:w.grownBy w' g)(hg:∀ k,g=some k->N k): GrN N w w':=⟨h.os,h.tape,h.output,h.size,λk o hn=>h.block k o (λe=>hn (hg k e.symm))⟩
theorem GrN.set{N:Nat->Prop}{w:World}{p:Addr}(u:Value)(hp:N p.block): GrN N w (w.setCell p u):=by
 refine ⟨rfl,rfl,rfl,by simp [World.setCell],λk o hn=>Below.heap_setCell w p u k ?_⟩;intro e;subst e;exact hn hp
theorem GrN.mono{N N':Nat->Prop}{w w':World}(h:GrN N w w')(hN:∀ k,k<w.heap.size->N k->N' k): GrN N' w w':=⟨h.os,h.tape,h.output,h.size,λk o hn=>h.block k o (λe=>hn (hN k o e))⟩
theorem GrN.old{N:Nat->Prop}{a w w':World}(h:GrN N w w')(hx:Ext a w)(hN:∀ k,N k->a.heap.size<=k): Ext a w' :=
 ⟨h.os.trans hx.os,h.tape.trans hx.tape,h.output.trans hx.output,Nat.le_trans hx.size h.size,λk o=>(h.block k (nM o hx.size) (λe=>by have:=hN k e;omega)).trans (hx.block k o)⟩
theorem GrN.toExt{w w':World}(h:GrN (λ_=>False) w w'): Ext w w':=⟨h.os,h.tape,h.output,h.size,λk o=>h.block k o (λe=>e)⟩
def Off(N:Nat->Prop)(w:World)(Φ:World->Prop): Prop:=∀ w',GrN N w w'->Φ w'
section
variable {N N':Nat->Prop} {w w':World} {Φ Ψ:World->Prop}
theorem Off.here(h:Off N w Φ): Φ w:=h w (GrN.refl N w)
theorem Off.gr(h:Off N w Φ)(hg:GrN N w w'): Off N w' Φ:=λo u=>h o (hg.trans u)
theorem Off.ext(h:Off N w Φ)(hx:Ext w w'): Off N w' Φ:=h.gr (GrN.ext hx)
theorem Off.mono(h:Off N w Φ)(hN:∀ k,k<w.heap.size->N' k->N k): Off N' w Φ:=λw' o=>h w' (o.mono hN)
theorem Off.imp(h:Off N w Φ)(hi:∀ u,Φ u->Ψ u): Off N w Ψ:=λw' o=>hi w' (h w' o)
theorem Off.and(h:Off N w Φ)(k:Off N w Ψ): Off N w (λu=>Φ u/\Ψ u):=λw' o=>⟨h w' o,k w' o⟩
theorem Off.grown{g:Option Nat}(h:Off N w Φ)(hg:w.grownBy w' g)(hN:∀ k,g=some k->N k): Off N w' Φ:=h.gr (GrN.by hg hN)
theorem Off.old{a:World}(hΦ:∀ u,Ext a u->Φ u)(hx:Ext a w)(hN:∀ k,N k->a.heap.size<=k): Off N w Φ:=λw' o=>hΦ w' (o.old hx hN)
theorem Zo{sz n:Nat}{A:Option Addr}{cs:List Value}(h:Rd w sz A n cs)(hg:GrN N w w')(hA:0<cs.length->∀ ad,A=some ad->¬ N ad.block): Rd w' sz A n cs :=
 ⟨h.1,λh0=>by
  obtain ⟨ad,e,o,G⟩:=h.2 h0;refine ⟨ad,e,Nat.lt_of_lt_of_le o hg.size,λj u C=>?_⟩;rw [<-G j u C];exact World.cell?_of_block (by rw [Uf];exact hg.block _ o (hA h0 ad e))⟩
theorem Jnm{sz n:Nat}{A:Option Addr}{cs:List Value}(h:Rd w sz A n cs)(hA:0<cs.length->∀ ad,A=some ad->¬ N ad.block): Off N w (λu=>Rd u sz A n cs):=λw' o=>Zo h o hA
theorem Jd{g:Nat}{t:TypeId}{cs:List Value}(h:Blk w g t cs)(hg:GrN N w w')(hn:¬ N g): Blk w' g t cs:=(hg.block g h.lt hn).trans h
theorem Jr{base e sz:Nat}{v:Value}{m:Nat}{xs:List Value}(h:w.ownsRow base e sz v m xs)(hg:GrN N w w')(hn:∀ g,v.ownBlock=some g->¬ N g): w'.ownsRow base e sz v m xs:=by
 rcases h with ⟨J,⟨rfl,rfl⟩|⟨g,G,cur,rfl,Z,C,u,O,U,ht⟩⟩
 .exact ⟨J,.inl ⟨rfl,rfl⟩⟩
 .refine ⟨J,.inr ⟨g,G,cur,rfl,Z,?_,u,O,U,ht⟩⟩;have o:g<w.heap.size:=by
   rcases Nat.lt_or_ge g w.heap.size with h'|h'
   .exact h'
   .rw [Array.getElem?_eq_none h']at C;cases C
  rw [hg.block g o (hn g rfl)];exact C
theorem Jjx{base e sz:Nat}{v:Value}{m:Nat}{xs:List Value}(h:w.ownsRow base e sz v m xs)(hn:∀ g,v.ownBlock=some g->¬ N g): Off N w (λu=>u.ownsRow base e sz v m xs):=λw' o=>Jr h o hn
end
theorem Zh{P:Program}{n:Nat}{al:AL}{w:World}{tt:TT}[h:Tab P tt]{fn:Func}{Φ:Value->World->Prop}{c t t1 b:Nat}{k:TK}{cs:List Value}{x:Value}(hb:Blk w b t cs)(hp:Φ (.tuple #[.agg cs.toArray,x]) w)(hr:fn.results = #[.cell c t,.tmp t1]:=by rfl)(ht:tk tt t=some k:=by rfl)(hk:k.desc=.invalid:=by rfl)(hs:k.size=cs.length:=by rfl)(hc:lk al c=some (.pointer (some ⟨b,0,none⟩)):=by rfl)(h1:lk al t1=some x:=by rfl):
  QX n (Vh P fn Φ) .ret al w :=
 Jqz (rs:=[.cell c t,.tmp t1]) (vs:=[.agg cs.toArray,x]) hr ⟨⟨_,hc,Iz h.ok ht hk hs (λj u o=>hb.at o)⟩,h1,trivial⟩ rfl hp
end Go.Wk
