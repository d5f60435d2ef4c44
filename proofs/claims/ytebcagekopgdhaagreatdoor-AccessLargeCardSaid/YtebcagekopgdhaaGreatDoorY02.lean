/- Part 2. -/
import Derived.Test.YtebcagekopgdhaaGreatDoorY01
import Derived.Laws.CopyRow
set_option linter.unusedVariables false
set_option maxRecDepth 100000
set_option maxHeartbeats 40000000
namespace Go.Proofs.YtebcagekopgdhaaGreatDoor
open Go.RowKit Pl Go.Wk
attribute [local irreducible] WC WL QX WD WDB WP
variable {cap first:Array Value}{fid:FuncId}{ai bi pvi:Int}{ds:List Bool}{ps:List Pr}{a b base c i0 j0 m n:Nat}{A:Option Addr}{w:World}
section
variable {ds:List Bool} {q:List Pr} {P:Pr->Bool} {i j:Nat}
theorem suT(h:(decide (i<=j) && P (q.getD i z0))=true): Go.Sort.scanUp P q.toArray j i=Go.Sort.scanUp P q.toArray j (i+1):=by
 rw [Go.Sort.scanUp,az,if_pos h]
theorem suF(h:(decide (i<=j) && P (q.getD i z0))=false): Go.Sort.scanUp P q.toArray j i=i:=by
 rw [Go.Sort.scanUp,az,if_neg (by rw [h];decide)]
theorem sdT(hi:1<=i)(h:(decide (i<=j) && P (q.getD j z0))=true): Go.Sort.scanDown P q.toArray i j=Go.Sort.scanDown P q.toArray i (j-1):=by
 cases j with
 | zero=>simp at h;omega
 | succ j=>rw [Go.Sort.scanDown,az,if_pos h];rfl
theorem sdF(h:(decide (i<=j) && P (q.getD j z0))=false): Go.Sort.scanDown P q.toArray i j=j:=by
 cases j with
 | zero=>rfl
 | succ j=>rw [Go.Sort.scanDown,az,if_neg (by rw [h];decide)]
theorem Qft(hU:Go.Sort.scanUp (λx=>!ltP ds (q.getD a z0) x) q.toArray j0 i0=i)(hN:Go.Sort.scanDown (λx=>ltP ds (q.getD a z0) x) q.toArray i j0=j)(h1:i0<=i)(h2:j<=j0):
  Go.Sort.partEqLoop (ltP ds) a i0 j0 q.toArray=if i > j then (i,q.toArray) else Go.Sort.partEqLoop (ltP ds) a (i+1) (j-1) (swp z0 q i j).toArray:=by
 rw [Go.Sort.partEqLoop];simp only [az,hU,hN,swz];by_cases h:i > j
 .rw [if_pos h,if_pos h]
 .rw [if_neg h,if_neg h,dif_pos om]
theorem partZ(hU:Go.Sort.scanUp (λx=>ltP ds x (q.getD a z0)) q.toArray j0 i0=i)(hN:Go.Sort.scanDown (λx=>!ltP ds x (q.getD a z0)) q.toArray i j0=j)(h1:i0<=i)(h2:j<=j0):
  Go.Sort.partLoop (ltP ds) a i0 j0 q.toArray=if i > j then (j,q.toArray) else Go.Sort.partLoop (ltP ds) a (i+1) (j-1) (swp z0 q i j).toArray:=by
 rw [Go.Sort.partLoop];simp only [az,hU,hN,swz];by_cases h:i > j
 .rw [if_pos h,if_pos h]
 .rw [if_neg h,if_neg h,dif_pos om]
theorem Qfr{pv:Nat}(hq:swp z0 ps a pv=q)(hU:Go.Sort.scanUp (λx=>ltP ds x (q.getD a z0)) q.toArray (b-1) (a+1)=i)(hN:Go.Sort.scanDown (λx=>!ltP ds x (q.getD a z0)) q.toArray i (b-1)=j):
  Go.Sort.partition (ltP ds) ps.toArray a b pv=if i > j then (j,true,(swp z0 q j a).toArray) else ((Go.Sort.partLoop (ltP ds) a (i+1) (j-1) (swp z0 q i j).toArray).1,false,Go.Sort.swp (Go.Sort.partLoop (ltP ds) a (i+1) (j-1) (swp z0 q i j).toArray).2 (Go.Sort.partLoop (ltP ds) a (i+1) (j-1) (swp z0 q i j).toArray).1 a):=by
 unfold Go.Sort.partition;rw [swz,hq];simp only [az,hU,hN,swz]
theorem ssT(h:(decide (i<b) && !ltP ds (q.getD i z0) (q.getD (i-1) z0))=true): Go.Sort.scanSorted (ltP ds) q.toArray b i=Go.Sort.scanSorted (ltP ds) q.toArray b (i+1):=by
 rw [Go.Sort.scanSorted,az,az,if_pos h]
theorem ssF(h:(decide (i<b) && !ltP ds (q.getD i z0) (q.getD (i-1) z0))=false): Go.Sort.scanSorted (ltP ds) q.toArray b i=i:=by
 rw [Go.Sort.scanSorted,az,az,if_neg (by rw [h];decide)]
theorem Qfn{s:Nat}(hS:Go.Sort.scanSorted (ltP ds) q.toArray b i0=i):
  Go.Sort.partialIns (ltP ds) a b (s+1) i0 q.toArray=if i=b then (q.toArray,true) else if b-a<50 then (q.toArray,false) else
   Go.Sort.partialIns (ltP ds) a b s i (if b-i ≥ 2 then Go.Sort.shiftUp (ltP ds) b (i+1) (if i-a ≥ 2 then Go.Sort.shiftDown (ltP ds) (i-1) (swp z0 q i (i-1)).toArray else (swp z0 q i (i-1)).toArray) else (if i-a ≥ 2 then Go.Sort.shiftDown (ltP ds) (i-1) (swp z0 q i (i-1)).toArray else (swp z0 q i (i-1)).toArray)):=by
 rw [Go.Sort.partialIns];simp only [hS,swz]
theorem shd(h:1<=m): Go.Sort.shiftDown (ltP ds) m q.toArray=if (!ltP ds (q.getD m z0) (q.getD (m-1) z0))=true then q.toArray else Go.Sort.shiftDown (ltP ds) (m-1) (swp z0 q m (m-1)).toArray:=by
 cases m with
 | zero=>omega
 | succ m=>rw [Go.Sort.shiftDown,az,az,swz];rfl
theorem shu0{d:Array Pr}(h:¬ m<b): Go.Sort.shiftUp (ltP ds) b m d=d:=by rw [Go.Sort.shiftUp,if_neg h]
theorem shu(h:m<b): Go.Sort.shiftUp (ltP ds) b m q.toArray=if (!ltP ds (q.getD m z0) (q.getD (m-1) z0))=true then q.toArray else Go.Sort.shiftUp (ltP ds) b (m+1) (swp z0 q m (m-1)).toArray:=by
 rw [Go.Sort.shiftUp,if_pos h,az,az,swz]
end
theorem Qfs(hD:Dat w base (.slice A n c) ps)(hn:ps.length=n)(hmx:n<=140737488355328)(hC:CF w (Value.slice A n c).ownBlock fid first cap ps ds){pv:Nat}(hai:ai=(a:Int))(hbi:bi=(b:Int))(hpvi:pvi=(pv:Int))(hab:a<b)(hb:b<=n)(hp0:a<=pv)(hp1:pv<b):
  Ret Tryz.prog 181 [.slice A n c,.int .i64 ai,.int .i64 bi,.int .i64 pvi,.func (.func fid) first cap] w λv w'=>∃ ps',DP w w' base A n c ps ps'/\∃ m:Nat,v=.int .i64 (m:Int)/\a<m/\m<=b/\Go.Sort.partitionEqual (ltP ds) ps.toArray a b pv=(m,ps'.toArray):=by
 subst hai;subst hbi;subst hpvi;refine Jz Tryz.func181 Tryz.ntmps181 rfl kr rfl ?_;refine ρ ?_;have H:=DP.start hD hn;have la:a<n:=om
 have lp:pv<n:=om
 refine drC 4 [0,1,2,3,4,5,8,9] [(0,6),(0,7),(0,10),(0,11),(0,12),(2,13),(2,14),(2,15)] kr ?_;have Z:=H.drew;obtain ⟨s1,s2,s3,⟨u,s4⟩,s5,s6⟩:=Z.swap la lp;refine ρp ?_;refine dix (pv) Z.rd lp ?_;refine ρd ?_;refine dld (Z.cell lp) ?_;refine ρd ?_;refine dix (a) Z.rd la ?_;refine ρd ?_;refine dld (Z.cell la) ?_;refine ρd ?_;refine dix (a) Z.rd la ?_;refine ρd ?_;refine Jo ?_;refine sto (Z.cell la) s1 ?_ (hv:=Z.one lp);refine ρ ?_;refine Qp ?_;refine Jo ?_;refine ix (pv) s2 lp ?_;refine ρ ?_;refine Qp ?_;refine Jo ?_;refine sto s4 s3 ?_ (hv:=Z.one la);refine ρ ?_;refine Xt (fun (i j:Nat) (q:List Pr)=>[(0,.slice A n c),(1,.int .i64 (a:Int)),(2,.int .i64 (b:Int)),(4,.func (.func fid) first cap),(11,.int .i64 (i:Int)),(12,.int .i64 (j:Int))]) (λi j q w'=>DP w w' base A n c ps q/\Go.Sort.partitionEqual (ltP ds) ps.toArray a b pv=Go.Sort.partEqLoop (ltP ds) a i j q.toArray/\a<i/\i<=b/\a<=j/\j<b) (λi j _=>b+j-i) (a+1) (b-1) _ sO ⟨s5,by unfold Go.Sort.partitionEqual;rw [swz],om⟩ ?_
 clear s1 s2 s3 s4 s5 s6 u Z H;rintro i0 O q w1 ⟨H,hR,a8⟩;refine ρ ?_;refine Qd (fun (i:Nat)=>[(0,.slice A n c),(1,.int .i64 (a:Int)),(2,.int .i64 (b:Int)),(4,.func (.func fid) first cap),(12,.int .i64 (O:Int)),(11,.int .i64 (i:Int))]) (λi w'=>DP w w' base A n c ps q/\i0<=i/\a<i/\i<=b/\Go.Sort.scanUp (λx=>!ltP ds (q.getD a z0) x) q.toArray O i0=Go.Sort.scanUp (λx=>!ltP ds (q.getD a z0) x) q.toArray O i) (λi=>b-i) i0 sO ⟨H,om⟩ ?_;rintro i wS ⟨HS,a3⟩;refine ρ ?_;refine Xa (fun (t:Bool)=>[(0,.slice A n c),(1,.int .i64 (a:Int)),(2,.int .i64 (b:Int)),(4,.func (.func fid) first cap),(12,.int .i64 (O:Int)),(11,.int .i64 (i:Int)),(47,.bool t)]) (λt w'=>DP w w' base A n c ps q/\(t=true->i<=O)/\t=(decide (i<=O) && (λx=>!ltP ds (q.getD a z0) x) (q.getD i z0))) ?_ ?_
 .skip
  refine dr [(0,0),(0,1),(0,2),(0,3),(0,4),(0,5),(0,6),(0,7),(0,8),(0,9),(0,10),(0,11),(0,12),(1,13),(0,14),(0,15),(0,16)] kr ?_;have o:=HS.drew;refine ρd ?_;refine dki 34 (λh=>?_) (λh=>?_)
  .have hT:i<=O:=by have:=oT h;omega
   have lx:a<n:=om
   have ly:i<n:=om
   refine ρd ?_;refine dix (a) o.rd lx ?_;refine ρd ?_;refine dld (o.cell lx) ?_;refine ρd ?_;refine dix (i) o.rd ly ?_;refine ρd ?_;refine dld (o.cell ly) ?_;refine ρd ?_;refine Vz (hC.callV o lx ly) ?_;rintro r a6 ⟨rfl,G⟩;refine ⟨G,?_⟩;have HT:=o.ext G;refine ρd ?_;refine ρ ?_;exact Jb _ sB ⟨HT,λ_=>hT,by rw [decide_eq_true hT];rfl⟩
  .refine ρd ?_;refine ρ ?_;exact Jb false sB ⟨o,(λe=>by cases e),by rw [decide_eq_false (show ¬ i<=O by have:=oF h;omega)];rfl⟩
 rintro t a5 ⟨a4,U,J⟩;refine ci (λh=>?_) (λh=>?_)
 .have:=U h;have a7:=suT (P:=(λx=>!ltP ds (q.getD a z0) x)) (J.symm.trans h);refine ρ ?_;exact Qw (i+1) sO ⟨a4,om⟩ om
 have hU:Go.Sort.scanUp (λx=>!ltP ds (q.getD a z0) x) q.toArray O i0=i:=a3.2.2.2.trans (suF (P:=(λx=>!ltP ds (q.getD a z0) x)) (J.symm.trans h));clear U HS h J;refine ρ ?_;refine Qd (fun (j:Nat)=>[(0,.slice A n c),(1,.int .i64 (a:Int)),(2,.int .i64 (b:Int)),(4,.func (.func fid) first cap),(11,.int .i64 (i:Int)),(12,.int .i64 (j:Int))]) (λj w'=>DP w w' base A n c ps q/\j<=O/\a<=j/\j<b/\Go.Sort.scanDown (λx=>ltP ds (q.getD a z0) x) q.toArray i O=Go.Sort.scanDown (λx=>ltP ds (q.getD a z0) x) q.toArray i j) (λj=>j) O sO ⟨a4,om⟩ ?_;rintro j wS ⟨HS,a2⟩;refine ρ ?_;refine Xa (fun (t:Bool)=>[(0,.slice A n c),(1,.int .i64 (a:Int)),(2,.int .i64 (b:Int)),(4,.func (.func fid) first cap),(11,.int .i64 (i:Int)),(12,.int .i64 (j:Int)),(65,.bool t)]) (λt w'=>DP w w' base A n c ps q/\(t=true->i<=j)/\t=(decide (i<=j) && (λx=>ltP ds (q.getD a z0) x) (q.getD j z0))) ?_ ?_
 .skip
  refine dr [(0,0),(0,1),(0,2),(0,3),(0,4),(0,5),(0,6),(0,7),(0,8),(0,9),(0,10),(0,11),(0,12),(1,13),(0,14),(0,15)] kr ?_;have o:=HS.drew;refine ρd ?_;refine dki 53 (λh=>?_) (λh=>?_)
  .have hT:i<=j:=by have:=oT h;omega
   have lx:a<n:=om
   have ly:j<n:=om
   refine ρd ?_;refine dix (a) o.rd lx ?_;refine ρd ?_;refine dld (o.cell lx) ?_;refine ρd ?_;refine dix (j) o.rd ly ?_;refine ρd ?_;refine dld (o.cell ly) ?_;refine ρd ?_;refine Vz (hC.callV o lx ly) ?_;rintro r a6 ⟨rfl,G⟩;refine ⟨G,?_⟩;have HT:=o.ext G;refine ρd ?_;refine ρ ?_;exact Jb _ sB ⟨HT,λ_=>hT,by rw [decide_eq_true hT];rfl⟩
  .refine ρd ?_;refine ρ ?_;exact Jb false sB ⟨o,(λe=>by cases e),by rw [decide_eq_false (show ¬ i<=j by have:=oF h;omega)];rfl⟩
 rintro t a5 ⟨a1,U,J⟩;refine ci (λh=>?_) (λh=>?_)
 .have:=U h;have a7:=sdT (P:=(λx=>ltP ds (q.getD a z0) x)) (show 1<=i by omega) (J.symm.trans h);refine ρ ?_;exact Qw (j-1) sO ⟨a1,om⟩ om
 have hN:Go.Sort.scanDown (λx=>ltP ds (q.getD a z0) x) q.toArray i O=j:=a2.2.2.2.trans (sdF (P:=(λx=>ltP ds (q.getD a z0) x)) (J.symm.trans h));clear U HS h J;refine ρ ?_;rw [Qft hU hN a3.1 a2.1]at hR;refine ci (λh=>?_) (λh=>?_)
 .rw [if_pos (show i > j by have:=oT h;omega)]at hR;refine ρ ?_;exact Jj ⟨q,a1,i,rfl,om,om,hR⟩
 have hT:i<=j:=by have:=oF h;omega
 rw [if_neg (show ¬ i > j by omega)]at hR;have li:i<n:=om
 have lj:j<n:=om
 refine ρ ?_;refine drC 4 [0,1,2,3,4,5,8,9] [(0,6),(0,7),(0,10),(0,11),(0,12),(2,13),(2,14),(2,15)] kr ?_;have C:=a1.drew;obtain ⟨s1,s2,s3,⟨u,s4⟩,s5,s6⟩:=C.swap li lj;refine ρp ?_;refine dix (j) C.rd lj ?_;refine ρd ?_;refine dld (C.cell lj) ?_;refine ρd ?_;refine dix (i) C.rd li ?_;refine ρd ?_;refine dld (C.cell li) ?_;refine ρd ?_;refine dix (i) C.rd li ?_;refine ρd ?_;refine Jo ?_;refine sto (C.cell li) s1 ?_ (hv:=C.one lj);refine ρ ?_;refine Qp ?_;refine Jo ?_;refine ix (j) s2 lj ?_;refine ρ ?_;refine Qp ?_;refine Jo ?_;refine sto s4 s3 ?_ (hv:=C.one li);refine ρ ?_;exact Xj (i+1) (j-1) _ sO ⟨s5,hR,om⟩ om
theorem Qfq(hD:Dat w base (.slice A n c) ps)(hn:ps.length=n)(hmx:n<=140737488355328)(hC:CF w (Value.slice A n c).ownBlock fid first cap ps ds){pv:Nat}(hai:ai=(a:Int))(hbi:bi=(b:Int))(hpvi:pvi=(pv:Int))(hab:a<b)(hb:b<=n)(hp0:a<=pv)(hp1:pv<b):
  Ret Tryz.prog 182 [.slice A n c,.int .i64 ai,.int .i64 bi,.int .i64 pvi,.func (.func fid) first cap] w λv w'=>∃ ps',DP w w' base A n c ps ps'/\∃ (m:Nat) (t:Bool),v=.tuple #[.int .i64 (m:Int),.bool t]/\a<=m/\m<b/\Go.Sort.partition (ltP ds) ps.toArray a b pv=(m,t,ps'.toArray):=by
 subst hai;subst hbi;subst hpvi;refine Jz Tryz.func182 Tryz.ntmps182 rfl kr rfl ?_;refine ρ ?_;have H:=DP.start hD hn;have la:a<n:=om
 have lp:pv<n:=om
 refine drC 4 [0,1,2,3,4,5,8,9] [(0,6),(0,7),(0,10),(0,11),(0,12),(2,13),(2,14),(2,15)] kr ?_;have Hd:=H.drew;obtain ⟨s1,s2,s3,⟨u,s4⟩,s5,s6⟩:=Hd.swap la lp;refine ρp ?_;refine dix (pv) Hd.rd lp ?_;refine ρd ?_;refine dld (Hd.cell lp) ?_;refine ρd ?_;refine dix (a) Hd.rd la ?_;refine ρd ?_;refine dld (Hd.cell la) ?_;refine ρd ?_;refine dix (a) Hd.rd la ?_;refine ρd ?_;refine Jo ?_;refine sto (Hd.cell la) s1 ?_ (hv:=Hd.one lp);refine ρ ?_;refine Qp ?_;refine Jo ?_;refine ix (pv) s2 lp ?_;refine ρ ?_;refine Qp ?_;refine Jo ?_;refine sto s4 s3 ?_ (hv:=Hd.one la);refine ρ ?_;generalize hq:swp z0 ps a pv=q at s5
 have H5:=s5;clear s1 s2 s3 s4 s5 s6 u Hd H;obtain ⟨i0,aa⟩:∃ i0:Nat,i0=a+1:=⟨_,rfl⟩;obtain ⟨O,a9⟩:∃ O:Nat,O=b-1:=⟨_,rfl⟩;refine Qd (fun (i:Nat)=>[(0,.slice A n c),(1,.int .i64 (a:Int)),(2,.int .i64 (b:Int)),(4,.func (.func fid) first cap),(13,.int .i64 (O:Int)),(12,.int .i64 (i:Int))]) (λi w'=>DP w w' base A n c ps q/\i0<=i/\a<i/\i<=b/\Go.Sort.scanUp (λx=>ltP ds x (q.getD a z0)) q.toArray O i0=Go.Sort.scanUp (λx=>ltP ds x (q.getD a z0)) q.toArray O i) (λi=>b-i) i0 sO ⟨H5,om⟩ ?_;rintro i wS ⟨HS,a5⟩;refine ρ ?_;refine Xa (fun (t:Bool)=>[(0,.slice A n c),(1,.int .i64 (a:Int)),(2,.int .i64 (b:Int)),(4,.func (.func fid) first cap),(13,.int .i64 (O:Int)),(12,.int .i64 (i:Int)),(47,.bool t)]) (λt w'=>DP w w' base A n c ps q/\(t=true->i<=O)/\t=(decide (i<=O) && (λx=>ltP ds x (q.getD a z0)) (q.getD i z0))) ?_ ?_
 .skip
  refine dr [(0,0),(0,1),(0,2),(0,3),(0,4),(0,5),(0,6),(0,7),(0,8),(0,9),(0,10),(0,11),(0,12),(1,13),(0,14),(0,15)] kr ?_;have C:=HS.drew;refine ρd ?_;refine dki 35 (λh=>?_) (λh=>?_)
  .have hT:i<=O:=by have:=oT h;omega
   have lx:i<n:=om
   have ly:a<n:=om
   refine ρd ?_;refine dix (i) C.rd lx ?_;refine ρd ?_;refine dld (C.cell lx) ?_;refine ρd ?_;refine dix (a) C.rd ly ?_;refine ρd ?_;refine dld (C.cell ly) ?_;refine ρd ?_;refine Vz (hC.callV C lx ly) ?_;rintro r a7 ⟨rfl,G⟩;refine ⟨G,?_⟩;have HT:=C.ext G;refine ρd ?_;refine ρ ?_;exact Jb _ sB ⟨HT,λ_=>hT,by rw [decide_eq_true hT];rfl⟩
  .refine ρd ?_;refine ρ ?_;exact Jb false sB ⟨C,(λe=>by cases e),by rw [decide_eq_false (show ¬ i<=O by have:=oF h;omega)];rfl⟩
 rintro t a6 ⟨a3,a1,J⟩;refine ci (λh=>?_) (λh=>?_)
 .have:=a1 h;have a8:=suT (P:=(λx=>ltP ds x (q.getD a z0))) (J.symm.trans h);refine ρ ?_;exact Qw (i+1) sO ⟨a3,om⟩ om
 have hU:Go.Sort.scanUp (λx=>ltP ds x (q.getD a z0)) q.toArray O i0=i:=a5.2.2.2.trans (suF (P:=(λx=>ltP ds x (q.getD a z0))) (J.symm.trans h));clear a1 HS h J;refine ρ ?_;refine Qd (fun (j:Nat)=>[(0,.slice A n c),(1,.int .i64 (a:Int)),(2,.int .i64 (b:Int)),(4,.func (.func fid) first cap),(12,.int .i64 (i:Int)),(13,.int .i64 (j:Int))]) (λj w'=>DP w w' base A n c ps q/\j<=O/\a<=j/\j<b/\Go.Sort.scanDown (λx=>!ltP ds x (q.getD a z0)) q.toArray i O=Go.Sort.scanDown (λx=>!ltP ds x (q.getD a z0)) q.toArray i j) (λj=>j) O sO ⟨a3,om⟩ ?_;rintro j wS ⟨HS,a4⟩;refine ρ ?_;refine Xa (fun (t:Bool)=>[(0,.slice A n c),(1,.int .i64 (a:Int)),(2,.int .i64 (b:Int)),(4,.func (.func fid) first cap),(12,.int .i64 (i:Int)),(13,.int .i64 (j:Int)),(66,.bool t)]) (λt w'=>DP w w' base A n c ps q/\(t=true->i<=j)/\t=(decide (i<=j) && (λx=>!ltP ds x (q.getD a z0)) (q.getD j z0))) ?_ ?_
 .skip
  refine dr [(0,0),(0,1),(0,2),(0,3),(0,4),(0,5),(0,6),(0,7),(0,8),(0,9),(0,10),(0,11),(0,12),(1,13),(0,14),(0,15),(0,16)] kr ?_;have C:=HS.drew;refine ρd ?_;refine dki 53 (λh=>?_) (λh=>?_)
  .have hT:i<=j:=by have:=oT h;omega
   have lx:j<n:=om
   have ly:a<n:=om
   refine ρd ?_;refine dix (j) C.rd lx ?_;refine ρd ?_;refine dld (C.cell lx) ?_;refine ρd ?_;refine dix (a) C.rd ly ?_;refine ρd ?_;refine dld (C.cell ly) ?_;refine ρd ?_;refine Vz (hC.callV C lx ly) ?_;rintro r a7 ⟨rfl,G⟩;refine ⟨G,?_⟩;have HT:=C.ext G;refine ρd ?_;refine ρ ?_;exact Jb _ sB ⟨HT,λ_=>hT,by rw [decide_eq_true hT];rfl⟩
  .refine ρd ?_;refine ρ ?_;exact Jb false sB ⟨C,(λe=>by cases e),by rw [decide_eq_false (show ¬ i<=j by have:=oF h;omega)];rfl⟩
 rintro t a6 ⟨a2,a1,J⟩;refine ci (λh=>?_) (λh=>?_)
 .have:=a1 h;have a8:=sdT (P:=(λx=>!ltP ds x (q.getD a z0))) (show 1<=i by omega) (J.symm.trans h);refine ρ ?_;exact Qw (j-1) sO ⟨a2,om⟩ om
 have hN:Go.Sort.scanDown (λx=>!ltP ds x (q.getD a z0)) q.toArray i O=j:=a4.2.2.2.trans (sdF (P:=(λx=>!ltP ds x (q.getD a z0))) (J.symm.trans h));clear a1 HS h J;refine ρ ?_;have U:a<n:=om
 have Z:j<n:=om
 have hR:=Qfr hq (a9 ▸ aa ▸ hU) (a9 ▸ hN);refine ci (λh=>?_) (λh=>?_)
 .rw [if_pos (show i > j by have:=oT h;omega)]at hR;refine ρ ?_;refine drC 4 [0,1,2,3,4,5,8,9] [(0,6),(0,7),(0,10),(0,11),(0,12),(2,13),(2,14),(2,15)] kr ?_;have o:=a2.drew;obtain ⟨s1,s2,s3,⟨u,s4⟩,s5,s6⟩:=o.swap Z U;refine ρp ?_;refine dix (a) o.rd U ?_;refine ρd ?_;refine dld (o.cell U) ?_;refine ρd ?_;refine dix (j) o.rd Z ?_;refine ρd ?_;refine dld (o.cell Z) ?_;refine ρd ?_;refine dix (j) o.rd Z ?_;refine ρd ?_;refine Jo ?_;refine sto (o.cell Z) s1 ?_ (hv:=o.one U);refine ρ ?_;refine Qp ?_;refine Jo ?_;refine ix (a) s2 U ?_;refine ρ ?_;refine Qp ?_;refine Jo ?_;refine sto s4 s3 ?_ (hv:=o.one Z);refine ρ ?_;exact Yk ⟨_,s5,j,true,rfl,om,om,hR⟩
 have hT:i<=j:=by have:=oF h;omega
 rw [if_neg (show ¬ i > j by omega)]at hR;have li:i<n:=om
 refine ρ ?_;refine drC 4 [0,1,2,3,4,5,8,9] [(0,6),(0,7),(0,10),(0,11),(0,12),(2,13),(2,14),(2,15)] kr ?_;have o:=a2.drew;obtain ⟨s1,s2,s3,⟨u,s4⟩,s5,s6⟩:=o.swap li Z;refine ρp ?_;refine dix (j) o.rd Z ?_;refine ρd ?_;refine dld (o.cell Z) ?_;refine ρd ?_;refine dix (i) o.rd li ?_;refine ρd ?_;refine dld (o.cell li) ?_;refine ρd ?_;refine dix (i) o.rd li ?_;refine ρd ?_;refine Jo ?_;refine sto (o.cell li) s1 ?_ (hv:=o.one Z);refine ρ ?_;refine Qp ?_;refine Jo ?_;refine ix (j) s2 Z ?_;refine ρ ?_;refine Qp ?_;refine Jo ?_;refine sto s4 s3 ?_ (hv:=o.one li);refine ρ ?_;refine Xt (fun (i j:Nat) (q:List Pr)=>[(0,.slice A n c),(1,.int .i64 (a:Int)),(2,.int .i64 (b:Int)),(4,.func (.func fid) first cap),(12,.int .i64 (i:Int)),(13,.int .i64 (j:Int))]) (λi j q w'=>DP w w' base A n c ps q/\Go.Sort.partition (ltP ds) ps.toArray a b pv=((Go.Sort.partLoop (ltP ds) a i j q.toArray).1,false,Go.Sort.swp (Go.Sort.partLoop (ltP ds) a i j q.toArray).2 (Go.Sort.partLoop (ltP ds) a i j q.toArray).1 a)/\a<i/\i<=b/\a<=j/\j<b) (λi j _=>b+j-i) (i+1) (j-1) _ sO ⟨s5,hR,om⟩ ?_
 clear s1 s2 s3 s4 s5 s6 u o a2 a3 a5 a4 U Z li hT hR hU hN hq;clear aa a9;clear h q i0 O i j H5;rintro i0 O q w1 ⟨H,hR,ab⟩;refine ρ ?_;refine Qd (fun (i:Nat)=>[(0,.slice A n c),(1,.int .i64 (a:Int)),(2,.int .i64 (b:Int)),(4,.func (.func fid) first cap),(13,.int .i64 (O:Int)),(12,.int .i64 (i:Int))]) (λi w'=>DP w w' base A n c ps q/\i0<=i/\a<i/\i<=b/\Go.Sort.scanUp (λx=>ltP ds x (q.getD a z0)) q.toArray O i0=Go.Sort.scanUp (λx=>ltP ds x (q.getD a z0)) q.toArray O i) (λi=>b-i) i0 sO ⟨H,om⟩ ?_;rintro i wS ⟨HS,a5⟩;refine ρ ?_;refine Xa (fun (t:Bool)=>[(0,.slice A n c),(1,.int .i64 (a:Int)),(2,.int .i64 (b:Int)),(4,.func (.func fid) first cap),(13,.int .i64 (O:Int)),(12,.int .i64 (i:Int)),(120,.bool t)]) (λt w'=>DP w w' base A n c ps q/\(t=true->i<=O)/\t=(decide (i<=O) && (λx=>ltP ds x (q.getD a z0)) (q.getD i z0))) ?_ ?_
 .skip
  refine dr [(0,0),(0,1),(0,2),(0,3),(0,4),(0,5),(0,6),(0,7),(0,8),(0,9),(0,10),(0,11),(0,12),(1,13),(0,14),(0,15)] kr ?_;have C:=HS.drew;refine ρd ?_;refine dki 108 (λh=>?_) (λh=>?_)
  .have hT:i<=O:=by have:=oT h;omega
   have lx:i<n:=om
   have ly:a<n:=om
   refine ρd ?_;refine dix (i) C.rd lx ?_;refine ρd ?_;refine dld (C.cell lx) ?_;refine ρd ?_;refine dix (a) C.rd ly ?_;refine ρd ?_;refine dld (C.cell ly) ?_;refine ρd ?_;refine Vz (hC.callV C lx ly) ?_;rintro r a7 ⟨rfl,G⟩;refine ⟨G,?_⟩;have HT:=C.ext G;refine ρd ?_;refine ρ ?_;exact Jb _ sB ⟨HT,λ_=>hT,by rw [decide_eq_true hT];rfl⟩
  .refine ρd ?_;refine ρ ?_;exact Jb false sB ⟨C,(λe=>by cases e),by rw [decide_eq_false (show ¬ i<=O by have:=oF h;omega)];rfl⟩
 rintro t a6 ⟨a3,a1,J⟩;refine ci (λh=>?_) (λh=>?_)
 .have:=a1 h;have a8:=suT (P:=(λx=>ltP ds x (q.getD a z0))) (J.symm.trans h);refine ρ ?_;exact Qw (i+1) sO ⟨a3,om⟩ om
 have hU:Go.Sort.scanUp (λx=>ltP ds x (q.getD a z0)) q.toArray O i0=i:=a5.2.2.2.trans (suF (P:=(λx=>ltP ds x (q.getD a z0))) (J.symm.trans h));clear a1 HS h J;refine ρ ?_;refine Qd (fun (j:Nat)=>[(0,.slice A n c),(1,.int .i64 (a:Int)),(2,.int .i64 (b:Int)),(4,.func (.func fid) first cap),(12,.int .i64 (i:Int)),(13,.int .i64 (j:Int))]) (λj w'=>DP w w' base A n c ps q/\j<=O/\a<=j/\j<b/\Go.Sort.scanDown (λx=>!ltP ds x (q.getD a z0)) q.toArray i O=Go.Sort.scanDown (λx=>!ltP ds x (q.getD a z0)) q.toArray i j) (λj=>j) O sO ⟨a3,om⟩ ?_;rintro j wS ⟨HS,a4⟩;refine ρ ?_;refine Xa (fun (t:Bool)=>[(0,.slice A n c),(1,.int .i64 (a:Int)),(2,.int .i64 (b:Int)),(4,.func (.func fid) first cap),(12,.int .i64 (i:Int)),(13,.int .i64 (j:Int)),(139,.bool t)]) (λt w'=>DP w w' base A n c ps q/\(t=true->i<=j)/\t=(decide (i<=j) && (λx=>!ltP ds x (q.getD a z0)) (q.getD j z0))) ?_ ?_
 .skip
  refine dr [(0,0),(0,1),(0,2),(0,3),(0,4),(0,5),(0,6),(0,7),(0,8),(0,9),(0,10),(0,11),(0,12),(1,13),(0,14),(0,15),(0,16)] kr ?_;have C:=HS.drew;refine ρd ?_;refine dki 126 (λh=>?_) (λh=>?_)
  .have hT:i<=j:=by have:=oT h;omega
   have lx:j<n:=om
   have ly:a<n:=om
   refine ρd ?_;refine dix (j) C.rd lx ?_;refine ρd ?_;refine dld (C.cell lx) ?_;refine ρd ?_;refine dix (a) C.rd ly ?_;refine ρd ?_;refine dld (C.cell ly) ?_;refine ρd ?_;refine Vz (hC.callV C lx ly) ?_;rintro r a7 ⟨rfl,G⟩;refine ⟨G,?_⟩;have HT:=C.ext G;refine ρd ?_;refine ρ ?_;exact Jb _ sB ⟨HT,λ_=>hT,by rw [decide_eq_true hT];rfl⟩
  .refine ρd ?_;refine ρ ?_;exact Jb false sB ⟨C,(λe=>by cases e),by rw [decide_eq_false (show ¬ i<=j by have:=oF h;omega)];rfl⟩
 rintro t a6 ⟨a2,a1,J⟩;refine ci (λh=>?_) (λh=>?_)
 .have:=a1 h;have a8:=sdT (P:=(λx=>!ltP ds x (q.getD a z0))) (show 1<=i by omega) (J.symm.trans h);refine ρ ?_;exact Qw (j-1) sO ⟨a2,om⟩ om
 have hN:Go.Sort.scanDown (λx=>!ltP ds x (q.getD a z0)) q.toArray i O=j:=a4.2.2.2.trans (sdF (P:=(λx=>!ltP ds x (q.getD a z0))) (J.symm.trans h));clear a1 HS h J;refine ρ ?_;have U:a<n:=om
 have Z:j<n:=om
 rw [partZ hU hN a5.1 a4.1]at hR;refine ci (λh=>?_) (λh=>?_)
 .rw [if_pos (show i > j by have:=oT h;omega)]at hR;simp only [swz]at hR;refine ρ ?_;refine drC 4 [0,1,2,3,4,5,8,9] [(0,6),(0,7),(0,10),(0,11),(0,12),(2,13),(2,14),(2,15)] kr ?_;have o:=a2.drew;obtain ⟨s1,s2,s3,⟨u,s4⟩,s5,s6⟩:=o.swap Z U;refine ρp ?_;refine dix (a) o.rd U ?_;refine ρd ?_;refine dld (o.cell U) ?_;refine ρd ?_;refine dix (j) o.rd Z ?_;refine ρd ?_;refine dld (o.cell Z) ?_;refine ρd ?_;refine dix (j) o.rd Z ?_;refine ρd ?_;refine Jo ?_;refine sto (o.cell Z) s1 ?_ (hv:=o.one U);refine ρ ?_;refine Qp ?_;refine Jo ?_;refine ix (a) s2 U ?_;refine ρ ?_;refine Qp ?_;refine Jo ?_;refine sto s4 s3 ?_ (hv:=o.one Z);refine ρ ?_;exact Yk ⟨_,s5,j,false,rfl,om,om,hR⟩
 have hT:i<=j:=by have:=oF h;omega
 rw [if_neg (show ¬ i > j by omega)]at hR;have li:i<n:=om
 refine ρ ?_;refine drC 4 [0,1,2,3,4,5,8,9] [(0,6),(0,7),(0,10),(0,11),(0,12),(2,13),(2,14),(2,15)] kr ?_;have o:=a2.drew;obtain ⟨s1,s2,s3,⟨u,s4⟩,s5,s6⟩:=o.swap li Z;refine ρp ?_;refine dix (j) o.rd Z ?_;refine ρd ?_;refine dld (o.cell Z) ?_;refine ρd ?_;refine dix (i) o.rd li ?_;refine ρd ?_;refine dld (o.cell li) ?_;refine ρd ?_;refine dix (i) o.rd li ?_;refine ρd ?_;refine Jo ?_;refine sto (o.cell li) s1 ?_ (hv:=o.one Z);refine ρ ?_;refine Qp ?_;refine Jo ?_;refine ix (j) s2 Z ?_;refine ρ ?_;refine Qp ?_;refine Jo ?_;refine sto s4 s3 ?_ (hv:=o.one li);refine ρ ?_;exact Xj (i+1) (j-1) _ sO ⟨s5,hR,om⟩ om
theorem Qfm(hD:Dat w base (.slice A n c) ps)(hn:ps.length=n)(hmx:n<=140737488355328)(hC:CF w (Value.slice A n c).ownBlock fid first cap ps ds)(hai:ai=(a:Int))(hbi:bi=(b:Int))(hab:a+1<b)(hb:b<=n):
  Ret Tryz.prog 180 [.slice A n c,.int .i64 ai,.int .i64 bi,.func (.func fid) first cap] w λv w'=>∃ ps',DP w w' base A n c ps ps'/\∃ t:Bool,v=.bool t/\Go.Sort.partialInsertionSort (ltP ds) ps.toArray a b=(ps'.toArray,t):=by
 subst hai;subst hbi;refine Jz Tryz.func180 Tryz.ntmps180 rfl kr rfl ?_;refine ρ ?_;refine Xt (fun (k i:Nat) (q:List Pr)=>[(0,.slice A n c),(1,.int .i64 (a:Int)),(2,.int .i64 (b:Int)),(3,.func (.func fid) first cap),(9,.int .i64 (i:Int)),(10,.int .i64 (k:Int))]) (λk i q w'=>DP w w' base A n c ps q/\Go.Sort.partialInsertionSort (ltP ds) ps.toArray a b=Go.Sort.partialIns (ltP ds) a b (5-k) i q.toArray/\a<i/\i<=b/\k<=5) (λk _ _=>5-k) 0 (a+1) ps sO ⟨DP.start hD hn,rfl,om⟩ ?_;rintro k i0 q w1 ⟨H,J,aa⟩;refine ρ ?_;refine ci (λh=>?_) (λh=>?_);rotate_left
 .refine ρ ?_;refine Jj ⟨q,H,false,rfl,?_⟩;rw [J,show 5-k=0 by have:=oF h;omega];rfl
 have hk:k<5:=by have:=oT h;omega
 clear h;refine ρ ?_;refine Qd (fun (i:Nat)=>[(0,.slice A n c),(1,.int .i64 (a:Int)),(2,.int .i64 (b:Int)),(3,.func (.func fid) first cap),(10,.int .i64 (k:Int)),(9,.int .i64 (i:Int))]) (λi w'=>DP w w' base A n c ps q/\i0<=i/\a<i/\i<=b/\Go.Sort.scanSorted (ltP ds) q.toArray b i0=Go.Sort.scanSorted (ltP ds) q.toArray b i) (λi=>b-i) i0 sO ⟨H,om⟩ ?_;rintro i wS ⟨HS,a7⟩;refine ρ ?_;refine Xa (fun (t:Bool)=>[(0,.slice A n c),(1,.int .i64 (a:Int)),(2,.int .i64 (b:Int)),(3,.func (.func fid) first cap),(10,.int .i64 (k:Int)),(9,.int .i64 (i:Int)),(36,.bool t)]) (λt w'=>DP w w' base A n c ps q/\(t=true->i<b)/\t=(decide (i<b) && !ltP ds (q.getD i z0) (q.getD (i-1) z0))) ?_ ?_
 .skip
  refine dr [(0,0),(0,1),(0,2),(0,3),(0,4),(0,5),(0,6),(0,7),(0,8),(0,9),(0,10),(0,11),(0,12),(0,13),(1,14),(0,15),(0,16),(0,17)] kr ?_;have Z:=HS.drew;refine ρd ?_;refine dki 22 (λh=>?_) (λh=>?_)
  .have hT:i<b:=by have:=oT h;omega
   have lx:i<n:=om
   have ly:i-1<n:=om
   refine ρd ?_;refine dix (i) Z.rd lx ?_;refine ρd ?_;refine dld (Z.cell lx) ?_;refine ρd ?_;refine dix (i-1) Z.rd ly ?_;refine ρd ?_;refine dld (Z.cell ly) ?_;refine ρd ?_;refine Vz (hC.callV Z lx ly) ?_;rintro r a3 ⟨rfl,G⟩;refine ⟨G,?_⟩;have HT:=Z.ext G;refine ρd ?_;refine ρ ?_;exact Jb _ sB ⟨HT,λ_=>hT,by rw [decide_eq_true hT];rfl⟩
  .refine ρd ?_;refine ρ ?_;exact Jb false sB ⟨Z,(λe=>by cases e),by rw [decide_eq_false (show ¬ i<b by have:=oF h;omega)];rfl⟩
 rintro t a8 ⟨a1,a4,a2⟩;refine ci (λh=>?_) (λh=>?_)
 .have:=a4 h;have a9:=ssT (a2.symm.trans h);refine ρ ?_;exact Qw (i+1) sO ⟨a1,om⟩ om
 have a6:Go.Sort.scanSorted (ltP ds) q.toArray b i0=i:=a7.2.2.2.trans (ssF (a2.symm.trans h));rw [show 5-k=(5-(k+1))+1 by omega,Qfn a6]at J;clear a4 HS h a2;refine ρ ?_;refine ci (λh=>?_) (λh=>?_)
 .rw [if_pos (show i=b by have:=Xl h;omega)]at J;refine ρ ?_;exact Jj ⟨q,a1,true,rfl,J⟩
 have ab:i<b:=by have:=Xm h;omega
 rw [if_neg (show ¬ i=b by omega)]at J;clear h;refine ρ ?_;refine ci (λh=>?_) (λh=>?_)
 .rw [if_pos (show b-a<50 by have:=oT h;omega)]at J;refine ρ ?_;exact Jj ⟨q,a1,false,rfl,J⟩
 rw [if_neg (show ¬ b-a<50 by have:=oF h;omega)]at J;clear h;have lx:i<n:=om
 have ly:i-1<n:=om
 refine ρ ?_;refine drC 4 [0,1,2,3,4,5,6,7,10,11] [(0,8),(0,9),(0,12),(0,13),(0,14),(2,15),(2,16),(2,17)] kr ?_;have C:=a1.drew;obtain ⟨s1,s2,s3,⟨u,s4⟩,s5,s6⟩:=C.swap lx ly;refine ρp ?_;refine dix (i-1) C.rd ly ?_;refine ρd ?_;refine dld (C.cell ly) ?_;refine ρd ?_;refine dix (i) C.rd lx ?_;refine ρd ?_;refine dld (C.cell lx) ?_;refine ρd ?_;refine dix (i) C.rd lx ?_;refine ρd ?_;refine Jo ?_;refine sto (C.cell lx) s1 ?_ (hv:=C.one ly);refine ρ ?_;refine Qp ?_;refine Jo ?_;refine ix (i-1) s2 ly ?_;refine ρ ?_;refine Qp ?_;refine Jo ?_;refine sto s4 s3 ?_ (hv:=C.one lx);refine ρ ?_;have H5:=s5;clear s1 s2 s3 s4 s5 s6 u C a1 H;generalize swp z0 q i (i-1)=q5 at H5 J
 refine Xa (fun (q:List Pr)=>[(0,.slice A n c),(1,.int .i64 (a:Int)),(2,.int .i64 (b:Int)),(3,.func (.func fid) first cap),(9,.int .i64 (i:Int)),(10,.int .i64 (k:Int))]) (λq w'=>DP w w' base A n c ps q/\(if i-a ≥ 2 then Go.Sort.shiftDown (ltP ds) (i-1) q5.toArray else q5.toArray)=q.toArray) ?_ ?_
 .refine ci (λh=>?_) (λh=>?_);rotate_left
  .refine ρ ?_;exact Jb _ sB ⟨H5,if_neg (by have:=oF h;omega)⟩
  rw [if_pos (show i-a ≥ 2 by have:=oT h;omega)];refine ρ ?_;refine Ja (fun (m:Nat) (q:List Pr)=>[(0,.slice A n c),(1,.int .i64 (a:Int)),(2,.int .i64 (b:Int)),(3,.func (.func fid) first cap),(9,.int .i64 (i:Int)),(10,.int .i64 (k:Int)),(11,.int .i64 (m:Int))]) (λm q w'=>DP w w' base A n c ps q/\m<n/\Go.Sort.shiftDown (ltP ds) (i-1) q5.toArray=Go.Sort.shiftDown (ltP ds) m q.toArray) (λm _=>m) (i-1) q5 sO ⟨H5,om,rfl⟩ ?_;rintro m q w2 ⟨H,hm,U⟩;refine ρ ?_;refine ci (λh=>?_) (λh=>?_);rotate_left
  .rw [show m=0 by have:=oF h;omega,Go.Sort.shiftDown]at U;refine ρ ?_;exact Jb _ sB ⟨H,U⟩
  have h1:1<=m:=by have:=oT h;omega
  have O:m-1<n:=om
  refine ρ ?_;refine dr [(0,0),(0,1),(0,2),(0,3),(0,4),(0,5),(0,6),(0,7),(0,8),(0,9),(1,10),(0,11),(0,12)] kr ?_;have Hd:=H.drew;refine ρd ?_;refine ρd ?_;refine dix (m) Hd.rd hm ?_;refine ρd ?_;refine dld (Hd.cell hm) ?_;refine ρd ?_;refine dix (m-1) Hd.rd O ?_;refine ρd ?_;refine dld (Hd.cell O) ?_;refine ρd ?_;rw [shd h1]at U;refine Vz (hC.callV Hd hm O) ?_;rintro r a3 ⟨rfl,G⟩;refine ⟨G,?_⟩;have HT:=Hd.ext G;refine ρd ?_;refine ρ ?_;refine ci (λh=>?_) (λh=>?_)
  .rw [if_pos (show (!ltP ds (q.getD m z0) (q.getD (m-1) z0))=true from h)]at U;refine ρ ?_;exact Jb _ sB ⟨HT,U⟩
  rw [if_neg (show ¬ (!ltP ds (q.getD m z0) (q.getD (m-1) z0))=true from λe=>by rw [show (!ltP ds (q.getD m z0) (q.getD (m-1) z0))=false from h]at e;cases e)]at U;refine ρ ?_;refine drC 4 [0,1,2,3,4,5,6,7,10,11] [(0,8),(0,9),(0,12),(0,13),(0,14),(2,15),(2,16),(2,17)] kr ?_;have o:=HT.drew;obtain ⟨s1,s2,s3,⟨u,s4⟩,s5,s6⟩:=o.swap hm O;refine ρp ?_;refine dix (m-1) o.rd O ?_;refine ρd ?_;refine dld (o.cell O) ?_;refine ρd ?_;refine dix (m) o.rd hm ?_;refine ρd ?_;refine dld (o.cell hm) ?_;refine ρd ?_;refine dix (m) o.rd hm ?_;refine ρd ?_;refine Jo ?_;refine sto (o.cell hm) s1 ?_ (hv:=o.one O);refine ρ ?_;refine Qp ?_;refine Jo ?_;refine ix (m-1) s2 O ?_;refine ρ ?_;refine Qp ?_;refine Jo ?_;refine sto s4 s3 ?_ (hv:=o.one hm);refine ρ ?_;exact Jl (m-1) _ sO ⟨s5,om,U⟩ om
 clear H5;rintro q6 w5 ⟨H5,a5⟩;rw [a5]at J;clear a5 q5;generalize q6=q5 at H5 J
 clear q6;refine ρ ?_;refine ci (λh=>?_) (λh=>?_);rotate_left
 .rw [if_neg (show ¬ b-i ≥ 2 by have:=oF h;omega)]at J;refine ρ ?_;exact Xj (k+1) i q5 sO ⟨H5,J,om⟩ om
 rw [if_pos (show b-i ≥ 2 by have:=oT h;omega)]at J;refine ρ ?_;refine Ja (fun (m:Nat) (q:List Pr)=>[(0,.slice A n c),(1,.int .i64 (a:Int)),(2,.int .i64 (b:Int)),(3,.func (.func fid) first cap),(9,.int .i64 (i:Int)),(10,.int .i64 (k:Int)),(12,.int .i64 (m:Int))]) (λm q w'=>DP w w' base A n c ps q/\Go.Sort.shiftUp (ltP ds) b (i+1) q5.toArray=Go.Sort.shiftUp (ltP ds) b m q.toArray/\0<m/\m<=b) (λm _=>b-m) (i+1) q5 sO ⟨H5,rfl,om⟩ ?_;rintro m q w2 ⟨H,U,hm⟩;refine ρ ?_;refine ci (λh=>?_) (λh=>?_);rotate_left
 .rw [shu0 (show ¬ m<b by have:=oF h;omega)]at U;rw [U]at J;refine ρ ?_;exact Xj (k+1) i q sO ⟨H,J,om⟩ om
 have h1:m<n:=by have:=oT h;omega
 have h2:m<b:=by have:=oT h;omega
 have O:m-1<n:=om
 refine ρ ?_;refine dr [(0,0),(0,1),(0,2),(0,3),(0,4),(0,5),(0,6),(0,7),(0,8),(0,9),(1,10),(0,11),(0,12)] kr ?_;have Hd:=H.drew;refine ρd ?_;refine ρd ?_;refine dix (m) Hd.rd h1 ?_;refine ρd ?_;refine dld (Hd.cell h1) ?_;refine ρd ?_;refine dix (m-1) Hd.rd O ?_;refine ρd ?_;refine dld (Hd.cell O) ?_;refine ρd ?_;rw [shu h2]at U;refine Vz (hC.callV Hd h1 O) ?_;rintro r a3 ⟨rfl,G⟩;refine ⟨G,?_⟩;have HT:=Hd.ext G;refine ρd ?_;refine ρ ?_;refine ci (λh=>?_) (λh=>?_)
 .rw [if_pos (show (!ltP ds (q.getD m z0) (q.getD (m-1) z0))=true from h)]at U;rw [U]at J;refine ρ ?_;exact Xj (k+1) i q sO ⟨HT,J,om⟩ om
 rw [if_neg (show ¬ (!ltP ds (q.getD m z0) (q.getD (m-1) z0))=true from λe=>by rw [show (!ltP ds (q.getD m z0) (q.getD (m-1) z0))=false from h]at e;cases e)]at U;refine ρ ?_;refine drC 4 [0,1,2,3,4,5,6,7,10,11] [(0,8),(0,9),(0,12),(0,13),(0,14),(2,15),(2,16),(2,17)] kr ?_;have o:=HT.drew;obtain ⟨s1,s2,s3,⟨u,s4⟩,s5,s6⟩:=o.swap h1 O;refine ρp ?_;refine dix (m-1) o.rd O ?_;refine ρd ?_;refine dld (o.cell O) ?_;refine ρd ?_;refine dix (m) o.rd h1 ?_;refine ρd ?_;refine dld (o.cell h1) ?_;refine ρd ?_;refine dix (m) o.rd h1 ?_;refine ρd ?_;refine Jo ?_;refine sto (o.cell h1) s1 ?_ (hv:=o.one O);refine ρ ?_;refine Qp ?_;refine Jo ?_;refine ix (m-1) s2 O ?_;refine ρ ?_;refine Qp ?_;refine Jo ?_;refine sto s4 s3 ?_ (hv:=o.one h1);refine ρ ?_;exact Jl (m+1) _ sO ⟨s5,U,om⟩ om
open Go.RowKit Pl Go.Wk
variable {ps q q' q3:List Pr}{base c n:Nat}{A A0:Option Addr}{pm x y z:Pr}{w w' w0:World}
theorem DP.same(h:DP w0 w base A n c ps q)(k:DP w w' base A n c q q): DP w0 w' base A n c ps q:=h.after k
theorem DP.ins{a b:Nat}(h:DP w0 w base A n c ps q)(k1:Dat w' base (.slice A n c) q')(k2:Seg z0 a b q q')(k3:w.grownBy w' (Value.slice A n c).ownBlock): DP w0 w' base A n c ps q' :=
 ⟨k1,k2.perm.trans h.p,Zc h.g k3,by rw [k2.len];exact h.l⟩
section
variable {ds:List Bool} {q q1 q2:List Pr} {a b m A B:Nat}
def BelZ(ds:List Bool)(q:List Pr)(a b:Nat): Prop:=a=0∨∀ i,a<=i->i<b->fP ds (q.getD (a-1) z0) (q.getD i z0)<=0
def KpZ(ds:List Bool)(q:List Pr)(a b A B:Nat): Prop:=∀ q2,Seg z0 a b q q2->SOn z0 (fP ds) q2 a b->SOn z0 (fP ds) q2 A B
theorem KpZ.seg(h:KpZ ds q a b A B)(hs:Seg z0 a b q q1): KpZ ds q1 a b A B:=λq2 u o=>h q2 (hs.trans u) o
theorem BelZ.seg(h:BelZ ds q a b)(hs:Seg z0 a b q q1)(hab:a<=b)(hb:b<=q.length): BelZ ds q1 a b:=by
 rcases h with h|h
 .exact .inl h
 .rcases Nat.eq_zero_or_pos a with h0|h0
  .exact .inl h0
  .refine .inr λi u o=>?_;rw [hs.lo (a-1) om];exact hs.all hab hb (Φ:=λx=>fP ds (q.getD (a-1) z0) x<=0) h i u o
theorem BelZ.arr(h:BelZ ds q a b): Go.Sort.Below (ltP ds) a b q.toArray:=by
 rcases h with h|h
 .exact .inl h
 .exact .inr λi u o=>by rw [az,az];exact ltP_f' (h i u o)
theorem Jyq(h1:fP ds x y<=0)(h2:fP ds y z<=0): fP ds x z<=0:=Jyw _ _ _ ds h1 h2
theorem Qns{pv:Nat}(H:DP w0 w base A0 n c q q1)(hlq:q.length=n)(hB:BelZ ds q a b)(hK:KpZ ds q a b A B)(h0:0<a)(hlt:ltP ds (q.getD (a-1) z0) (q.getD pv z0)=false)(hp0:a<=pv)(hp1:pv<b)(hb:b<=n)(hE:Go.Sort.partitionEqual (ltP ds) q.toArray a b pv=(m,q1.toArray)): Seg z0 a b q q1/\BelZ ds q1 m b/\KpZ ds q1 m b A B:=by
 have O:∀ i,a<=i->i<b->fP ds (q.getD pv z0) (q.getD i z0)<=0:=λi J G=>by
  rcases hB with h|h
  .omega
  .exact Jyq (Jxf hlt) (h i J G)
 have hP:=Go.Sort.partitionEqual_holds (ltP ds) (swoP ds) q.toArray a b pv hp0 hp1 (by simpa [hlq] using hb) λi J G=>by
  rw [az,az];exact ltP_f' (O i J G)
 rw [hE]at hP;obtain ⟨a3,a1,C,a2,a4⟩:=hP;have U:=H.seg C;have o:=U.all om om (Φ:=λx=>fP ds (q.getD pv z0) x<=0) O;have u:∀ i,a<=i->i<m->fP ds (q1.getD i z0) (q.getD pv z0)<=0:=λi J G=>by
  have:=a2 i J G;rw [az,az]at this;exact Jxf this
 refine ⟨U,.inr λi J G=>Jyq (u (m-1) om om) (o i om G),λq3 Z h4=>hK q3 (U.trans (Z.mono om (Nat.le_refl _))) λi j h5 h6 h7=>?_⟩;by_cases hi:i<m
 .rw [Z.lo i hi];refine Jyq (u i h5 hi) ?_;by_cases hj:j<m
  .rw [Z.lo j hj];exact o j om h7
  .exact Z.all a1 (by rw [U.len];omega) (Φ:=λx=>fP ds (q.getD pv z0) x<=0) (λk k1 k2=>o k om k2) j om h7
 .exact h4 i j om h6 h7
theorem Qfp{pv:Nat}{t:Bool}(H:DP w0 w base A0 n c q q1)(hlq:q.length=n)(hp0:a<=pv)(hp1:pv<b)(hb:b<=n)(hE:Go.Sort.partition (ltP ds) q.toArray a b pv=(m,t,q1.toArray)):
  Seg z0 a b q q1/\a<=m/\m<b/\(∀ i,a<=i->i<m->fP ds (q1.getD i z0) (q1.getD m z0)<=0)/\(∀ i,m<i->i<b->fP ds (q1.getD m z0) (q1.getD i z0)<=0):=by
 have Z:=Go.Sort.partition_holds (ltP ds) (swoP ds) q.toArray a b pv hp0 hp1 (by simpa [hlq] using hb);rw [hE]at Z;obtain ⟨C,u,o,G,J⟩:=Z;refine ⟨H.seg o,C,u,λi U O=>?_,λi U O=>?_⟩
 .have:=G i U O;rw [az,az]at this;exact Int.le_of_lt (Jdx this)
 .have:=J i U O;rw [az,az]at this;exact Jxf this
theorem Jsn(hm:a<=m)(hmb:m<b)(hpm:q3.getD m z0=pm)(hL:SOn z0 (fP ds) q3 a m)(hR:SOn z0 (fP ds) q3 (m+1) b)(hlo:∀ i,a<=i->i<m->fP ds (q3.getD i z0) pm<=0)(hhi:∀ i,m<i->i<b->fP ds pm (q3.getD i z0)<=0): SOn z0 (fP ds) q3 a b:=λi j C u o=>by
 rcases Nat.lt_trichotomy i m with hi|hi|hi
 .rcases Nat.lt_trichotomy j m with hj|hj|hj
  .exact hL i j C u hj
  .subst hj;rw [hpm];exact hlo i C hi
  .exact Jyq (hlo i C hi) (hhi j hj o)
 .subst hi;rw [hpm];exact hhi j u o
 .exact hR i j om u o
theorem Qlj(hS:Seg z0 a b q q1)(hl:b<=q.length)(hK:KpZ ds q a b A B)(hm:a<=m)(hmb:m<b)(hlo:∀ i,a<=i->i<m->fP ds (q1.getD i z0) (q1.getD m z0)<=0)(hhi:∀ i,m<i->i<b->fP ds (q1.getD m z0) (q1.getD i z0)<=0)(h2:Seg z0 a m q1 q2)(hs:SOn z0 (fP ds) q2 a m): BelZ ds q2 (m+1) b/\KpZ ds q2 (m+1) b A B:=by
 have l1:q1.length=q.length:=hS.len;have Z:q2.length=q1.length:=h2.len;have G:q2.getD m z0=q1.getD m z0:=h2.hi m (Nat.le_refl _);have u:∀ i,m+1<=i->i<b->fP ds (q1.getD m z0) (q2.getD i z0)<=0:=λi C o=>by rw [h2.hi i om];exact hhi i om o
 refine ⟨.inr λi C o=>by rw [show m+1-1=m by omega,G];exact u i C o,λO J U=>hK O ((hS.trans (h2.mono (Nat.le_refl _) om)).trans (J.mono om (Nat.le_refl _))) ?_⟩;refine Jsn hm hmb (pm:=q1.getD m z0) (by rw [J.lo m om,G]) (hs.same λk C o=>J.lo k om) U (λi C o=>?_) λi C o=>?_
 .rw [J.lo i om];exact h2.all hm om (Φ:=λx=>fP ds x (q1.getD m z0)<=0) hlo i C o
 .exact J.all om om (Φ:=λx=>fP ds (q1.getD m z0) x<=0) u i om o
theorem Qcs(hS:Seg z0 a b q q1)(hl:b<=q.length)(hB:BelZ ds q a b)(hK:KpZ ds q a b A B)(hm:a<=m)(hmb:m<b)(hlo:∀ i,a<=i->i<m->fP ds (q1.getD i z0) (q1.getD m z0)<=0)(hhi:∀ i,m<i->i<b->fP ds (q1.getD m z0) (q1.getD i z0)<=0)(h2:Seg z0 (m+1) b q1 q2)(hs:SOn z0 (fP ds) q2 (m+1) b): BelZ ds q2 a m/\KpZ ds q2 a m A B:=by
 have l1:q1.length=q.length:=hS.len;have l2:q2.length=q1.length:=h2.len;have J:q2.getD m z0=q1.getD m z0:=h2.lo m om;have O:=(hB.seg hS om hl).seg (h2.mono om (Nat.le_refl _)) om om;refine ⟨O.imp id λh i u o=>h i u om,λZ C h4=>hK Z ((hS.trans (h2.mono om (Nat.le_refl _))).trans (C.mono (Nat.le_refl _) om)) ?_⟩;refine Jsn hm hmb (pm:=q1.getD m z0) (by rw [C.hi m (Nat.le_refl _),J]) h4 (hs.same λk u o=>C.hi k om) (λi u o=>?_) λi u o=>?_
 .exact C.all hm om (Φ:=λx=>fP ds x (q1.getD m z0)<=0) (λk U G=>by rw [h2.lo k om];exact hlo k U G) i u o
 .rw [C.hi i om];exact h2.all om om (Φ:=λx=>fP ds (q1.getD m z0) x<=0) (λk U G=>hhi k om G) i om o
end
theorem Qfk: ∀ (m:Nat) {w:World} {base:Nat} {A:Option Addr} {n c:Nat} {fid:FuncId} {first cap:Array Value} {ps:List Pr} {ds:List Bool} (hD:Dat w base (.slice A n c) ps) (hn:ps.length=n) (hmx:n<=140737488355328) (hC:CF w (Value.slice A n c).ownBlock fid first cap ps ds) {a0 b0:Nat} {ai bi lim:Int} (hai:ai=(a0:Int)) (hbi:bi=(b0:Int)) (hab:a0<=b0) (hb:b0<=n) (hl:0<=lim/\lim<=64) (hm:b0-a0<=m) (hBl:BelZ ds ps a0 b0),
  Ret Tryz.prog 158 [.slice A n c,.int .i64 ai,.int .i64 bi,.int .i64 lim,.func (.func fid) first cap] w λv w'=>∃ ps',DP w w' base A n c ps ps'/\Seg z0 a0 b0 ps ps'/\SOn z0 (fP ds) ps' a0 b0:=by
 intro m;induction m using Nat.strongRecOn with
 | ind m ih=>
 intro w base A n c fid first cap ps ds hD hn hmx hC a0 b0 ai bi lim hai hbi hab hb hl hm hBl
 subst hai;subst hbi;refine Jz Tryz.func158 Tryz.ntmps158 rfl kr rfl ?_;refine ρ ?_;refine Jqc (fun (ab:Nat×Nat) (lt:Int×Bool) (wp:Bool) (q:List Pr)=>[(0,.slice A n c),(1,.int .i64 (ab.1:Int)),(2,.int .i64 (ab.2:Int)),(3,.int .i64 lt.1),(4,.func (.func fid) first cap),(10,.bool lt.2),(11,.bool wp)])
  (λab lt wp q w'=>DP w w' base A n c ps q/\(Seg z0 a0 b0 ps q/\BelZ ds q ab.1 ab.2/\KpZ ds q ab.1 ab.2 a0 b0/\a0<=ab.1/\ab.2<=b0)/\ab.1<=ab.2/\ab.2<=n/\ab.2-ab.1<=m/\0<=lt.1/\lt.1<=64) (λab _ _ _=>ab.2-ab.1) (a0,b0) (lim,true) true ps sB ⟨DP.start hD hn,⟨Seg.refl _ _ _,hBl,λq2 _ h=>h,Nat.le_refl _,Nat.le_refl _⟩,om,om,om,om,om⟩ ?_
 have ak:=hb;clear hD hab hb hm;rintro ⟨a,b⟩ ⟨lim,wb⟩ a4 q w1 ⟨H,⟨u,C,o,O,J⟩,hab,hb,hm,a6,a5⟩;simp only at hab hb hm a6 a5 C o O J;refine ρ ?_;refine ci (λh=>?_) (λh=>?_)
 .refine ρ ?_;refine cl (Qmj (ai:=(a:Int)) (bi:=(b:Int)) H.d H.l rfl rfl hb om hmx (hC.step H).pack) ?_;rintro v w2 ⟨q2,k1,k2,k3,k4⟩;refine ρ ?_;exact Jkr ⟨q2,H.ins k1 k2 k4,u.trans (k2.mono O J),o q2 k2 k3⟩
 have a8:a+12<b:=by have:=oF h;omega
 clear h;refine ρ ?_;refine ci (λh=>?_) (λh=>?_)
 .refine ρ ?_;refine cl (Qmv (a:=a) (b:=b) H.d H.l hmx (hC.step H) rfl rfl om hb) ?_;rintro v w2 ⟨q2,H2,a3⟩;have hs:=Go.Sort.heapSort_holds (lt:=ltP ds) (swoP ds) q.toArray a b om (by simpa [H.l] using hb);rw [a3]at hs;have ae:=H2.seg hs.1;refine ρ ?_;exact Jkr ⟨q2,H.after H2,u.trans (ae.mono O J),o q2 ae (Jnj hs.2)⟩
 have ag:lim≠0:=Xm h;clear h;refine ρ ?_;refine Ik (fun (lim:Int) (q:List Pr)=>[(0,.slice A n c),(1,.int .i64 (a:Int)),(2,.int .i64 (b:Int)),(3,.int .i64 lim),(4,.func (.func fid) first cap),(10,.bool wb),(11,.bool a4),(12,.int .i64 ((b:Int)-(a:Int)))]) (λlim q w'=>DP w w' base A n c ps q/\0<=lim/\lim<=64/\Seg z0 a0 b0 ps q/\BelZ ds q a b/\KpZ ds q a b a0 b0) ?_ ?_
 .refine ci (λh=>?_) (λh=>?_)
  .refine ρ ?_;refine cl (Qss (a:=a) (b:=b) H.d H.l hmx (hC.step H) rfl rfl a8 hb) ?_;rintro v w2 ⟨q2,H2,G⟩;refine ρ ?_;exact Za (lim-1) q2 sB ⟨H.after H2,om,om,u.trans (G.mono O J),C.seg G om (by rw [H.l];exact hb),o.seg G⟩
  .refine ρ ?_;exact Za lim q sB ⟨H,om,om,u,C,o⟩
 clear H a6 a5 ag u C o lim q;rintro lim q w2 ⟨H,a6,a5,u,C,o⟩;refine ρ ?_;refine cl (Qrw (a:=a) (b:=b) H.d H.l hmx (hC.step H) rfl rfl a8 hb) ?_;rintro v w3 ⟨pv,Z,rfl,a2,a1,H2⟩;have H3:=H.same H2;clear H H2;refine ρ ?_;refine Jlv (fun (pv:Nat) (Z:Int) (q:List Pr)=>[(0,.slice A n c),(1,.int .i64 (a:Int)),(2,.int .i64 (b:Int)),(3,.int .i64 lim),(4,.func (.func fid) first cap),(10,.bool wb),(11,.bool a4),(12,.int .i64 ((b:Int)-(a:Int))),(13,.int .i64 (pv:Int)),(14,.int .i64 Z)]) (λpv Z q w'=>DP w w' base A n c ps q/\a<=pv/\pv<b/\Seg z0 a0 b0 ps q/\BelZ ds q a b/\KpZ ds q a b a0 b0) ?_ ?_
 .refine ci (λh=>?_) (λh=>?_)
  .refine ρ ?_;refine cl (Qct (a:=a) (b:=b) H3.d H3.l hmx (hC.step H3) rfl rfl om hb) ?_;rintro v w2 ⟨q2,H2,G⟩;refine ρ ?_;exact Jvp (b-1-(pv-a)) 1 q2 sO ⟨H3.after H2,om,om,u.trans (G.mono O J),C.seg G om (by rw [H3.l];exact hb),o.seg G⟩
  .refine ρ ?_;exact Jvp pv Z q sB ⟨H3,a2,a1,u,C,o⟩
 clear H3 a2 a1 u C o pv Z q;rintro pv Z q w3 ⟨H,a2,a1,u,C,o⟩;refine ρ ?_;refine Vl (fun (t:Bool)=>[(0,.slice A n c),(1,.int .i64 (a:Int)),(2,.int .i64 (b:Int)),(3,.int .i64 lim),(4,.func (.func fid) first cap),(10,.bool wb),(11,.bool a4),(12,.int .i64 ((b:Int)-(a:Int))),(13,.int .i64 (pv:Int)),(75,.bool t)]) (λt w'=>DP w w' base A n c ps q) ?_ ?_
 .refine ki 69 (λh=>?_) (λh=>?_)
  .refine ρ ?_;refine ki 72 (λh=>?_) (λh=>?_)
   .refine ρ ?_;exact Jb _ sB H
   .refine ρ ?_;exact Jb _ sB H
  .refine ρ ?_;exact Jb _ sB H
 clear H;rintro t w4 H;refine Xa (fun (q:List Pr)=>[(0,.slice A n c),(1,.int .i64 (a:Int)),(2,.int .i64 (b:Int)),(3,.int .i64 lim),(4,.func (.func fid) first cap),(10,.bool wb),(11,.bool a4),(12,.int .i64 ((b:Int)-(a:Int))),(13,.int .i64 (pv:Int))]) (λq w'=>DP w w' base A n c ps q/\Seg z0 a0 b0 ps q/\BelZ ds q a b/\KpZ ds q a b a0 b0) ?_ ?_
 .refine ci (λh=>?_) (λh=>?_)
  .refine ρ ?_;refine cl (Qfm (a:=a) (b:=b) H.d H.l hmx (hC.step H) rfl rfl om hb) ?_;rintro v w2 ⟨q2,H2,t2,rfl,a3⟩;have hs:=Go.Sort.partialInsertionSort_holds (lt:=ltP ds) (swoP ds) q.toArray a b om (by simpa [H.l] using hb) C.arr;rw [a3]at hs;have G:=H2.seg hs.1;refine ρ ?_;refine ci (λh=>?_) (λh=>?_)
   .refine ρ ?_;exact Jkr ⟨q2,H.after H2,u.trans (G.mono O J),o q2 G (Jnj (hs.2 h))⟩
   .refine ρ ?_;exact Jb _ sB ⟨H.after H2,u.trans (G.mono O J),C.seg G om (by rw [H.l];exact hb),o.seg G⟩
  .refine ρ ?_;exact Jb _ sB ⟨H,u,C,o⟩
 clear H u C o q;rintro q w5 ⟨H,u,C,o⟩;refine ρ ?_;refine Xa (fun (t:Bool)=>[(0,.slice A n c),(1,.int .i64 (a:Int)),(2,.int .i64 (b:Int)),(3,.int .i64 lim),(4,.func (.func fid) first cap),(10,.bool wb),(11,.bool a4),(12,.int .i64 ((b:Int)-(a:Int))),(13,.int .i64 (pv:Int)),(97,.bool t)]) (λt w'=>DP w w' base A n c ps q/\(t=true->0<a/\ltP ds (q.getD (a-1) z0) (q.getD pv z0)=false)) ?_ ?_
 .skip
  refine dr [(0,0),(0,1),(0,2),(0,3),(0,4),(0,5),(0,6),(0,7),(0,8),(0,9),(0,10),(0,11),(0,12),(1,13),(0,14),(0,15),(0,16)] kr ?_;have Hd:=H.drew;refine ρd ?_;refine dki 83 (λh=>?_) (λh=>?_)
  .have hT:0<a:=by have:=oT h;omega
   have lx:a-1<n:=om
   have ly:pv<n:=om
   refine ρd ?_;refine dix (a-1) Hd.rd lx ?_;refine ρd ?_;refine dld (Hd.cell lx) ?_;refine ρd ?_;refine dix (pv) Hd.rd ly ?_;refine ρd ?_;refine dld (Hd.cell ly) ?_;refine ρd ?_;refine Vz (hC.callV Hd lx ly) ?_;rintro r aj ⟨rfl,a7⟩;refine ⟨a7,?_⟩;have HT:=Hd.ext a7;refine ρd ?_;refine ρ ?_;exact Jb _ sB ⟨HT,λe=>⟨hT,by
    cases h':ltP ds (q.getD (a-1) z0) (q.getD pv z0) with
    | false=>rfl
    | true=>exact absurd (show (!ltP ds (q.getD (a-1) z0) (q.getD pv z0))=true from e) (by rw [h'];decide)⟩⟩
  .refine ρd ?_;refine ρ ?_;exact Jb false sB ⟨Hd,λe=>by cases e⟩
 clear H;rintro t2 w6 ⟨H,a9⟩;refine ci (λh=>?_) (λh=>?_)
 .refine ρ ?_;refine cl (Qfs (a:=a) (b:=b) (pv:=pv) H.d H.l hmx (hC.step H) rfl rfl rfl om hb a2 a1) ?_;rintro v w2 ⟨q2,H2,U,rfl,ac,aa,a3⟩;obtain ⟨k1,k2,k3⟩:=Qns H2 H.l C o (a9 h).1 (a9 h).2 a2 a1 hb a3;refine ρ ?_;exact Gr (U,b) (lim,wb) a4 q2 sB ⟨H.after H2,⟨u.trans (k1.mono O J),k2,k3,by simp only;omega,J⟩,by simp only;omega,by simp only;omega,by simp only;omega,by simp only;omega,by simp only;omega⟩ (by simp only;omega)
 refine ρ ?_;refine cl (Qfq (a:=a) (b:=b) (pv:=pv) H.d H.l hmx (hC.step H) rfl rfl rfl om hb a2 a1) ?_;rintro v w7 ⟨q2,H2,U,af,rfl,ac,aa,a3⟩;have H3:=H.after H2;obtain ⟨k1,_,_,k4,k5⟩:=Qfp H2 H.l a2 a1 hb a3;have ad:b<=q.length:=by rw [H.l];exact hb
 have ah:=C.seg k1 om ad;clear H H2 a9;refine ρ ?_;refine qn (b-a) 8 ?_;refine ρ ?_;refine ci (λh=>?_) (λh=>?_)
 .refine ρ ?_;refine cl (ih (U-a) om H3.d H3.l hmx (hC.step H3) (a0:=a) (b0:=U) rfl rfl om om ⟨a6,a5⟩ (Nat.le_refl _) (ah.imp id λh i j1 j2=>h i j1 om)) ?_;rintro v w8 ⟨q3,H4,k6,k7⟩;obtain ⟨k8,k9⟩:=Qlj k1 ad o ac aa k4 k5 k6 k7;refine ρ ?_;exact Gr (U+1,b) (lim,_) af q3 sO ⟨H3.after H4,⟨(u.trans (k1.mono O J)).trans (k6.mono O om),k8,k9,by simp only;omega,J⟩,by simp only;omega,by simp only;omega,by simp only;omega,by simp only;omega,by simp only;omega⟩ (by simp only;omega)
 .refine ρ ?_;refine cl (ih (b-(U+1)) om H3.d H3.l hmx (hC.step H3) (a0:=U+1) (b0:=b) (ai:=(U:Int)+1) om rfl om om ⟨a6,a5⟩ (Nat.le_refl _) (.inr λi j1 j2=>by rw [show U+1-1=U by omega];exact k5 i om j2)) ?_;rintro v w8 ⟨q3,H4,k6,k7⟩;obtain ⟨k8,k9⟩:=Qcs k1 ad C o ac aa k4 k5 k6 k7;refine ρ ?_;exact Gr (a,U) (lim,_) af q3 sO ⟨H3.after H4,⟨(u.trans (k1.mono O J)).trans (k6.mono om J),k8,k9,O,by simp only;omega⟩,by simp only;omega,by simp only;omega,by simp only;omega,by simp only;omega,by simp only;omega⟩ (by simp only;omega)
end Go.Proofs.YtebcagekopgdhaaGreatDoor
namespace Go.Wk
open Go.RowKit
variable {cs xs:List Value}{base e m n:Nat}{N N':Nat->Prop}{A:Option Addr}{g:Option Nat}{v x:Value}{a w w':World}
structure GrN(N:Nat->Prop)(w w':World): Prop where
 os:w'.os=w.os
 tape:w'.tape=w.tape
 output:w'.output=w.output
 size:w.heap.size<=w'.heap.size
 block:∀ k,k<w.heap.size->¬ N k->w'.heap[k]?=w.heap[k]?
theorem GrN.refl(N:Nat->Prop)(w:World): GrN N w w:=⟨rfl,rfl,rfl,Nat.le_refl _,λ_ _ _=>rfl⟩
theorem GrN.ext(h:Ext w w'): GrN N w w':=⟨h.os,h.tape,h.output,h.size,λk o _=>h.block k o⟩
theorem GrN.trans{N:Nat->Prop}{a b c:World}(h:GrN N a b)(k:GrN N b c): GrN N a c :=
 ⟨k.os.trans h.os,k.tape.trans h.tape,k.output.trans h.output,Nat.le_trans h.size k.size,λj o hn=>(k.block j (nM o h.size) hn).trans (h.block j o hn)⟩
theorem GrN.by(h:w.grownBy w' g)(hg:∀ k,g=some k->N k): GrN N w w':=⟨h.os,h.tape,h.output,h.size,λk o hn=>h.block k o (λe=>hn (hg k e.symm))⟩
theorem GrN.set{p:Addr}(u:Value)(hp:N p.block): GrN N w (w.setCell p u):=by
 refine ⟨rfl,rfl,rfl,by simp [World.setCell],λk o hn=>Below.heap_setCell w p u k ?_⟩;intro e;subst e;exact hn hp
theorem GrN.mono(h:GrN N w w')(hN:∀ k,k<w.heap.size->N k->N' k): GrN N' w w':=⟨h.os,h.tape,h.output,h.size,λk o hn=>h.block k o (λe=>hn (hN k o e))⟩
theorem GrN.old(h:GrN N w w')(hx:Ext a w)(hN:∀ k,N k->a.heap.size<=k): Ext a w' :=
 ⟨h.os.trans hx.os,h.tape.trans hx.tape,h.output.trans hx.output,Nat.le_trans hx.size h.size,λk o=>(h.block k (nM o hx.size) (λe=>by have:=hN k e;omega)).trans (hx.block k o)⟩
theorem GrN.toExt(h:GrN (λ_=>False) w w'): Ext w w':=⟨h.os,h.tape,h.output,h.size,λk o=>h.block k o (λe=>e)⟩
def Off(N:Nat->Prop)(w:World)(Φ:World->Prop): Prop:=∀ w',GrN N w w'->Φ w'
section
variable {N N':Nat->Prop} {w w':World} {Φ Ψ:World->Prop}
theorem Off.here(h:Off N w Φ): Φ w:=h w (GrN.refl N w)
theorem Off.gr(h:Off N w Φ)(hg:GrN N w w'): Off N w' Φ:=λo u=>h o (hg.trans u)
theorem Off.ext(h:Off N w Φ)(hx:Ext w w'): Off N w' Φ:=h.gr (GrN.ext hx)
theorem Off.mono(h:Off N w Φ)(hN:∀ k,k<w.heap.size->N' k->N k): Off N' w Φ:=λw' o=>h w' (o.mono hN)
theorem Off.imp(h:Off N w Φ)(hi:∀ u,Φ u->Ψ u): Off N w Ψ:=λw' o=>hi w' (h w' o)
theorem Off.and(h:Off N w Φ)(k:Off N w Ψ): Off N w (λu=>Φ u/\Ψ u):=λw' o=>⟨h w' o,k w' o⟩
theorem Off.grown(h:Off N w Φ)(hg:w.grownBy w' g)(hN:∀ k,g=some k->N k): Off N w' Φ:=h.gr (GrN.by hg hN)
theorem Off.old{a:World}(hΦ:∀ u,Ext a u->Φ u)(hx:Ext a w)(hN:∀ k,N k->a.heap.size<=k): Off N w Φ:=λw' o=>hΦ w' (o.old hx hN)
theorem Vv{sz:Nat}(h:Rd w sz A n cs)(hg:GrN N w w')(hA:0<cs.length->∀ ad,A=some ad->¬ N ad.block): Rd w' sz A n cs :=
 ⟨h.1,λh0=>by
  obtain ⟨ad,e,o,G⟩:=h.2 h0;refine ⟨ad,e,Nat.lt_of_lt_of_le o hg.size,λj u C=>?_⟩;rw [<-G j u C];exact World.cell?_of_block (by rw [Uo];exact hg.block _ o (hA h0 ad e))⟩
theorem Jpv{sz:Nat}(h:Rd w sz A n cs)(hA:0<cs.length->∀ ad,A=some ad->¬ N ad.block): Off N w (λu=>Rd u sz A n cs):=λw' o=>Vv h o hA
theorem Jc{g:Nat}{t:TypeId}(h:Blk w g t cs)(hg:GrN N w w')(hn:¬ N g): Blk w' g t cs:=(hg.block g h.lt hn).trans h
theorem Jr{sz:Nat}(h:w.ownsRow base e sz v m xs)(hg:GrN N w w')(hn:∀ g,v.ownBlock=some g->¬ N g): w'.ownsRow base e sz v m xs:=by
 rcases h with ⟨J,⟨rfl,rfl⟩|⟨g,G,cur,rfl,Z,C,u,O,U,ht⟩⟩
 .exact ⟨J,.inl ⟨rfl,rfl⟩⟩
 .refine ⟨J,.inr ⟨g,G,cur,rfl,Z,?_,u,O,U,ht⟩⟩;have o:g<w.heap.size:=by
   rcases Nat.lt_or_ge g w.heap.size with h'|h'
   .exact h'
   .rw [Array.getElem?_eq_none h']at C;cases C
  rw [hg.block g o (hn g rfl)];exact C
theorem Jqs{sz:Nat}(h:w.ownsRow base e sz v m xs)(hn:∀ g,v.ownBlock=some g->¬ N g): Off N w (λu=>u.ownsRow base e sz v m xs):=λw' o=>Jr h o hn
end
theorem Zf{P:Program}{al:AL}{tt:TT}[h:Tab P tt]{fn:Func}{Φ:Value->World->Prop}{c t t1 b:Nat}{k:TK}(hb:Blk w b t cs)(hp:Φ (.tuple #[.agg cs.toArray,x]) w)(hr:fn.results = #[.cell c t,.tmp t1]:=by rfl)(ht:tk tt t=some k:=by rfl)(hk:k.desc=.invalid:=by rfl)(hs:k.size=cs.length:=by rfl)(hc:lk al c=some (.pointer (some ⟨b,0,none⟩)):=by rfl)(h1:lk al t1=some x:=by rfl):
  QX n (Vu P fn Φ) .ret al w :=
 Jxq (rs:=[.cell c t,.tmp t1]) (vs:=[.agg cs.toArray,x]) hr ⟨⟨_,hc,Ip h.ok ht hk hs (λj u o=>hb.at o)⟩,h1,trivial⟩ rfl hp
end Go.Wk
namespace Go.Proofs.YtebcagekopgdhaaGreatDoor
open Go.RowKit Pl Go.Wk
attribute [local irreducible] WC WL QX WD WDB WP
variable {r:List V}{N N':Nat->Prop}{w:World}
def RowX(w:World)(N:Nat->Prop)(v:Value)(r:List V): Prop:=∃ A c,v=.slice A r.length c/\r.length<=c/\r.length<=1100000/\RdR w A r/\(r≠[]->∀ ad,A=some ad->¬ N ad.block)
def one(g:Option Nat)(k:Nat): Prop:=g=some k
theorem RowX.v{v:Value}(h:RowX w N v r): RowV w v r:=by
 obtain ⟨A,c,G,C,u,o,_⟩:=h;exact ⟨A,c,G,C,u,o⟩
theorem RowX.ext{w w':World}{N:Nat->Prop}{v:Value}{r:List V}(h:RowX w N v r)(hx:Ext w w'): RowX w' N v r:=by
 obtain ⟨A,c,J,G,C,u,o⟩:=h;exact ⟨A,c,J,G,C,u.ext hx,o⟩
theorem RowX.mono{v:Value}(h:RowX w N v r)(hN:∀ k,k<w.heap.size->N' k->N k): RowX w N' v r:=by
 obtain ⟨A,c,O,J,G,u,C⟩:=h;refine ⟨A,c,O,J,G,u,λh0 ad e hn=>C h0 ad e (hN _ ?_ hn)⟩;obtain ⟨Z,o,U⟩:=Rd.isome u (List.length_pos_iff.2 h0) om;rw [e]at o;injection o with o;subst o;exact U
theorem RowX.grown{w w':World}{N:Nat->Prop}{g:Option Nat}{v:Value}{r:List V}(h:RowX w N v r)(hg:w.grownBy w' g)(hN:∀ k,g=some k->N k): RowX w' N v r:=by
 obtain ⟨A,c,J,G,C,u,o⟩:=h;refine ⟨A,c,J,G,C,?_,o⟩;by_cases h0:r=[]
 .subst h0;exact Rd.nil
 .exact Rd.grown u hg (λU e O=>o h0 U e (hN _ O))
theorem RowX.nil(w:World)(N:Nat->Prop): RowX w N (.slice none 0 0) []:=⟨none,0,rfl,by simp,by simp,Rd.nil,λh=>absurd rfl h⟩
def RowsV(w:World)(v:Value)(ls:List (List V)): Prop:=∃ (ps:List Pr) (A:Option Addr) (c:Nat),ls=ps.map (·.2)/\v=.slice A ps.length c/\ps.length<=c/\ps.length<=1100000/\Rd w 1 A ps.length (ps.map (·.1))/\∀ p∈ps,RowV w p.1 p.2
theorem RowsV.ext{w w':World}{v:Value}{ls:List (List V)}(h:RowsV w v ls)(hx:Ext w w'): RowsV w' v ls:=by
 obtain ⟨ps,A,c,U,O,J,G,C,u⟩:=h;exact ⟨ps,A,c,U,O,J,G,C.ext hx,λp o=>(u p o).ext hx⟩
theorem RowV.one{v:Value}(h:RowV w v r): v.oneCell'=true:=by obtain ⟨A,c,rfl,_⟩:=h;rfl
theorem Jxt{v:Value}(h:RowV w v r)(N:Nat->Prop)(hg:∀ k,N k->k<w.heap.size):
  Ret Tryz.prog 102 [v] w λv' w'=>RowX w' N v' r/\Ext w w':=by
 obtain ⟨A,c,rfl,Z,h3,U⟩:=h;refine Jz Tryz.func102 Tryz.ntmps102 rfl kr rfl ?_;refine ρ ?_;refine Il ?_;refine ρ ?_;refine ci (λh=>?_) (λh=>?_)
 .have hA:A=none:=by simpa using h
  subst hA;have hn:r.length=0:=by
   rcases Nat.eq_zero_or_pos r.length with h0|h0
   .exact h0
   .obtain ⟨ad,Z,_⟩:=U.isome h0 om;cases Z
  obtain rfl:=List.eq_nil_of_length_eq_zero hn;refine ρ ?_;exact Jj ⟨RowX.nil w N,Ext.refl w⟩
 .refine ρ ?_;refine bsl Jjn ?_;intro w1 b u O J;refine ρ ?_;refine apo u EV (J.own (n:=0) O rfl (Nat.zero_le _)) (U.ext u) (Jvj r) (by unfold maxLen;omega) om ?_;intro v2 w2 o G _ _;obtain ⟨A2,c2,rfl,C,hf⟩:=Jv o;refine ρ ?_;rw [Nat.zero_add]at o C ⊢;refine Jj ⟨⟨A2,c2,rfl,C,h3,Rd.own o,λ_ ad e=>?_⟩,G⟩;subst e;intro e2;have h4:=hg _ e2;have h5:=(hf ad.block rfl).1;omega
theorem Pr.rep(n:Nat): (List.replicate n ((.slice none 0 0,[]):Pr)).map (·.1)=List.replicate n (.slice none 0 0):=by simp
def Srt(ds:List Bool)(ls:List (List V)): Prop:=ls.Pairwise λa b=>Jw a b ds<=0
theorem Jnh{ds:List Bool}{ps:List Pr}(h:SOn z0 (fP ds) ps 0 ps.length): Srt ds (ps.map (·.2)):=by
 unfold Srt;rw [List.pairwise_map,List.pairwise_iff_getElem];intro i j hi u o;have:=h i j (Nat.zero_le _) o u;rw [Jp z0 ps hi,Jp z0 ps u]at this;exact this
end Go.Proofs.YtebcagekopgdhaaGreatDoor
namespace Go.Proofs.YtebcagekopgdhaaGreatDoor
open Pl
variable {ds:List Bool}{i j k:Nat}
abbrev Row:= List V
def Lt(ds:List Bool)(ls:List Row): Prop:=ls.Pairwise λa b=>Jw a b ds<0
def Zz(ds:List Bool)(ls m:List Row): Prop:=Lt ds m/\∀ x,x∈m↔x∈ls
theorem Jyd(ds:List Bool)(a:Row): ¬ Jw a a ds<0:=by rw [Yw];omega
theorem Qhv{a b:Row}(h:Jw a b ds<0): ¬ Jw b a ds<0:=by rw [Jwb a b];omega
theorem Im{ds:List Bool}: ∀ {l m:List Row},Lt ds l->Lt ds m->(∀ x,x∈l↔x∈m)->l=m
 | [],[],_,_,_=>rfl
 | [],b::m,_,_,h=>absurd ((h b).2 (mC ..)) (by simp)
 | a::l,[],_,_,h=>absurd ((h a).1 (mC ..)) (by simp)
 | a::l,b::m,h1,h2,h=>by
  have p1:=List.pairwise_cons.1 h1;have p2:=List.pairwise_cons.1 h2;have hab:a=b:=by
   rcases List.mem_cons.1 ((h a).1 (mC ..)) with e|e
   .exact e
   .rcases List.mem_cons.1 ((h b).2 (mC ..)) with e2|e2
    .exact e2.symm
    .exact absurd (p1.1 _ e2) (Qhv (p2.1 _ e))
  subst hab;congr 1
  refine Im p1.2 p2.2 λx=>?_;have hx:=h x;constructor
  .intro hm;rcases List.mem_cons.1 (hx.1 (List.mem_cons_of_mem _ hm)) with e|e
   .subst e;exact absurd (p1.1 _ hm) (Jyd ds x)
   .exact e
  .intro hm;rcases List.mem_cons.1 (hx.2 (List.mem_cons_of_mem _ hm)) with e|e
   .subst e;exact absurd (p2.1 _ hm) (Jyd ds x)
   .exact e
def ddS(out:List Row)(x:Row): List Row:=if out.getLast?=some x then out else out++[x]
def ddF(l:List Row): List Row:=l.foldl ddS []
theorem Jgm(l:List Row)(x:Row): ddF (l++[x])=ddS (ddF l) x:=by simp [ddF,List.foldl_append]
theorem Qqf(out:List Row)(x:Row): (ddS out x).getLast?=some x:=by
 unfold ddS;split
 .assumption
 .simp
theorem getLast_mem'{l:List Row}{x:Row}(h:l.getLast?=some x): x∈l:=by
 rw [List.getLast?_eq_some_iff]at h;obtain ⟨o,rfl⟩:=h;simp
theorem Jgl{ds:List Bool}: ∀ (l out:List Row),Lt ds out->(∀ a∈out,∀ b∈l,Jw a b ds<=0)->Srt ds l->Lt ds (l.foldl ddS out)/\∀ x,x∈l.foldl ddS out↔(x∈out∨x∈l)
 | [],out,h,_,_=>⟨h,λx=>by simp⟩
 | y::l,out,h,hle,hs=>by
  have p:=List.pairwise_cons.1 hs;simp only [List.foldl_cons];by_cases e:out.getLast?=some y
  .have hy:=getLast_mem' e;have e1:ddS out y=out:=by unfold ddS;rw [if_pos e]
   rw [e1];obtain ⟨k1,k2⟩:=Jgl l out h (λa ha b hb=>hle a ha b (List.mem_cons_of_mem _ hb)) p.2;refine ⟨k1,λx=>(k2 x).trans ?_⟩;constructor
   .rintro (h'|h')
    .exact .inl h'
    .exact .inr (List.mem_cons_of_mem _ h')
   .rintro (h'|h')
    .exact .inl h'
    .rcases List.mem_cons.1 h' with rfl|h'
     .exact .inl hy
     .exact .inr h'
  .have e1:ddS out y=out++[y]:=by unfold ddS;rw [if_neg e]
   rw [e1];have hlt:∀ a∈out,Jw a y ds<0:=by
    intro a ha;have h1:=hle a ha y (mC ..);rcases Int.lt_or_eq_of_le h1 with h2|h2
    .exact h2
    .exfalso
     have:=Jxs _ _ _ h2;subst this
     -- a is in out,and everything in out is below a;so a is the last
     obtain ⟨z,hz⟩:∃ z,out.getLast?=some z:=by
      cases hq:out.getLast? with
      | none=>rw [List.getLast?_eq_none_iff]at hq;rw [hq]at ha;cases ha
      | some z=>exact ⟨z,rfl⟩
     rw [List.getLast?_eq_some_iff]at hz;obtain ⟨ys,rfl⟩:=hz;rcases List.mem_append.1 ha with h3|h3
     .have h4:=(List.pairwise_append.1 h).2.2 _ h3 z (by simp);have h5:=hle z (by simp) a (mC ..);exact absurd ((Gd ds).lt_le h4 h5) (Jyd ds a)
     .rw [List.mem_singleton.1 h3]at e;simp at e
   obtain ⟨k1,k2⟩:=Jgl l (out++[y]) (List.pairwise_append.2 ⟨h,List.pairwise_singleton _ _,λa ha b hb=>by rw [List.mem_singleton.1 hb];exact hlt a ha⟩) (λa ha b hb=>by
    rcases List.mem_append.1 ha with h'|h'
    .exact hle a h' b (List.mem_cons_of_mem _ hb)
    .rw [List.mem_singleton.1 h'];exact p.1 b hb) p.2
   refine ⟨k1,λx=>(k2 x).trans ?_⟩;rw [List.mem_append,List.mem_singleton,List.mem_cons,or_assoc]
theorem Qqd: ∀ (l out:List Row),(l.foldl ddS out).length<=out.length+l.length
 | [],out=>by simp
 | y::l,out=>by
  simp only [List.foldl_cons];have:=Qqd l (ddS out y);have h2:(ddS out y).length<=out.length+1:=by unfold ddS;split<;>simp
  simp only [List.length_cons];omega
theorem Jkw(l:List Row): (ddF l).length<=l.length:=by have:=Qqd l [];simpa [ddF] using this
theorem Qqh{l:List Row}(h:Srt ds l): Zz ds l (ddF l):=by
 obtain ⟨C,u⟩:=Jgl l [] List.Pairwise.nil (λa o=>by cases o) h;exact ⟨C,λx=>(u x).trans (by simp)⟩
theorem Qqg{l:List Row}(hk:k<l.length): ddF (l.take (k+1))=if k≠0/\l.getD (k-1) []=l.getD k [] then ddF (l.take k) else ddF (l.take k)++[l.getD k []]:=by
 rw [List.take_succ_eq_append_getElem hk,Jgm,<-Jp [] l hk];unfold ddS;by_cases h0:k=0
 .subst h0;rw [if_neg (by simp [ddF]),if_neg (by simp)]
 .have o:k-1<l.length:=om
  have e:ddF (l.take k)=ddS (ddF (l.take (k-1))) (l.getD (k-1) []):=by
   have:=List.take_succ_eq_append_getElem o;rw [show k-1+1=k by omega]at this;rw [this,Jgm,Jp [] l o]
  rw [e,Qqf];by_cases h1:l.getD (k-1) []=l.getD k []
  .rw [if_pos (by rw [h1]),if_pos ⟨h0,h1⟩]
  .rw [if_neg (by simpa using h1),if_neg (λh=>h1 h.2)]
def cnt(ds:List Bool)(l:List Row)(r:Row): Nat:=(l.filter λx=>decide (Jw x r ds<0)).length
theorem Jgr(ds:List Bool)(l:List Row)(r:Row): cnt ds l r<=l.length:=List.length_filter_le _ _
theorem Lt.at{l:List Row}(h:Lt ds l)(hij:i<j)(hj:j<l.length): Jw (l.getD i []) (l.getD j []) ds<0:=by
 have:=List.pairwise_iff_getElem.1 h i j om hj hij;rw [Jp [] l hj,Jp [] l om];exact this
theorem Qqq{l:List Row}{r:Row}(hk:k<=l.length)(hlo:∀ i,i<k->Jw (l.getD i []) r ds<0)(hhi:∀ i,k<=i->i<l.length->¬ Jw (l.getD i []) r ds<0): cnt ds l r=k:=by
 unfold cnt;have e:l=l.take k++l.drop k:=(List.take_append_drop k l).symm;rw [e,List.filter_append,List.length_append];have G:(l.take k).filter (λx=>decide (Jw x r ds<0))=l.take k:=by
  rw [List.filter_eq_self];intro x u;obtain ⟨i,hi,rfl⟩:=List.getElem_of_mem u;have o:i<k:=by simp at hi;omega
  have:=hlo i o;rw [Jp [] l om]at this;simpa using this
 have C:(l.drop k).filter (λx=>decide (Jw x r ds<0))=[]:=by
  rw [List.filter_eq_nil_iff];intro x u;obtain ⟨i,hi,rfl⟩:=List.getElem_of_mem u;have o:k+i<l.length:=by simp at hi;omega
  have:=hhi (k+i) om o;rw [Jp [] l o]at this;simpa using this
 rw [G,C];simp;omega
theorem Qdc{l:List Row}(h:Lt ds l){r:Row}(hk:k<=l.length)(hlo:k=0∨Jw (l.getD (k-1) []) r ds<0)(hhi:k=l.length∨¬ Jw (l.getD k []) r ds<0):
  cnt ds l r=k/\(r∈l↔k<l.length/\l.getD k []=r):=by
 have lo:∀ i,i<k->Jw (l.getD i []) r ds<0:=λi hi=>by
  rcases hlo with h0|h0
  .omega
  .by_cases e:i=k-1
   .rw [e];exact h0
   .exact (Gd ds).lt_trans (h.at (i:=i) (j:=k-1) om om) h0
 have hi:∀ i,k<=i->i<l.length->¬ Jw (l.getD i []) r ds<0:=λi o G=>by
  rcases hhi with h0|h0
  .omega
  .by_cases e:i=k
   .rw [e];exact h0
   .exact λU=>h0 ((Gd ds).lt_trans (h.at (i:=k) (j:=i) om G) U)
 refine ⟨Qqq hk lo hi,λJ=>?_,λ⟨o,G⟩=>?_⟩
 .obtain ⟨j,C,u⟩:=List.getElem_of_mem J;rw [<-Jp [] l C]at u;have O:k<=j:=by
   rcases Nat.lt_or_ge j k with o|o
   .exact absurd (u ▸ lo j o) (Jyd ds r)
   .exact o
  have:j=k:=by
   rcases Nat.lt_or_ge k j with o|o
   .exact absurd (u ▸ h.at o C) (hi k (Nat.le_refl _) om)
   .omega
  subst this;exact ⟨C,u⟩
 .rw [<-G];exact getD_mem' [] l o
def Zw(ds:List Bool)(l:List Row)(r:Row): List Row:=if r∈l then l else l.take (cnt ds l r)++r::l.drop (cnt ds l r)
theorem Qdp{l ls:List Row}{r:Row}(h:Zz ds ls l): Zz ds (ls++[r]) (Zw ds l r):=by
 unfold Zw;split
 .rename_i hm;refine ⟨h.1,λx=>?_⟩;rw [List.mem_append,List.mem_singleton,<-h.2 x];exact ⟨.inl,λu=>u.elim id λe=>e ▸ hm⟩
 .rename_i hm;have a1:=Jgr ds l r
  -- what is below the place is smaller,what is above is greater
  have Z:∃ k,cnt ds l r=k/\k<=l.length/\(∀ i,i<k->Jw (l.getD i []) r ds<0)/\(∀ i,k<=i->i<l.length->¬ Jw (l.getD i []) r ds<0):=by
   have ex:∀ n,n<=l.length->∃ k,k<=n/\(∀ i,i<k->Jw (l.getD i []) r ds<0)/\(k=n∨¬ Jw (l.getD k []) r ds<0):=by
    intro n;induction n with
    | zero=>exact λ_=>⟨0,Nat.le_refl _,λi hi=>om,.inl rfl⟩
    | succ n ih=>
     intro hn;obtain ⟨k,k1,G,o⟩:=ih om;rcases o with o|o
     .subst o;by_cases h0:Jw (l.getD k []) r ds<0
      .exact ⟨k+1,Nat.le_refl _,λi hi=>by
        by_cases e:i=k
        .rw [e];exact h0
        .exact G i om,.inl rfl⟩
      .exact ⟨k,om,G,.inr h0⟩
     .exact ⟨k,om,G,.inr o⟩
   obtain ⟨k,k1,G,o⟩:=ex l.length (Nat.le_refl _);have hi:∀ i,k<=i->i<l.length->¬ Jw (l.getD i []) r ds<0:=λi h1 h2=>by
    rcases o with o|o
    .omega
    .by_cases e:i=k
     .rw [e];exact o
     .exact λh3=>o ((Gd ds).lt_trans (h.1.at (i:=k) (j:=i) om h2) h3)
   exact ⟨k,Qqq k1 G hi,k1,G,hi⟩
  obtain ⟨k,hk,k1,G,o⟩:=Z;rw [hk];have J:=h.1;refine ⟨?_,λx=>?_⟩
  .unfold Lt at J ⊢;rw [List.pairwise_append];refine ⟨J.sublist (List.take_sublist _ _),List.pairwise_cons.2 ⟨λb U=>?_,J.sublist (List.drop_sublist _ _)⟩,λa ha b U=>?_⟩
   .obtain ⟨i,hi,rfl⟩:=List.getElem_of_mem U;have C:k+i<l.length:=by simp at hi;omega
    have:=o (k+i) om C;rw [Jp [] l C]at this;rw [List.getElem_drop];rcases (Gd ds).tot l[k+i] r with e|e|e
    .exact absurd e this
    .exact absurd (e ▸ List.getElem_mem C) hm
    .exact e
   .obtain ⟨i,hi,rfl⟩:=List.getElem_of_mem ha;have C:i<k:=by simp at hi;omega
    have h1:=G i C;rw [Jp [] l om]at h1;rw [List.getElem_take];rcases List.mem_cons.1 U with rfl|U
    .exact h1
    .obtain ⟨j,hj,rfl⟩:=List.getElem_of_mem U;have O:k+j<l.length:=by simp at hj;omega
     rw [List.getElem_drop];have:=h.1.at (i:=i) (j:=k+j) om O;rw [Jp [] l O,Jp [] l om]at this;exact this
  .rw [List.mem_append,List.mem_cons,List.mem_append,List.mem_singleton,<-h.2 x];have e:x∈l↔x∈l.take k∨x∈l.drop k:=by
    conv=>lhs;rw [<-List.take_append_drop k l]
    exact List.mem_append
   rw [e];constructor
   .rintro (u|u|u)
    .exact .inl (.inl u)
    .exact .inr u
    .exact .inl (.inr u)
   .rintro ((u|u)|u)
    .exact .inl u
    .exact .inr (.inr u)
    .exact .inr (.inl u)
open Go.RowKit Pl Go.Wk
attribute [local irreducible] WC WL QX WD WDB WP
variable {ls:List Row}{b base d i n ty:Nat}{v vr:Value}{a w:World}
theorem Jwg(v:Value)(w:World)(A:Option Addr)(n c:Nat)(hv:v=.slice A n c): (Instr.buildSlice 54 1 #[(0,v)]).run Tryz.prog w=.ok (.slice (some ⟨w.heap.size,0,none⟩) 1 1) (w.alloc (.cells [v].toArray 37)):=by
 subst hv;kernel_rfl
theorem Jxg{ps:List Pr}: (ps.map (·.2)).getD i []=(ps.getD i z0).2:=by
 simp only [List.getD,List.getElem?_map];cases ps[i]?<;>rfl
def own(base:Nat)(v:Value)(k:Nat): Prop:=k<base∨v.ownBlock=some k
def OwnR(w:World)(base:Nat)(v:Value)(ls:List Row): Prop:=∃ ps:List Pr,ls=ps.map (·.2)/\w.ownsRow base 37 1 v ps.length (ps.map (·.1))/\∀ p∈ps,RowX w (own base v) p.1 p.2
theorem OwnR.nil(w:World)(base:Nat): OwnR w base (.slice none 0 0) []:=⟨[],rfl,Xo _ _ _ _,λp o=>by cases o⟩
theorem OwnR.ext{w w':World}{base:Nat}{v:Value}{ls:List Row}(h:OwnR w base v ls)(hx:Ext w w'): OwnR w' base v ls:=by
 obtain ⟨ps,G,C,u⟩:=h;exact ⟨ps,G,Jk C hx,λp o=>(u p o).ext hx⟩
theorem OwnR.rows(h:OwnR w base v ls)(hm:ls.length<=1100000): RowsV w v ls:=by
 obtain ⟨ps,rfl,o,G⟩:=h;obtain ⟨A,c,rfl,C,_⟩:=Jv o;exact ⟨ps,A,c,rfl,rfl,C,by simpa using hm,Rd.own o,λp u=>(G p u).v⟩
theorem OwnR.form(h:OwnR w base v ls): ∃ A c,v=.slice A ls.length c:=by
 obtain ⟨ps,rfl,o,C⟩:=h;obtain ⟨A,c,rfl,u,_⟩:=Jv o;exact ⟨A,c,by simp⟩
theorem OwnR.lt(h:OwnR w base v ls): ∀ k,v.ownBlock=some k->base<=k/\k<w.heap.size:=by
 obtain ⟨ps,rfl,u,G⟩:=h;obtain ⟨A,c,rfl,C,o⟩:=Jv u;exact o
theorem appR{P:Program}{al:AL}{Q:Exit->Act->World->Prop}{ops:Array Oper}{rest:List Oper}{pos:String}{aft:Array Edge}(hxa:Ext a w){x y:Operand}{r:Row}(hE:ElT P 54 37 1 24 (.slice none 0 0))(ho:OwnR w a.heap.size v ls)(hb:Blk w b 37 [vr])(hr:RowX w (own a.heap.size v) vr r)(hm:ls.length<=1100000)(kk:∀ v' w',OwnR w' a.heap.size v' (ls++[r])->Ext a w'->w.grownBy w' v.ownBlock->WL P n ops Q rest ((d,v')::al) w')(hx:ev al x=some v:=by rfl)(hy:ev al y=some (.slice (some ⟨b,0,none⟩) 1 1):=by rfl)(hd:Nat.blt d n=true:=by rfl):
  WL P n ops Q (⟨some d,.call { callee:=.builtin .append,args:=#[x,y],argTypes:=#[54,54] },ty,pos,aft,none⟩::rest) al w:=by
 obtain ⟨ps,rfl,h2,h3⟩:=ho;have C:vr.oneCell'=true:=hr.v.one;refine apo hxa hE h2 hb.one (λu hu=>by rw [List.mem_singleton.1 hu];exact C) (by unfold maxLen;simp at hm;omega) (by simp at hm;omega) ?_ hx hy hd;intro v' w' U J G Z;have o:∀ (p:Pr),RowX w (own a.heap.size v) p.1 p.2->RowX w' (own a.heap.size v') p.1 p.2:=λp O=>by
  have h1:=O.mono (N':=λk=>own a.heap.size v k∨own a.heap.size v' k) (λk hk h=>by
   rcases h with h|h|h
   .exact h
   .exact .inl h
   .rcases Z k h with h4|h4
    .exact .inr h4
    .omega)
  obtain ⟨A,c,e1,e2,e3,e4,e5⟩:=h1.grown G (λk hk=>.inl (.inr hk));exact ⟨A,c,e1,e2,e3,e4,λh0 ad e hn=>e5 h0 ad e (.inr hn)⟩
 refine kk v' w' ⟨ps++[(vr,r)],by simp,?_,λp O=>?_⟩ J G
 .rw [List.length_append,List.map_append];exact U
 .rcases List.mem_append.1 O with h'|h'
  .exact o p (h3 p h')
  .rw [List.mem_singleton.1 h'];exact o (vr,r) hr
theorem RowsV.parts(h:RowsV w v ls): ∃ A c,v=.slice A ls.length c/\ls.length<=c/\ls.length<=1100000/\∃ cs:List Value,Rd w 1 A ls.length cs/\∀ i,i<ls.length->∃ u,cs[i]?=some u/\RowV w u (ls.getD i []):=by
 obtain ⟨ps,A,c,rfl,rfl,O,J,G,C⟩:=h;refine ⟨A,c,by simp,by simpa using O,by simpa using J,ps.map (·.1),by simpa using G,λi hi=>?_⟩
 have o:i<ps.length:=by simpa using hi
 exact ⟨_,Ia o,by rw [Jxg];exact C _ (getD_mem' z0 ps o)⟩
open Go.RowKit Pl Go.Wk
variable {cap first:Array Value}{fid:FuncId}{ds:List Bool}{ps:List Pr}{base c i n:Nat}{A:Option Addr}{row:Option Nat}{w w':World}
theorem Qbr(hD:Dat w base (.slice A n c) ps)(hn:ps.length=n)(hmx:n<=1100000)(hC:CF w (Value.slice A n c).ownBlock fid first cap ps ds):
  Ret Tryz.prog 122 [.slice A n c,.func (.func fid) first cap] w λv w'=>∃ ps',DP w w' base A n c ps ps'/\(n<=1000->SOn z0 (fP ds) ps' 0 n):=by
 refine Jz Tryz.func122 Tryz.ntmps122 rfl kr rfl ?_;refine ρ ?_;refine kv 10 (u:=.int .u64 (n:Int)) (congrArg (Value.int .u64) (Uv om)) ?_;refine cl (Qzk n om w) ?_;rintro v w' ⟨rfl,rfl⟩;refine ρ ?_;have G:Ju n<=48:=Jxh om;refine cl (Qfk n (a0:=0) (b0:=n) (ai:=0) (bi:=(n:Int)) (lim:=(Ju n:Int)) hD hn om hC rfl rfl om (Nat.le_refl _) om om (.inl rfl)) ?_;rintro v C ⟨q,H,_,o⟩;refine ρ ?_;exact Gb ⟨q,H,λ_=>o⟩
theorem Jnk{α:Type}{z:α}{f:α->α->Int}(hf:PreC f){q:List α}: SOn z f q 0 n↔∀ k,0<k->k<n->¬ f (q.getD k z) (q.getD (k-1) z)<0:=by
 constructor
 .intro h k h0 u o;have:=h (k-1) k om om u;have:=hf.anti (q.getD k z) (q.getD (k-1) z);omega
 .intro h i j _ G C;induction j with
  | zero=>omega
  | succ j ih=>
   have J:=h (j+1) om C;have O:=hf.anti (q.getD (j+1) z) (q.getD j z);simp only [Nat.add_sub_cancel]at J;by_cases e:i=j
   .subst e;omega
   .exact hf.trans _ _ _ (ih om om) om
theorem Jqm(hR:Rd w 1 A n (ps.map (·.1)))(hn:ps.length=n)(hi:i<n): w.cell? (adr A i)=some (ps.getD i z0).1:=hR.cell (Ia (hn.symm ▸ hi))
theorem Vg(hn:ps.length=n)(hi:i<n): ps.getD i z0∈ps:=getD_mem' z0 ps (hn.symm ▸ hi)
theorem CF.none(h:CF w row fid first cap ps ds)(hx:Ext w w'){p q:Pr}(hp:p∈ps)(hq:q∈ps):
  Ret Tryz.prog fid (first.toList++[p.1,q.1]++cap.toList) w' λr w''=>r=.int .i64 (fP ds p q)/\Ext w' w'':=h w' (Zg hx _) p q hp hq
theorem Qmd(hR:Rd w 1 A n (ps.map (·.1)))(hn:ps.length=n)(hmx:n<=1100000)(hC:CF w row fid first cap ps ds):
  Ret Tryz.prog 120 [.slice A n c,.func (.func fid) first cap] w λv w'=>Ext w w'/\∃ t:Bool,v=.bool t/\(t=true↔SOn z0 (fP ds) ps 0 n):=by
 refine Jz Tryz.func120 Tryz.ntmps120 rfl kr rfl ?_;refine ρ ?_;refine Qd (fun (j:Nat)=>[(0,.slice A n c),(1,.func (.func fid) first cap),(5,.int .i64 ((j:Int)-1))]) (λj w'=>Ext w w'/\j<=n/\∀ k,j<=k->0<k->k<n->¬ fP ds (ps.getD k z0) (ps.getD (k-1) z0)<0) (λj=>j) n sO ⟨Ext.refl w,Nat.le_refl _,λk h1 _ h2=>om⟩ ?_;rintro j w1 ⟨Z,hj,hI⟩;refine ρ ?_;refine ci (λh=>?_) (λh=>?_)
 .have h2:2<=j:=by have:=oT h;omega
  have J:j-1<n:=om
  have C:j-2<n:=om
  refine ρ ?_;refine dr [(0,0),(0,1),(0,2),(0,3),(0,4),(0,5),(0,6),(0,7),(0,8),(0,9),(1,10),(0,11)] kr ?_;have o:Ext w w1.drew:=Z.drew;have u:=hR.ext o;refine ρd ?_;refine dix (j-1) u J ?_;refine ρd ?_;refine dld (Jqm u hn J) ?_;refine ρd ?_;refine dix (j-2) u C ?_;refine ρd ?_;refine dld (Jqm u hn C) ?_;refine ρd ?_;refine Vz (hC.none o (Vg hn J) (Vg hn C)) ?_;rintro r w2 ⟨rfl,G⟩;refine ⟨G,?_⟩;refine ρd ?_;refine ρ ?_;refine ci (λh=>?_) (λh=>?_)
  .refine ρ ?_;refine Jj ⟨o.trans G,false,rfl,⟨λe=>(by cases e),λe=>?_⟩⟩;have:=(Jnk (preP ds)).1 e (j-1) om J;exact absurd (oT h) this
  .refine ρ ?_;refine Qw (j-1) sO ⟨o.trans G,om,λk U O k3=>?_⟩ om;by_cases e:k=j-1
   .subst e;exact oF h
   .exact hI k om O k3
 .refine ρ ?_;have h1:j<=1:=by have:=oF h;omega
  exact Jj ⟨Z,true,rfl,⟨λ_=>(Jnk (preP ds)).2 λk U O=>hI k om U O,λ_=>rfl⟩⟩
theorem Qfz{P:Program}{t e k bytes:Nat}{z:Value}{xs:List Value}(hE:ElT P t e 1 bytes z)(hz1:z.cells = #[z])(hz2:z.oneCell'=true)(h:w.ownsRow base e 1 (.slice A n c) n xs)(hk:k<=n)(ty:TypeId):
  ∃ w',(Builtin.clear_ #[t] ty #[.slice (if c=k then A else A.map (·.add (k*1))) (n-k) (c-k)]).run P w=.ok (.tuple #[]) w'/\w'.ownsRow base e 1 (.slice A k c) k (xs.take k)/\w.grownBy w' (Value.slice A n c).ownBlock:=by
 obtain ⟨i,hi,Z,a1,a3⟩:=hE.info;obtain ⟨hl,U⟩:=h;have a2:xs.length=n:=om
 rcases Nat.eq_or_lt_of_le hk with e0|hlt
 .subst e0;refine ⟨w,?_,?_,Zg (Ext.refl w) _⟩
  .rw [Nat.sub_self];generalize (if c=k then A else A.map (·.add (k*1)))=B
   cases B<;>simp [Builtin.clear_,run_underlying hE.sl]
  .rw [List.take_of_length_le om];exact ⟨hl,U⟩
 .rcases U with ⟨C,h0⟩|⟨g,cap,cur,C,hb,hg,hle,hmx,hcs,hcur⟩
  .omega
  .injection C with e1 e2 e3
   subst e1;subst e3;have O:¬ c=k:=om
   rw [if_neg O];have e4:(some (⟨g,0,none⟩:Addr)).map (·.add (k*1))=some ⟨g,k,none⟩:=by simp [Vo]
   rw [e4];have o:=run_storeCells_at (P:=P) g k e (List.replicate (n-k) z) 0 cur w hg (by simp;omega) (λv C=>by rw [List.eq_of_mem_replicate C];exact hz2);refine ⟨w.setRow g (cur.toList.take (k+0)++List.replicate (n-k) z++cur.toList.drop (k+0+(List.replicate (n-k) z).length)).toArray,?_,?_,Jjh w g _⟩
   .have J:∃ m,n-k=m+1:=⟨n-k-1,om⟩;obtain ⟨m,hm⟩:=J;have u:(Builtin.zeroCells z.cells (n-k)).toList=List.replicate (n-k) z:=by
     rw [hz1];simp only [Builtin.zeroCells];apply List.ext_getElem
     .simp
     .intro j h1 h2;simp [Nat.mod_one]
    rw [hm]at o u ⊢;have G:(zeroValue e).run P w=.ok z w:=by simp [zeroValue,typeInfo,hi,Z]
    simp only [Nat.add_zero,List.length_replicate,List.append_assoc]at o ⊢;simp [Builtin.clear_,run_underlying hE.sl,G,u,o]
   .simp only [Nat.add_zero,List.length_replicate];refine ⟨by rw [List.length_take];omega,.inr ⟨g,c,_,rfl,hb,setRow_heap w g cur _ e _ hg,om,hmx,?_,?_⟩⟩
    .simp;omega
    .simp only [Nat.mul_one]at hcur ⊢;rw [List.append_assoc,List.take_append_of_le_length (by simp;omega),<-hcur];conv=>rhs;rw [List.take_take]
     rw [List.take_take,Nat.min_self,Nat.min_eq_left (Nat.le_of_lt hlt)]
end Go.Proofs.YtebcagekopgdhaaGreatDoor
namespace Go.Wk
section
variable {P:Program} {n:Nat} {al:AL} {w:World} {Q:Exit->Act->World->Prop} {ops:Array Oper} {rest:List Oper}
variable {ty:Nat} {pos:String} {aft:Array Edge}
theorem clr{x:Operand}{t:Nat}{v:Value}{w':World}(h:∀ ty,(Builtin.clear_ #[t] ty #[v]).run P w=.ok (.tuple #[]) w')(k:WL P n ops Q rest al w')(hx:ev al x=some v:=by rfl):
  WL P n ops Q (⟨none,.call { callee:=.builtin .clear,args:=#[x],argTypes:=#[t] },ty,pos,aft,none⟩::rest) al w:=λa o=>
 wpList_plain rfl λK u=>by
  unfold Oper.wp;have e:(execOp a.eval ⟨none,.call { callee:=.builtin .clear,args:=#[x],argTypes:=#[t] },ty,pos,aft,none⟩).run P w=.ok (.value (.tuple #[])) w':=by
   simp [execOp,resolve,invoke,builtin,o.ev hx,h ty]
  rw [e,Oper.upon_value];exact u _ _ (k _ o)
end
end Go.Wk
namespace Go.Proofs.YtebcagekopgdhaaGreatDoor
open Go.RowKit Pl Go.Wk
attribute [local irreducible] WC WL QX WD WDB WP
variable {ps q:List Pr}{base c k n:Nat}{A:Option Addr}{w:World}
def EqF(w:World)(row:Option Nat)(fid:FuncId)(first cap:Array Value)(M:List Pr): Prop :=
 ∀ w',w.grownBy w' row->∀ p q,p∈M->q∈M->Ret Tryz.prog fid (first.toList++[p.1,q.1]++cap.toList) w' λr w''=>r=.bool (decide (p.2=q.2))/\Ext w' w''
theorem Qqj{l:List Row}(h:l.length<2): ddF l=l:=by
 match l with
 | []=>rfl
 | [a]=>rfl
 | _::_::_=>exact absurd h (by simp)
theorem Qy{α:Type}(z:α){l:List α}(h:k<l.length): l.take (k+1)=l.take k++[l.getD k z]:=by
 rw [List.take_add_one,List.getElem?_eq_getElem h,Jp z l h];rfl
theorem Dat.take(hq:q.length=n)(h1:∀ p∈q,p.1.oneCell'=true)(hk:k<=n)(h:w.ownsRow base 37 1 (.slice A k c) k ((q.map (·.1)).take k)): Dat w base (.slice A k c) (q.take k):=by
 refine ⟨?_,λp o=>h1 p (List.mem_of_mem_take o)⟩;rw [List.length_take,hq,Nat.min_eq_left hk,List.map_take];exact h
theorem Qrb{fid:FuncId}{first cap:Array Value}(hD:Dat w base (.slice A n c) ps)(hn:ps.length=n)(hmx:n<=1100000)(hnc:n<=c)(hC:EqF w (Value.slice A n c).ownBlock fid first cap ps):
  Ret Tryz.prog 123 [.slice A n c,.func (.func fid) first cap] w λv w'=>∃ ps':List Pr,v=.slice A ps'.length c/\Dat w' base (.slice A ps'.length c) ps'/\ps'.map (·.2)=ddF (ps.map (·.2))/\(∀ p∈ps',p∈ps)/\w.grownBy w' (Value.slice A n c).ownBlock:=by
 refine Jz Tryz.func123 Tryz.ntmps123 rfl kr rfl ?_;obtain ⟨ls,C⟩:∃ ls:List Row,ls=ps.map (·.2):=⟨_,rfl⟩
 have ar:ls.length=n:=by rw [C];simpa using hn
 have u:∀ i,ls.getD i []=(ps.getD i z0).2:=λi=>by rw [C];exact Jxg
 refine ρ ?_;refine ci (λh=>?_) (λh=>?_)
 .refine ρ ?_;refine Jj ⟨ps,by rw [hn],by rw [hn];exact hD,?_,λp U=>U,Zg (Ext.refl w) _⟩;rw [<-C,Qqj];have:=oT h;omega
 have h2:2<=n:=by have:=oF h;omega
 clear h;refine ρ ?_;refine Qd (fun (j:Nat)=>[(0,.slice A n c),(1,.func (.func fid) first cap),(5,.int .i64 (j:Int))]) (λj w'=>Ext w w'/\1<=j/\j<=n/\ddF (ls.take j)=ls.take j) (λj=>n-j) 1 sB ⟨Ext.refl w,om,om,Qqj (by rw [List.length_take];omega)⟩ ?_;rintro j w1 ⟨hx,av,hj,hI⟩;refine ρ ?_;refine ci (λh=>?_) (λh=>?_);rotate_left
 .have e:j=n:=by have:=oF h;omega
  refine ρ ?_;refine Jj ⟨ps,by rw [hn],by rw [hn];exact hD.ext hx,?_,λp U=>U,Zg hx _⟩;rw [<-C];rw [e,List.take_of_length_le om]at hI;exact hI.symm
 have lj:j<n:=by have:=oT h;omega
 have a5:j-1<n:=om
 clear h;refine ρ ?_;refine dr [(0,0),(0,1),(0,2),(0,3),(0,4),(0,5),(0,6),(0,7),(0,8),(0,9),(1,10)] kr ?_;have a7:Ext w w1.drew:=hx.drew;have a2:=hD.ext a7;refine ρd ?_;refine dix j (a2.rd hn) lj ?_;refine ρd ?_;refine dld (a2.cell hn lj) ?_;refine ρd ?_;refine dix (j-1) (a2.rd hn) a5 ?_;refine ρd ?_;refine dld (a2.cell hn a5) ?_;refine ρd ?_;refine Vz (hC _ (Zg a7 _) (ps.getD j z0) (ps.getD (j-1) z0) (Vg hn lj) (Vg hn a5)) ?_;rintro r w2 ⟨rfl,ad⟩;refine ⟨ad,?_⟩;have a6:=a7.trans ad;refine ρd ?_;refine ρ ?_;have o:=Qqg (l:=ls) (k:=j) om;rw [u,u]at o;refine ci (λh=>?_) (λh=>?_);rotate_left
 .have a8:=oF h;refine ρ ?_;refine Qw (j+1) sO ⟨a6,om,om,?_⟩ om;rw [o,if_neg (λe=>a8 e.2.symm),hI,Qy [] om,u]
 have aa:=oT h;clear h;rw [if_pos ⟨om,aa.symm⟩,hI]at o;have ap:=hD.ext a6;refine ρ ?_;refine sll j ?_;refine ρ ?_;refine Xt (fun (k m:Nat) (q:List Pr)=>[(0,.slice A n c),(1,.func (.func fid) first cap),(5,.int .i64 (k:Int)),(6,.slice (if c=j then A else A.map (·.add (j*1))) (n-j) (c-j)),(7,.int .i64 ((m:Int)-(j:Int)))])
  (λk m q w'=>Dat w' base (.slice A n c) q/\q.length=n/\w.grownBy w' (Value.slice A n c).ownBlock/\j<m/\m<=n/\k<m/\(∀ i,k<=i->q.getD i z0=ps.getD i z0)/\(q.take k).map (·.2)=ddF (ls.take m)/\∀ p∈q,p∈ps) (λ_ m _=>n-m) j (j+1) ps sO
  ⟨ap,hn,Zg a6 _,om,om,om,λ_ _=>rfl,by rw [List.map_take,<-C];exact o.symm,λp U=>U⟩ ?_
 rintro k m q w3 ⟨ab,hq,ah,au,hm,hk,Z,a9,G⟩;refine ρ ?_;refine ci (λh=>?_) (λh=>?_)
 .have ae:m<n:=by have:=oT h;omega
  have lm:m-j<n-j:=om
  have ak:m-j-1<n-j:=om
  clear h;refine ρ ?_;refine dr [(0,0),(0,1),(0,2),(0,3),(0,4),(0,5),(0,6),(0,7),(0,8),(0,9),(1,10),(0,11)] kr ?_;have ac:Ext w3 w3.drew:=(Ext.refl w3).drew;have aj:=ab.ext ac;have ag:=Zc ah (Zg ac _);have J:=(aj.rd hq).drop (k:=j) (c:=c) om hnc;have c1:((q.map (·.1)).drop (j*1))[m-j]?=some (ps.getD m z0).1:=by
   rw [List.getElem?_drop,show j*1+(m-j)=m by omega,Ia om,Z m om]
  have c2:((q.map (·.1)).drop (j*1))[m-j-1]?=some (ps.getD (m-1) z0).1:=by
   rw [List.getElem?_drop,show j*1+(m-j-1)=m-1 by omega,Ia om,Z (m-1) om]
  refine ρd ?_;refine dix (m-j) J lm ?_;refine ρd ?_;refine dld (J.cell c1) ?_;refine ρd ?_;refine dix (m-j-1) J ak ?_;refine ρd ?_;refine dld (J.cell c2) ?_;refine ρd ?_;refine Vz (hC _ ag (ps.getD m z0) (ps.getD (m-1) z0) (Vg hn ae) (Vg hn om)) ?_;rintro r w7 ⟨rfl,O⟩;refine ⟨O,?_⟩;have a1:=aj.ext O;have af:=Zc ag (Zg O _);have ai:=J.ext O;refine ρd ?_;refine ρ ?_;have o:=Qqg (l:=ls) (k:=m) om;rw [u,u]at o;refine ci (λh=>?_) (λh=>?_)
  .have a8:(ps.getD m z0).2≠(ps.getD (m-1) z0).2:=by simpa using h
   have lk:k<n:=om
   have aq:(q.take k).length=k:=by rw [List.length_take];omega
   refine ρ ?_;refine ix (m-j) ai lm ?_;refine ρ ?_;refine ld (ai.cell c1) ?_;refine ρ ?_;refine ix k (a1.rd hq) lk ?_;refine ρ ?_;obtain ⟨s1,s2,s3⟩:=a1.store hq lk (p:=ps.getD m z0) (hD.one om);refine sto (a1.cell hq lk) s1 ?_ (hv:=hD.one om);refine ρ ?_;refine Xj (k+1) (m+1) (q.set k (ps.getD m z0)) sO ⟨s2,by simpa using hq,Zc af s3,om,om,om,λi hi=>?_,?_,λp U=>?_⟩ om
   .rw [Jxm z0 _ _ _ _ om,if_neg om];exact Z i om
   .rw [o,if_neg (λe=>a8 e.2.symm),<-a9,Qy z0 (by simp;omega),Jxm z0 _ _ _ _ om,if_pos rfl,List.take_set_of_le (Nat.le_refl _),List.map_append];rfl
   .rcases List.mem_or_eq_of_mem_set U with h'|h'
    .exact G p h'
    .rw [h'];exact Vg hn ae
  .have aa:(ps.getD m z0).2=(ps.getD (m-1) z0).2:=by simpa using h
   refine ρ ?_;refine Xj k (m+1) q sO ⟨a1,hq,af,om,om,om,Z,?_,G⟩ om;rw [o,if_pos ⟨om,aa.symm⟩,a9]
 .have e:m=n:=by have:=oF h;omega
  subst e;have a4:=ab.1;rw [hq]at a4;obtain ⟨w8,am,an,ao⟩:=Qfz (P:=Tryz.prog) (k:=k) ER rfl rfl a4 om 0;refine ρ ?_;refine sll k ?_;refine ρ ?_;refine clr (w':=w8) (λty=>am) ?_;refine ρ ?_;refine slh k ?_;refine ρ ?_;have a3:(q.take k).length=k:=by rw [List.length_take];omega
  refine Jj ⟨q.take k,by rw [a3],by rw [a3];exact Dat.take hq ab.2 om an,?_,λp U=>G p (List.mem_of_mem_take U),Zc ah ao⟩;rw [a9,List.take_of_length_le om,C]
open Go.RowKit Pl Go.Wk
variable {ar z:Int}{c n:Nat}{A:Option Addr}{r:Row}{sv v:Value}{w:World}
def Qa(v:V): Bool:=if v.kind=1 then (v.bytes == []) else if v.kind=2 then decide (v.num=0) && decide (v.bytes.length<=24) else false
theorem Jzl(v:V): v.str.size=v.bytes.length:=(Array.length_toList (xs:=v.str.data)).symm
theorem Qbh(v:V): (v.str.toList == (⟨#[]⟩:ByteArray).toList)=(v.bytes == []):=by rw [ByteArray.toList_eq,ByteArray.toList_eq];rfl
theorem Jmf(v:V)(w:World): Ret Tryz.prog 157 [v.val] w λr w'=>r=.bool (Qa v)/\Ext w w':=by
 refine Jz Tryz.func157 Tryz.ntmps157 rfl kr rfl ?_;refine ρ ?_;refine bx (cs:=v.cells) ?_;intro J b o O u;refine ρ ?_;refine ld (u.at (i:=0) rfl) ?_;refine ρ ?_;refine ci (λh=>?_) (λh=>?_)
 .refine ρ ?_;refine ld (u.at (i:=2) rfl) ?_;refine ρ ?_;refine Jj ⟨?_,o⟩;rw [Qa,if_pos (Xl h),Qbh]
 refine ρ ?_;refine ci (λC=>?_) (λC=>?_)
 .refine ρ ?_;refine ld (u.at (i:=1) rfl) ?_;refine ρ ?_;refine ki 15 (λG=>?_) (λG=>?_)
  .refine ρ ?_;refine ld (u.at (i:=2) rfl) ?_;refine ρ ?_;refine Jj ⟨?_,o⟩;rw [Qa,if_neg (Xm h),if_pos (Xl C),decide_eq_true (Xl G),Jzl,Bool.true_and];congr 1
   exact decide_eq_decide.2 om
  .refine ρ ?_;refine Jj ⟨?_,o⟩;rw [Qa,if_neg (Xm h),if_pos (Xl C),decide_eq_false (Xm G)];rfl
 .refine ρ ?_;refine Jj ⟨?_,o⟩;rw [Qa,if_neg (Xm h),if_neg (Xm C)]
theorem Qcm(h:RowV w v r): Ret Tryz.prog 119 [v] w λu w'=>u=.bool (r.all Qa)/\Ext w w':=by
 obtain ⟨A,c,rfl,h2,h3,Z⟩:=h;refine Jz Tryz.func119 Tryz.ntmps119 rfl kr rfl ?_;refine ρ ?_;refine Qd (fun (k:Nat)=>[(0,.slice A r.length c),(5,.int .i64 (r.length:Int)),(6,.int .i64 (k:Int))]) (λk w'=>Ext w w'/\k<=r.length/\(r.take k).all Qa=true) (λk=>r.length-k) 0 sB ⟨Ext.refl w,Nat.zero_le _,rfl⟩ ?_;rintro k w1 ⟨G,hk,J⟩;refine ρ ?_;refine ci (λh=>?_) (λh=>?_)
 .have lk:k<r.length:=by have:=oT h;omega
  have C:=Z.ext G;refine ρ ?_;refine ixq 3 k C lk ?_;refine ρ ?_;refine lds (λj u U=>RdR.cell C lk U) ?_;refine ρ ?_;refine cl (Jmf (r.getD k V0) _) ?_;rintro u w2 ⟨rfl,o⟩;refine ρ ?_;refine ci (λh=>?_) (λh=>?_)
  .refine ρ ?_;refine Jj ⟨?_,G.trans o⟩;have O:Qa (r.getD k V0)=false:=by simpa using h
   congr 1
   symm
   rw [List.all_eq_false];exact ⟨_,Qmz lk,by rw [O];decide⟩
  .refine ρ ?_;have O:Qa (r.getD k V0)=true:=by simpa using h
   refine Qw (k+1) sO ⟨G.trans o,om,?_⟩ om;rw [Qy V0 lk,List.all_append,J,List.all_cons,O];rfl
 .refine ρ ?_;refine Jj ⟨?_,G⟩;rw [List.take_of_length_le (by have:=oF h;omega)]at J;rw [J]
def RelV(w:World)(v:Value)(ar:Nat)(ls:List Row): Prop:=∃ rv,v=.agg #[.int .i64 (ar:Int),rv]/\RowsV w rv ls
theorem RelV.ext{w w':World}{v:Value}{ar:Nat}{ls:List Row}(h:RelV w v ar ls)(hx:Ext w w'): RelV w' v ar ls:=by
 obtain ⟨o,e,h⟩:=h;exact ⟨o,e,h.ext hx⟩
theorem Ux: Qu Tryz.prog 95=some (.agg #[.int .i64 0,.slice none 0 0]):=kr
theorem Jbc(w:World): (Instr.build 95 #[]).run Tryz.prog w=.ok (.agg #[.int .i64 0,.slice none 0 0]) w:=kr
theorem Xjc(z:Int)(w:World): (Instr.build 95 #[(0,.int .i64 z)]).run Tryz.prog w=.ok (.agg #[.int .i64 z,.slice none 0 0]) w:=kr
theorem Qtz(z:Int)(A:Option Addr)(n c:Nat)(w:World): (Instr.build 95 #[(0,.int .i64 z),(1,.slice A n c)]).run Tryz.prog w=.ok (.agg #[.int .i64 z,.slice A n c]) w:=kr
theorem Vp: ∀ u∈[Value.int .i64 z,.slice A n c],u.oneCell'=true:=by
 intro u o;simp at o;rcases o with rfl|rfl<;>rfl
theorem Qcw(z:Int)(w:World): Ret Tryz.prog 75 [.int .i64 z] w λv w'=>Ext w w'/\∃ z' e,v=.tuple #[.agg #[.int .i64 z',.slice none 0 0],.int .i64 e]/\(e=0->z'=z)/\(e=0↔0<=z/\z<=32):=by
 refine Jz Tryz.func75 Tryz.ntmps75 rfl kr rfl ?_;refine ρ ?_;refine alc Ux ?_;intro U b C G J;refine ρ ?_;refine Vl (fun (t:Bool)=>[(0,.int .i64 z),(2,.pointer (some ⟨b,0,none⟩)),(9,.bool t)]) (λt w'=>w'=U/\(t=true↔¬ (0<=z/\z<=32))) ?_ ?_
 .refine ki 6 (λh=>?_) (λh=>?_)
  .refine ρ ?_;exact Jb true sB ⟨rfl,by have:=oT h;simp;omega⟩
  .refine ρ ?_;refine Jb _ sB ⟨rfl,?_⟩;have:=oF h;rw [decide_eq_true_iff];omega
 rintro t w' ⟨rfl,ht⟩;refine ci (λh=>?_) (λh=>?_)
 .refine ρ ?_;refine bld (Jbc _) ?_;refine ρ ?_;refine stb J ?_ Vp;intro O u _ o;refine ρ ?_;exact Zf u ⟨o w C G,0,3,rfl,λe=>(by cases e),⟨λe=>(by cases e),λe=>absurd e (ht.1 h)⟩⟩
 .refine ρ ?_;refine bld (Xjc z _) ?_;refine ρ ?_;refine stb J ?_ (Vp (z:=z) (A:=none) (n:=0) (c:=0));intro O u _ o;refine ρ ?_;refine Zf u ⟨o w C G,z,0,rfl,λ_=>rfl,⟨λ_=>?_,λ_=>rfl⟩⟩;by_cases hz:0<=z/\z<=32
  .exact hz
  .rw [ht.2 hz]at h;cases h
theorem Xqg(hs:sv=.slice A n c)(h:RowV w v r): Ret Tryz.prog 76 [.agg #[.int .i64 ar,sv],v] w λu w'=>Ext w w'/\∃ e,u=.int .i64 e/\(e=0↔(r.length:Int)=ar/\r.all Qa=true):=by
 subst hs;obtain ⟨B,c',rfl,G,h3,hr⟩:=id h;refine Jz Tryz.func76 Tryz.ntmps76 rfl kr rfl ?_;refine ρ ?_;refine bx ?_;intro w1 b o hb J;refine ρ ?_;refine ld (J.at (i:=0) rfl) ?_;refine ρ ?_;refine ci (λh=>?_) (λO=>?_)
 .refine ρ ?_;exact Jj ⟨o,6,rfl,⟨λe=>(by cases e),λe=>absurd e.1 (Gu h)⟩⟩
 have U:=Kj O;refine ρ ?_;refine cl (Qcm (h.ext o)) ?_;rintro u Z ⟨rfl,C⟩;refine ρ ?_;refine ci (λh=>?_) (λG=>?_)
 .refine ρ ?_;refine Jj ⟨o.trans C,4,rfl,⟨λe=>(by cases e),λe=>?_⟩⟩;rw [e.2]at h;cases h
 .refine ρ ?_;refine Jj ⟨o.trans C,0,rfl,⟨λ_=>⟨U,by simpa using G⟩,λ_=>rfl⟩⟩
open Go.RowKit Pl Go.Wk
variable {ps:List Pr}{ar base c n:Nat}{N:Nat->Prop}{A:Option Addr}{row:Option Nat}{w:World}
theorem RowX.off{v:Value}{r:Row}(h:RowX w N v r): Off N w (λu=>RowV u v r):=by
 obtain ⟨A,c,U,O,J,G,C⟩:=h;intro w' o;refine ⟨A,c,U,O,J,Vv G o λh0 ad e=>C (λZ=>?_) ad e⟩;subst Z;simp [Jd]at h0
theorem Qxp(h:∀ p∈ps,Off (one row) w (λu=>RowV u p.1 p.2)): CF w row 121 #[] #[] ps []:=λw' o p q G C=>
 Jpl (h p G w' (GrN.by o λk e=>e)) (h q C w' (GrN.by o λk e=>e))
theorem eqRow(h:∀ p∈ps,Off (one row) w (λu=>RowV u p.1 p.2)): EqF w row 124 #[] #[] ps:=λw' o p q G C=>
 Jpk (h p G w' (GrN.by o λk e=>e)) (h q C w' (GrN.by o λk e=>e))
theorem ownB(A:Option Addr)(n c m d:Nat): (Value.slice A n c).ownBlock=(Value.slice A m d).ownBlock:=by cases A<;>rfl
theorem Qcl(hD:Dat w base (.slice A n c) ps)(hn:ps.length=n)(hmx:n<=1100000)(hnc:n<=c)(hN:∀ k,(Value.slice A n c).ownBlock=some k->¬ N k)(hr:∀ p∈ps,Off N w (λu=>RowV u p.1 p.2)): Off N w (λu=>RowsV u (.slice A n c) (ps.map (·.2))):=by
 intro w' o;refine ⟨ps,A,c,rfl,by rw [hn],om,om,?_,λp C=>hr p C w' o⟩;rw [hn];refine Vv (hD.rd hn) o λ_ G e=>?_;subst e;exact hN _ rfl
def Qkx(N:Nat->Prop)(w:World)(v:Value)(ls:List Row): Prop:=∃ (ps:List Pr) (A:Option Addr) (c:Nat),ls=ps.map (·.2)/\v=.slice A ps.length c/\ps.length<=c/\ps.length<=1100000/\Off N w (λu=>Rd u 1 A ps.length (ps.map (·.1)))/\∀ p∈ps,Off N w (λu=>RowV u p.1 p.2)
theorem rowsP(hD:Dat w base (.slice A n c) ps)(hn:ps.length=n)(hmx:n<=1100000)(hnc:n<=c)(hN:∀ k,(Value.slice A n c).ownBlock=some k->¬ N k)(hr:∀ p∈ps,Off N w (λu=>RowV u p.1 p.2)): Qkx N w (.slice A n c) (ps.map (·.2)):=by
 refine ⟨ps,A,c,rfl,by rw [hn],om,om,λw' o=>?_,hr⟩;rw [hn];refine Vv (hD.rd hn) o λ_ C e=>?_;subst e;exact hN _ rfl
theorem Qxv(hD:Dat w base (.slice A n c) ps)(hn:ps.length=n)(hmx:n<=1100000)(hnc:n<=c)(hr:∀ p∈ps,Off (one (Value.slice A n c).ownBlock) w (λu=>RowV u p.1 p.2)):
  Ret Tryz.prog 77 [.int .i64 (ar:Int),.slice A n c] w λv w'=>w.grownBy w' (Value.slice A n c).ownBlock/\∃ rv e,v=.tuple #[rv,.int .i64 e]/\(∃ z B m d,rv=.agg #[.int .i64 z,.slice B m d])/\(n<=65536->e=0) /\
   (e=0->∃ m,Off (λk=>k<w.heap.size/\(Value.slice A n c).ownBlock≠some k) w' (λu=>RelV u rv ar m)/\m.length<=65536/\(∀ x∈m,x∈ps.map (·.2))/\((n<=1000∨Srt [] (ps.map (·.2)))->Zz [] (ps.map (·.2)) m)):=by
 refine Jz Tryz.func77 Tryz.ntmps77 rfl kr rfl ?_;refine ρ ?_;refine alc Ux ?_;intro w1 b a1 hb hB;have av:=hD.ext a1;have ae:∀ p∈ps,Off (one (Value.slice A n c).ownBlock) w1 (λu=>RowV u p.1 p.2):=λp J=>(hr p J).ext a1;obtain ⟨own,C⟩:∃ own,own=(Value.slice A n c).ownBlock:=⟨_,rfl⟩;have a8:∀ k,own=some k->k<w.heap.size:=λk e=>by
  obtain ⟨_,_,_,_,hf⟩:=Jv hD.1;exact (hf k (by rw [<-e,C])).2
 refine ρ ?_;refine cl (Qmd (av.rd hn) hn hmx (Qxp ae)) ?_;rintro v w2 ⟨a6,t,rfl,ht⟩;refine ρ ?_;refine Xa (fun (q:List Pr)=>[(0,.int .i64 (ar:Int)),(1,.slice A n c),(4,.pointer (some ⟨b,0,none⟩))]) (λq w'=>DP w1 w' base A n c ps q/\Blk w' b 95 [.int .i64 0,.slice none 0 0]/\((n<=1000∨Srt [] (ps.map (·.2)))->Srt [] (q.map (·.2)))) ?_ ?_
 .have H2:=(DP.start av hn).ext a6;refine ci (λh=>?_) (λh=>?_)
  .have ax:¬ SOn z0 (fP []) ps 0 n:=λe=>by have:=ht.2 e;rw [this]at h;cases h
   refine ρ ?_;refine cl (Qbr H2.d H2.l hmx ((Qxp ae).step H2)) ?_;rintro v w3 ⟨q,H3,hs⟩;refine ρ ?_;refine Jb q sB ⟨H2.after H3,(hB.ext a6).grown H3.g ((hB.ext a6).ne_own H2.d.1 rfl),λe=>?_⟩;rcases e with e|e
   .exact Jnh (by rw [H3.l];exact hs e)
   .exfalso
    apply ax
    intro i j _ b2 hj;have e':=(List.pairwise_map.1 e);rw [List.pairwise_iff_getElem]at e';have:=e' i j om om b2;unfold fP;rw [Jp z0 ps om,Jp z0 ps om];exact this
  .have ay:t=true:=by simpa using h
   refine ρ ?_;exact Jb ps sB ⟨H2,hB.ext a6,λ_=>Jnh (by rw [hn];exact ht.1 ay)⟩
 rintro q w3 ⟨H3,aw,b1⟩;have an:∀ p∈q,Off (one (Value.slice A n c).ownBlock) w3 (λu=>RowV u p.1 p.2):=λp J=>(ae p (H3.p.mem_iff.1 J)).grown H3.g λk e=>e;refine ρ ?_;refine cl (Qrb H3.d H3.l hmx hnc (eqRow an)) ?_;rintro v w4 ⟨o,rfl,au,a9,ab,ah⟩;have ba:o.length<=n:=by
  have:=Jkw (q.map (·.2))
  rw [<-a9,List.length_map,List.length_map,H3.l]at this;exact this
 have ai:=aw.grown ah (aw.ne_own H3.d.1 rfl);have am:∀ p∈o,Off (one own) w4 (λu=>RowV u p.1 p.2):=λp J=>by rw [C];exact (an p (ab p J)).grown ah λk e=>e
 have a3:w1.grownBy w4 own:=by rw [C];exact Zc H3.g ah
 have aj:((n<=1000∨Srt [] (ps.map (·.2)))->Zz [] (ps.map (·.2)) (o.map (·.2))):=λe=>by
  have h1:=Qqh (b1 e);rw [<-a9]at h1;exact ⟨h1.1,λx=>(h1.2 x).trans ((H3.p.map (·.2)).mem_iff)⟩
 generalize hm:o.length=m at *
 refine ρ ?_;refine ci (λh=>?_) (λh=>?_)
 .have b6:65536<m:=by have:=oT h;omega
  refine ρ ?_;refine bld (Jbc _) ?_;refine ρ ?_;refine stb ai ?_ Vp;intro w5 a5 G b8;refine ρ ?_;refine Zf a5 ⟨?_,_,11,rfl,⟨0,none,0,0,rfl⟩,λe=>(by omega),λe=>(by cases e)⟩;have g1:=Zc (Zg a1 own) a3;rw [<-C];exact ⟨G.os.trans g1.os,G.tape.trans g1.tape,G.output.trans g1.output,Nat.le_trans g1.size G.size,λk hk hn=>(G.block k (nM hk g1.size) (λe=>by injection e with e;omega)).trans (g1.block k hk hn)⟩
 have b9:m<=65536:=by have:=oF h;omega
 clear h;obtain ⟨N',a4⟩:∃ N':Nat->Prop,N'=λk=>k<w1.heap.size∨own=some k:=⟨_,rfl⟩;have ag:(Value.slice A m c).ownBlock=own:=by rw [C];exact ownB _ _ _ _ _
 refine ρ ?_;refine Ja (fun (k:Nat) (qs:List Pr)=>[(0,.int .i64 (ar:Int)),(1,.slice A m c),(4,.pointer (some ⟨b,0,none⟩)),(19,.int .i64 (m:Int)),(20,.int .i64 (k:Int))])
  (λk qs w'=>k<=m/\qs.length=k/\qs.map (·.2)=(o.take k).map (·.2)/\Dat w' base (.slice A m c) (qs++o.drop k)/\(∀ p∈qs,Off N' w' (λu=>RowV u p.1 p.2))/\(∀ p∈o,Off (one own) w' (λu=>RowV u p.1 p.2))/\Blk w' b 95 [.int .i64 0,.slice none 0 0]/\w1.grownBy w' own) (λk _=>m-k) 0 [] sB
  ⟨Nat.zero_le _,rfl,rfl,by simpa using au,λp J=>(by cases J),am,ai,a3⟩ ?_
 clear au am ai a3;rintro k qs w5 ⟨hk,af,a7,Z,ac,ak,a5,G⟩;refine ρ ?_;have O:(qs++o.drop k).length=m:=by simp;omega
 refine ci (λh=>?_) (λh=>?_)
 .have lk:k<m:=by have:=oT h;omega
  have aq:(qs++o.drop k).getD k z0=o.getD k z0:=by
   simp only [List.getD];rw [List.getElem?_append_right om,af,Nat.sub_self,List.getElem?_drop,Nat.add_zero]
  have ap:o.getD k z0∈o:=Vg hm lk;refine ρ ?_;refine ix k (Z.rd O) lk ?_;refine ρ ?_;refine ld (Z.cell O lk) ?_;rw [aq];refine ρ ?_;refine cl (Jxt (ak _ ap).here N' (λj hj=>?_)) ?_
  .subst a4;rcases hj with h'|h'
   .exact nM h' G.size
   .exact nM (a8 j h') (nL a1.size G.size)
  rintro v6 w6 ⟨ad,a2⟩;have aa:=Z.ext a2;obtain ⟨s1,s2,s3⟩:=aa.store O lk (p:=(v6,(o.getD k z0).2)) ad.v.one;refine ρ ?_;refine ix k (aa.rd O) lk ?_;refine ρ ?_;refine sto (aa.cell O lk) s1 ?_ (hv:=ad.v.one);refine ρ ?_;have e:(qs++o.drop k).set k (v6,(o.getD k z0).2)=(qs++[(v6,(o.getD k z0).2)])++o.drop (k+1):=by
   rw [List.set_append_right _ _ om,af,Nat.sub_self,List.drop_eq_getElem_cons om,List.set_cons_zero,List.append_assoc];rfl
  rw [e]at s2;rw [ag]at s3;refine Jl (k+1) (qs++[(v6,(o.getD k z0).2)]) sO ⟨om,by simp [af],?_,s2,λp J=>?_,λp J=>?_,?_,?_⟩ om
  .rw [List.map_append,a7,Qy z0 om,List.map_append];rfl
  .rcases List.mem_append.1 J with h'|h'
   .exact ((ac p h').ext a2).grown s3 (λk e=>by rw [a4];exact .inr e)
   .rw [List.mem_singleton.1 h'];exact ad.off.grown s3 (λk e=>by rw [a4];exact .inr e)
  .exact ((ak p J).ext a2).grown s3 (λk e=>e)
  .have h7:=a5.ext a2;refine h7.grown s3 ?_;have:=h7.ne_own aa.1 rfl;rwa [ag]at this
  .exact Zc G (Zc (Zg a2 _) s3)
 .have e:k=m:=by have:=oF h;omega
  subst e;rw [List.drop_of_length_le om,List.append_nil]at Z O;rw [List.take_of_length_le om]at a7;refine ρ ?_;refine bld (Qtz (ar:Int) A k c _) ?_;refine ρ ?_;refine stb a5 ?_ (Vp (z:=(ar:Int)) (A:=A) (n:=k) (c:=c));intro w7 b5 U b7;refine ρ ?_;have b3:N' b:=by rw [a4];exact .inl hB.lt
  have b4:Dat w7 base (.slice A k c) qs:=⟨Z.1.kept U (.inr (λe=>a5.ne_own Z.1 rfl e.symm)),Z.2⟩;have ao:=Qcl (N:=λj=>j<w.heap.size/\own≠some j) b4 O om om (λj ej hj=>hj.2 (by rw [<-ej,ag])) (λp J=>((ac p J).grown U (λj ej=>by injection ej with ej;rw [<-ej];exact b3)).mono λj _ hj=>by rw [a4];exact .inl (nM hj.1 a1.size));refine Zf b5 ⟨?_,_,0,rfl,⟨_,_,_,_,rfl⟩,λ_=>rfl,λ_=>⟨qs.map (·.2),?_,by rw [List.length_map];omega,?_,?_⟩⟩
  .have g1:=Zc (Zg a1 own) G;rw [<-C];exact ⟨U.os.trans g1.os,U.tape.trans g1.tape,U.output.trans g1.output,Nat.le_trans g1.size U.size,λj hj hn=>(U.block j (nM hj g1.size) (λe=>by injection e with e;omega)).trans (g1.block j hj hn)⟩
  .rw [<-C];exact ao.imp λu hu=>⟨_,rfl,hu⟩
  .intro x hx;rw [a7,a9]at hx;have:x∈q.map (·.2):=by
    obtain ⟨p,J,rfl⟩:=List.mem_map.1 (a9 ▸ hx);exact List.mem_map.2 ⟨p,ab p J,rfl⟩
   exact (H3.p.map (·.2)).mem_iff.1 this
  .intro e;rw [a7];exact aj e
open Go.RowKit Pl Go.Wk
variable {ar b c n:Nat}{a w w':World}
theorem Qxz(w:World): (Instr.buildSlice 54 0 #[]).run Tryz.prog w=.ok (.slice (some ⟨w.heap.size,0,none⟩) 0 0) (w.alloc (.cells [].toArray 37)):=kr
theorem Qrs{A:Option Addr}{ps:List Pr}(hR:Rd w 1 A n (ps.map (·.1)))(hn:ps.length=n)(hmx:n<=1100000)(h1:∀ p∈ps,p.1.oneCell'=true):
  Ret Tryz.prog 78 [.slice A n c] w λv' w'=>Ext w w'/\∃ B d,v'=.slice B n d/\n<=d/\Dat w' w.heap.size (.slice B n d) ps:=by
 refine Jz Tryz.func78 Tryz.ntmps78 rfl kr rfl ?_;refine ρ ?_;refine Il ?_;refine ρ ?_;refine ci (λh=>?_) (λh=>?_)
 .have hA:A=none:=by simpa using h
  subst hA;have U:n=0:=by
   rcases Nat.eq_zero_or_pos n with h0|h0
   .exact h0
   .obtain ⟨ad,h2,_⟩:=hR.isome h0 om;cases h2
  subst U;obtain rfl:=List.eq_nil_of_length_eq_zero hn;refine ρ ?_;exact Jj ⟨Ext.refl w,none,0,rfl,Nat.le_refl _,⟨Xo _ _ _ _,λp O=>by cases O⟩⟩
 .refine ρ ?_;refine bsl Qxz ?_;intro w1 b C a1 Z;refine ρ ?_;refine apo C ER (Z.own (n:=0) a1 rfl (Nat.zero_le _)) (hR.ext C) (λu hu=>by obtain ⟨p,O,rfl⟩:=List.mem_map.1 hu;exact h1 p O) (by unfold maxLen;omega) om ?_;intro v2 w2 o J _ _;obtain ⟨A2,c2,rfl,G,hf⟩:=Jv o;refine ρ ?_;rw [Nat.zero_add]at o G ⊢;refine Jj ⟨J,A2,c2,rfl,G,⟨?_,h1⟩⟩;rw [hn];exact o
theorem Jyl(hx:Ext a w)(hg:w.grownBy w' (some b))(hb:a.heap.size<=b): Ext a w':=Qb hx hg λk e=>by injection e with e;omega
theorem Jvl{v:Value}{ls:List Row}(h:RowsV w v ls):
  Ret Tryz.prog 46 [.int .i64 (ar:Int),v] w λu w'=>Ext w w'/\∃ rv e,u=.tuple #[rv,.int .i64 e]/\(∃ z B m d,rv=.agg #[.int .i64 z,.slice B m d])/\(ar<=32->(∀ r∈ls,r.length=ar/\r.all Qa=true)->ls.length<=65536->e=0) /\
   (e=0->ar<=32/\(∀ r∈ls,r.length=ar/\r.all Qa=true)/\∃ m,Off (λk=>k<w.heap.size) w' (λu=>RelV u rv ar m)/\m.length<=65536/\(∀ x∈m,x∈ls)/\((ls.length<=1000∨Srt [] ls)->Zz [] ls m)):=by
 obtain ⟨ps,A,c,rfl,rfl,b8,ag,hR,a1⟩:=h;generalize hn:ps.length=n at *
 have b7:∀ i,(ps.map (·.2)).getD i []=(ps.getD i z0).2:=λi=>Jxg
 have ae:∀ p∈ps,p.1.oneCell'=true:=λp hp=>(a1 p hp).one;refine Jz Tryz.func46 Tryz.ntmps46 rfl kr rfl ?_;refine ρ ?_;refine alc Ux ?_;intro w1 b au hb hB;refine ρ ?_;refine cl (Qcw (ar:Int) w1) ?_;rintro v2 w2 ⟨ad,z',e2,rfl,ai,C⟩;refine ρ ?_;refine alc Ux ?_;intro w3 b3 aq b1 b6;refine ρ ?_;refine stb b6 ?_ (Vp (z:=z') (A:=none) (n:=0) (c:=0));intro w4 b5 ba ap;have a6:Ext w1 w4:=ap w1 (ad.trans aq) (nL ad.size b1);have J:=au.trans a6;have ab:=hB.ext a6;refine ρ ?_;refine ci (λh=>?_) (λh=>?_)
 .have a7:=Gu h;refine ρ ?_;refine bld (Jbc _) ?_;refine ρ ?_;refine stb ab ?_ Vp;intro w5 aa b9 U;refine ρ ?_;refine Zf aa ⟨U w J hb,_,e2,rfl,⟨0,none,0,0,rfl⟩,λh1 _ _=>C.2 om,λe=>absurd e a7⟩
 have hz:=Kj h;subst hz;have b2:ar<=32:=by have:=C.1 rfl;omega
 have ak:=ai rfl;subst ak;clear h ai C;refine ρ ?_;refine Qd (fun (k:Nat)=>[(0,.int .i64 (ar:Int)),(1,.slice A n c),(4,.pointer (some ⟨b,0,none⟩)),(6,.pointer (some ⟨b3,0,none⟩)),(20,.int .i64 (n:Int)),(21,.int .i64 (k:Int))])
  (λk w'=>Ext w4 w'/\k<=n/\∀ i,i<k->(ps.getD i z0).2.length=ar/\(ps.getD i z0).2.all Qa=true) (λk=>n-k) 0 sB ⟨Ext.refl _,Nat.zero_le _,λi hi=>om⟩ ?_
 rintro k w5 ⟨U,hk,hI⟩;have o:=J.trans U;refine ρ ?_;refine ci (λh=>?_) (λh=>?_)
 .have lk:k<n:=by have:=oT h;omega
  clear h;refine ρ ?_;refine dr [(0,0),(0,1),(0,2),(0,3),(0,4),(1,5),(0,6)] kr ?_;have a5:=U.drew;have aa:=b5.ext a5;have aj:=hR.ext o.drew;refine ρd ?_;refine Qz (cs:=[.int .i64 (ar:Int),.slice none 0 0]) (λj u hu=>aa.at hu) ?_;refine ρd ?_;refine dix k aj lk ?_;refine ρd ?_;refine dld (Jqm aj hn lk) ?_;refine ρd ?_;refine dcl (Xqg (A:=none) (n:=0) (c:=0) rfl ((a1 _ (Vg hn lk)).ext o.drew)) ?_;rintro u w6 ⟨O,e,rfl,C⟩;refine ⟨O,?_⟩;refine ρd ?_;refine ρ ?_;have Z:=a5.trans O;refine ci (λh=>?_) (λh=>?_)
  .have a7:=Gu h;refine ρ ?_;refine bld (Jbc _) ?_;refine ρ ?_;refine stb (ab.ext Z) ?_ Vp;intro w7 a9 a8 ao;refine ρ ?_;refine Zf a9 ⟨ao w (J.trans Z) hb,_,e,rfl,⟨0,none,0,0,rfl⟩,λ_ h2 _=>?_,λe=>absurd e a7⟩;obtain ⟨k1,k2⟩:=h2 (ps.getD k z0).2 (List.mem_map.2 ⟨_,Vg hn lk,rfl⟩);exact C.2 ⟨om,k2⟩
  .have hz:=Kj h;have am:=C.1 hz;refine ρ ?_;refine Qw (k+1) sO ⟨Z,om,λi hi=>?_⟩ om;by_cases e:i=k
   .subst e;exact ⟨om,am.2⟩
   .exact hI i om
 .have e:k=n:=by have:=oF h;omega
  subst e;refine ρ ?_;refine cl (Qrs (hR.ext o) hn ag ae) ?_;rintro u w6 ⟨O,D,d,rfl,hd,a3⟩;have G:=o.trans O;have a2:∀ j,(Value.slice D k d).ownBlock=some j->w5.heap.size<=j/\j<w6.heap.size:=by
   obtain ⟨_,_,_,_,hf⟩:=Jv a3.1;exact λj ej=>⟨(hf j ej).1,(hf j ej).2⟩
  have af:∀ p∈ps,Off (one (Value.slice D k d).ownBlock) w6 (λu=>RowV u p.1 p.2):=λp hp=>Off.old (a:=w) (λu hu=>(a1 p hp).ext hu) G (λj ej=>nL o.size (a2 j ej).1);refine ρ ?_;refine cl (Qxv (ar:=ar) a3 hn ag hd af) ?_;rintro u w7 ⟨a8,rv,e,rfl,⟨z,B,m,d',av⟩,ah,aw⟩;have ac:Ext w w7:=Qb G a8 (λj ej=>nL o.size (a2 j ej).1);have a4:=(ab.ext U).ext O;have a9:=a4.grown a8 (a4.ne_own a3.1 rfl);subst av;refine ρ ?_;refine stb a9 ?_ (Vp (z:=z) (A:=B) (n:=m) (c:=d'));intro w8 b4 ax an;refine ρ ?_;refine Zf b4 ⟨an w ac hb,_,e,rfl,⟨z,B,m,d',rfl⟩,λ_ _ h3=>ah (by rw [List.length_map,hn]at h3;exact h3),λe0=>⟨b2,λr hr=>?_,?_⟩⟩
  .obtain ⟨p,hp,rfl⟩:=List.mem_map.1 hr;obtain ⟨i,hi,rfl⟩:=List.getElem_of_mem hp;have:=hI i om;rw [Jp z0 ps hi]at this;exact this
  .obtain ⟨ms,m1,m2,m3,m4⟩:=aw e0;refine ⟨ms,?_,m2,m3,λhc=>m4 (by rw [List.length_map,hn]at hc;exact hc)⟩;have ay:b<w6.heap.size/\(Value.slice D k d).ownBlock≠some b:=⟨a4.lt,λe=>a4.ne_own a3.1 rfl e.symm⟩;refine (m1.grown ax (λj ej=>by injection ej with ej;rw [<-ej];exact ay)).mono λj _ hj=>⟨nM hj G.size,λe=>?_⟩;have:=(a2 j e).1;have:=o.size;omega
open Go.RowKit Pl Go.Wk
variable {cs:List Nat}{ls:List Row}{ar i k:Nat}{v:Value}{w:World}
theorem Jdb: ∀ (q:Row) (i:Nat) (x:V),i<q.length->Jd (q.set i x)=(Jd q).take (i*3)++x.cells++(Jd q).drop (i*3+3)
 | [],i,x,h=>by simp at h
 | v::q,0,x,_=>by
  have e:Jd (v::q)=v.cells++Jd q:=by simp [Jd]
  have e2:Jd (x::q)=x.cells++Jd q:=by simp [Jd]
  rw [List.set_cons_zero,e,e2,Nat.zero_mul,List.take_zero,List.nil_append,Nat.zero_add];congr 1
 | v::q,i+1,x,h=>by
  have ih:=Jdb q i x (by simpa using h);have e:Jd (v::q)=v.cells++Jd q:=by simp [Jd]
  have e2:Jd (v::q.set i x)=v.cells++Jd (q.set i x):=by simp [Jd]
  have hl:v.cells.length=3:=rfl;rw [List.set_cons_succ,e,e2,ih];have e3:(v.cells++Jd q).take ((i+1)*3)=v.cells++(Jd q).take (i*3):=by
   rw [List.take_append,hl,List.take_of_length_le om];congr 2;omega
  have e4:(v.cells++Jd q).drop ((i+1)*3+3)=(Jd q).drop (i*3+3):=by
   rw [List.drop_append,hl,List.drop_of_length_le om,List.nil_append];congr 1;omega
  rw [e3,e4];simp [List.append_assoc]
theorem Jcz(n:Nat): (madeCells (Value.agg #[.int .i64 0,.int .i64 0,.string ⟨#[]⟩]).cells (n*3)).toList=Jd (List.replicate n V0):=by
 apply List.ext_getElem?
 intro k;have u:(Value.agg #[.int .i64 0,.int .i64 0,.string ⟨#[]⟩]).cells = #[.int .i64 0,.int .i64 0,.string ⟨#[]⟩]:=rfl;rw [u];by_cases hk:k<n*3
 .have o:=Jdd (List.replicate n V0) (k / 3) (k % 3) (by simp;omega) om;rw [show k / 3*3+k % 3=k by omega]at o;rw [o];have e:(List.replicate n V0).getD (k / 3) V0=V0:=by
   rw [Jp V0 _ (by simp;omega)];simp
  rw [e];have C:k % 3<3:=om
  simp only [madeCells,Array.getElem?_toList,Array.getElem?_map,Array.getElem?_range,hk,if_true,Option.map_some];generalize k % 3=r at *
  have:r=0∨r=1∨r=2:=om
  rcases this with rfl|rfl|rfl<;>rfl
 .rw [List.getElem?_eq_none (by simp [madeCells];omega),List.getElem?_eq_none (by rw [Jdc];simp;omega)]
def Jt(zs:List Int): List Value:=zs.map (Value.int .i64)
def IntsV(w:World)(v:Value)(zs:List Int): Prop:=∃ A c,v=.slice A zs.length c/\zs.length<=c/\zs.length<=1100000/\Rd w 1 A zs.length (Jt zs)
theorem IntsV.ext{w w':World}{v:Value}{zs:List Int}(h:IntsV w v zs)(hx:Ext w w'): IntsV w' v zs:=by obtain ⟨A,c,G,C,u,o⟩:=h;exact ⟨A,c,G,C,u,o.ext hx⟩
theorem Jkh{zs:List Int}(h:i<zs.length): (Jt zs)[i]?=some (.int .i64 (zs.getD i 0)):=by simp [Jt,List.getD,List.getElem?_eq_getElem h]
def nz(cs:List Nat): List Int:=cs.map fun (c:Nat)=>(c:Int)
theorem Xn(h:i<cs.length): (Jt (nz cs))[i]?=some (.int .i64 (cs.getD i 0:Int)):=by simp [Jt,nz,List.getD,List.getElem?_eq_getElem h]
theorem Qq(cs:List Nat): (nz cs).length=cs.length:=by simp [nz]
def pmR(cs:List Nat)(r:Row): Row:=cs.map λc=>r.getD c V0
abbrev Zt(w:World)(base:Nat)(v:Value)(q:Row): Prop:=w.ownsRow base 47 3 v q.length (Jd q)
theorem Qm(cs:List Nat)(r:Row): (pmR cs r).length=cs.length:=by simp [pmR]
theorem Jzt{r:Row}(hk:k<cs.length): (pmR cs r).getD k V0=r.getD (cs.getD k 0) V0:=by
 rw [Jp V0 _ (by simpa [pmR] using hk),Jp 0 cs hk];simp [pmR]
theorem Jzq(h:RelV w v ar ls): Ret Tryz.prog 82 [v] w λu w'=>u=.int .i64 (ls.length:Int)/\Ext w w':=by
 obtain ⟨Z,rfl,ps,A,c,rfl,rfl,J,G,hR,C⟩:=h;refine Jz Tryz.func82 Tryz.ntmps82 rfl kr rfl ?_;refine ρ ?_;refine bx ?_;intro U b o hb O;refine ρ ?_;refine ld (O.at (i:=1) rfl) ?_;refine ρ ?_;exact Jj ⟨by rw [List.length_map],o⟩
theorem Jdg(h:RelV w v ar ls): Ret Tryz.prog 159 [v] w λu w'=>u=.int .i64 (ar:Int)/\Ext w w':=by
 obtain ⟨Z,rfl,ps,A,c,rfl,rfl,J,G,hR,C⟩:=h;refine Jz Tryz.func159 Tryz.ntmps159 rfl kr rfl ?_;refine ρ ?_;refine bx ?_;intro U b o hb O;refine ρ ?_;refine ld (O.at (i:=0) rfl) ?_;refine ρ ?_;exact Jj ⟨rfl,o⟩
theorem Jdf(h:RelV w v ar ls): Ret Tryz.prog 132 [v] w λu w'=>Ext w w'/\Qkx (λk=>k<w.heap.size) w' u ls:=by
 obtain ⟨rv,rfl,ps,A,c,rfl,rfl,ag,ae,hR,aa⟩:=h;generalize hn:ps.length=n at *
 refine Jz Tryz.func132 Tryz.ntmps132 rfl kr rfl ?_;refine ρ ?_;refine bx ?_;intro w0 b a1 hb hB;refine ρ ?_;refine ld (hB.at (i:=1) rfl) ?_;refine ρ ?_;refine mkn ER n om (by unfold maxLen;omega) ?_;intro w1 O ad a5 hO;have a7:∀ k,(Value.slice O n n).ownBlock=some k->w0.heap.size<=k/\k<w1.heap.size:=by
  obtain ⟨_,_,e,_,hf⟩:=Jv a5;exact hf
 have af:Dat w1 w0.heap.size (.slice O n n) ([]++List.replicate n (.slice none 0 0,[])):=by
  refine ⟨?_,λp Z=>?_⟩
  .rw [List.nil_append,List.length_replicate,Pr.rep];have e:(madeCells (Value.slice none 0 0).cells (n*1)).toList=List.replicate n (.slice none 0 0):=by rw [Nat.mul_one];exact Yf _ _
   rw [e]at a5;exact a5
  .rw [List.nil_append]at Z;rw [(List.mem_replicate.1 Z).2];rfl
 obtain ⟨N,hN⟩:∃ N:Nat->Prop,N=λk=>k<w0.heap.size∨(Value.slice O n n).ownBlock=some k:=⟨_,rfl⟩;refine ρ ?_;refine Ja (fun (k:Nat) (C:List Pr)=>[(1,.pointer (some ⟨b,0,none⟩)),(3,.slice O n n),(10,.int .i64 (n:Int)),(11,.int .i64 (k:Int))])
  (λk C w2=>k<=n/\C.length=k/\C.map (·.2)=(ps.take k).map (·.2)/\Ext w0 w2/\w1.heap.size<=w2.heap.size/\Dat w2 w0.heap.size (.slice O n n) (C++List.replicate (n-k) (.slice none 0 0,[]))/\(∀ p∈C,Off N w2 (λu=>RowV u p.1 p.2))) (λk _=>n-k) 0 [] sB
  ⟨Nat.zero_le _,rfl,rfl,ad,Nat.le_refl _,af,λp Z=>(by cases Z)⟩ ?_
 rintro k C w2 ⟨hk,a4,a3,J,U,a9,ab⟩;have o:=a1.trans J;refine ρ ?_;refine ci (λh=>?_) (λh=>?_)
 .have lk:k<n:=by have:=oT h;omega
  refine ρ ?_;refine ld ((hB.ext J).at (i:=1) rfl) ?_;refine ρ ?_;refine ix k (hR.ext o) lk ?_;refine ρ ?_;refine ld (Jqm (hR.ext o) hn lk) ?_;refine ρ ?_;refine cl (Jxt ((aa _ (Vg hn lk)).ext o) N (λj hj=>?_)) ?_
  .subst hN;rcases hj with h'|h'
   .exact nM h' J.size
   .exact nM (a7 j h').2 U
  rintro v3 w3 ⟨a2,G⟩;have a8:=a9.ext G;have a6:(C++List.replicate (n-k) ((.slice none 0 0,[]):Pr)).length=n:=by simp;omega
  obtain ⟨s1,s2,s3⟩:=a8.store a6 lk (p:=(v3,(ps.getD k z0).2)) a2.v.one;refine ρ ?_;refine ix k (a8.rd a6) lk ?_;refine ρ ?_;refine sto (a8.cell a6 lk) s1 ?_ (hv:=a2.v.one);refine ρ ?_;have e:(C++List.replicate (n-k) ((.slice none 0 0,[]):Pr)).set k (v3,(ps.getD k z0).2)=(C++[(v3,(ps.getD k z0).2)])++List.replicate (n-(k+1)) (.slice none 0 0,[]):=by
   rw [show n-k=(n-(k+1))+1 by omega,List.replicate_succ,List.set_append_right _ _ om,a4,Nat.sub_self,List.set_cons_zero,List.append_assoc];rfl
  rw [e]at s2;have ac:∀ j,(Value.slice O n n).ownBlock=some j->N j:=λj ej=>by rw [hN];exact .inr ej
  refine Jl (k+1) (C++[(v3,(ps.getD k z0).2)]) sO ⟨om,by simp [a4],?_,Qb (J.trans G) s3 (λj hj=>(a7 j hj).1),Nat.le_trans U (nL G.size s3.size),s2,λp Z=>?_⟩ om
  .rw [List.map_append,a3,Qy z0 om,List.map_append];rfl
  .rcases List.mem_append.1 Z with h'|h'
   .exact ((ab p h').ext G).grown s3 ac
   .rw [List.mem_singleton.1 h'];exact a2.off.grown s3 ac
 .have e:k=n:=by have:=oF h;omega
  subst e;rw [Nat.sub_self,List.replicate_zero,List.append_nil]at a9;rw [List.take_of_length_le om]at a3;refine ρ ?_;refine Jj ⟨o,?_⟩;rw [<-a3];refine rowsP a9 a4 ae (Nat.le_refl _) (λj ej hj=>?_) λp Z=>(ab p Z).mono λj _ hj=>by rw [hN];exact .inl (nM hj a1.size)
  have:=(a7 j ej).1;have:=a1.size;omega
open Go.RowKit Pl Go.Wk
variable {cs:List Nat}{v vc:Value}{w:World}
theorem Qcn{r:Row}(h:RowV w v r)(hc:IntsV w vc (nz cs))(hlt:∀ c∈cs,c<r.length): Ret Tryz.prog 202 [v,vc] w λu w'=>Ext w w'/\∃ x,u=.tuple #[x,.int .i64 0]/\Off (λk=>k<w.heap.size) w' (λy=>RowV y x (pmR cs r)):=by
 obtain ⟨A,ac,rfl,ah,ag,aa⟩:=h;obtain ⟨C,cc,rfl,ae,ab,J⟩:=hc;rw [Qq]at *;refine Jz Tryz.func202 Tryz.ntmps202 rfl kr rfl ?_;refine ρ ?_;refine Qd (fun (k:Nat)=>[(0,.slice A r.length ac),(1,.slice C cs.length cc),(10,.int .i64 (cs.length:Int)),(11,.int .i64 (k:Int))]) (λk w'=>w'=w/\k<=cs.length) (λk=>cs.length-k) 0 sB ⟨rfl,Nat.zero_le _⟩ ?_;rintro k w' ⟨rfl,hk⟩;refine ρ ?_;refine ci (λh=>?_) (λh=>?_)
 .have lk:k<cs.length:=by have:=oT h;omega
  have af:=hlt _ (getD_mem' 0 cs lk);refine ρ ?_;refine ix k J lk ?_;refine ρ ?_;refine ld (J.cell (Xn lk)) ?_;refine ρ ?_;refine kf 19 ?_ ?_
  .exact dF om
  refine ρ ?_;refine ix k J lk ?_;refine ρ ?_;refine ld (J.cell (Xn lk)) ?_;refine ρ ?_;refine cf ?_ ?_
  .exact dF om
  refine ρ ?_;exact Qw (k+1) sO ⟨rfl,om⟩ om
 refine ρ ?_;refine mkn EV cs.length om (by unfold maxLen;omega) ?_;intro w4 O a6 a4 hO;rw [Jcz]at a4;have a3:Zt w4 w'.heap.size (.slice O cs.length cs.length) ([]++List.replicate cs.length V0):=by
  rw [Zt,List.nil_append,List.length_replicate];exact a4
 refine ρ ?_;refine Qd (fun (i:Nat)=>[(0,.slice A r.length ac),(1,.slice C cs.length cc),(7,.slice O cs.length cs.length),(33,.int .i64 (cs.length:Int)),(34,.int .i64 (i:Int))])
  (λi w5=>i<=cs.length/\Ext w' w5/\Zt w5 w'.heap.size (.slice O cs.length cs.length) ((pmR cs r).take i++List.replicate (cs.length-i) V0)) (λi=>cs.length-i) 0 sB
  ⟨Nat.zero_le _,a6,a3⟩ ?_
 rintro i w5 ⟨hi,U,o⟩;have G:((pmR cs r).take i++List.replicate (cs.length-i) V0).length=cs.length:=by simp [Qm];omega
 rw [Zt,G]at o;refine ρ ?_;refine ci (λh0=>?_) (λh0=>?_)
 .have li:i<cs.length:=by have:=oT h0;omega
  have Z:=J.ext U;have a1:RdR w5 A r:=Rd.ext aa U;have lc:=hlt _ (getD_mem' 0 cs li);refine ρ ?_;refine ix i Z li ?_;refine ρ ?_;refine ld (Z.cell (Xn li)) ?_;refine ρ ?_;refine ixq 3 (cs.getD i 0) a1 lc ?_;refine ρ ?_;refine lds (λj u hu=>RdR.cell a1 lc hu) ?_;refine ρ ?_;refine ixq 3 i (Rd.own o) li ?_;refine ρ ?_;refine stoE (cs:=(r.getD (cs.getD i 0) V0).cells) o li ?_ (V.one _);intro w6 a7 a9;have a5:Ext w' w6:=Qb U a9 (λk hk=>by
   obtain ⟨_,_,e,_,hf⟩:=Jv o;exact (hf k hk).1)
  refine ρ ?_;refine Qw (i+1) sO ⟨om,a5,?_⟩ om;have e:((pmR cs r).take i++List.replicate (cs.length-i) V0).set i (r.getD (cs.getD i 0) V0)=(pmR cs r).take (i+1)++List.replicate (cs.length-(i+1)) V0:=by
   have hl:((pmR cs r).take i).length=i:=by simp [Qm];omega
   rw [List.set_append_right _ _ om,hl,Nat.sub_self,show cs.length-i=(cs.length-(i+1))+1 by omega,List.replicate_succ,List.set_cons_zero,List.take_succ_eq_append_getElem (by rw [Qm];omega),List.append_assoc];rw [<-Jzt li,Jp V0 _ (by rw [Qm];omega)];rfl
  have a2:((pmR cs r).take (i+1)++List.replicate (cs.length-(i+1)) V0).length=cs.length:=by rw [<-e];simp [Qm];omega
  rw [Zt,a2,<-e,Jdb _ _ _ (by rw [G];omega)];exact a7
 .have a8:i=cs.length:=by have:=oF h0;omega
  subst a8;rw [Nat.sub_self,List.replicate_zero,List.append_nil,List.take_of_length_le (by rw [Qm];omega)]at o;refine ρ ?_;refine Yk ⟨U,_,rfl,?_⟩;obtain ⟨_,_,_,_,hf⟩:=Jv o;intro y hg;refine ⟨O,cs.length,by rw [Qm],by rw [Qm];omega,by rw [Qm];omega,?_⟩;rw [RdR,Qm];refine Vv (Rd.own o) hg λ_ ad e=>?_;subst e;have:=(hf ad.block rfl).1;omega
theorem Jpp{ar:Nat}{ls:List Row}(h:RelV w v ar ls)(hc:IntsV w vc (nz cs))(hlen:∀ r∈ls,r.length=ar)(hlt:∀ c∈cs,c<ar)(h32:cs.length<=32)(hbig:ls.length<=65536):
  Ret Tryz.prog 186 [v,vc] w λu w'=>Ext w w'/\∃ rv,u=.tuple #[rv,.int .i64 0]/\(∃ z B m d,rv=.agg #[.int .i64 z,.slice B m d])/\∃ m,Off (λk=>k<w.heap.size) w' (λx=>RelV x rv cs.length m)/\m.length<=65536/\(∀ x∈m,x∈ls.map (pmR cs))/\((ls.length<=1000∨Srt [] (ls.map (pmR cs)))->Zz [] (ls.map (pmR cs)) m):=by
 obtain ⟨rv,rfl,ps,A,c,rfl,rfl,bf,b4,hR,ak⟩:=h;obtain ⟨C,cc,rfl,bh,bg,b7⟩:=id hc;generalize hn:ps.length=n at *
 rw [List.length_map,hn]at hbig;have af:∀ p∈ps,p.2.length=ar:=λp hp=>hlen _ (List.mem_map.2 ⟨p,hp,rfl⟩);rw [Qq]at *;refine Jz Tryz.func186 Tryz.ntmps186 rfl kr rfl ?_;refine ρ ?_;refine bx ?_;intro w1 b1 a1 bi be;refine ρ ?_;refine alc Ux ?_;intro w2 b2 aj b9 bd;have a7:=a1.trans aj;have aa:=be.ext aj;refine ρ ?_;refine cf ?_ ?_
 .exact dF om
 refine ρ ?_;refine Qd (fun (k:Nat)=>[(1,.slice C cs.length cc),(2,.pointer (some ⟨b1,0,none⟩)),(4,.pointer (some ⟨b2,0,none⟩)),(14,.int .i64 (cs.length:Int)),(15,.int .i64 (k:Int))]) (λk w'=>Ext w2 w'/\k<=cs.length) (λk=>cs.length-k) 0 sB ⟨Ext.refl _,Nat.zero_le _⟩ ?_;rintro k w3 ⟨a4,hk⟩;refine ρ ?_;refine ci (λh=>?_) (λh=>?_)
 .have lk:k<cs.length:=by have:=oT h;omega
  have ap:=hlt _ (getD_mem' 0 cs lk);clear h;refine ρ ?_;refine dr [(0,0),(0,1),(0,2),(0,3),(0,4),(0,5),(0,6),(0,7),(0,8),(0,9),(0,10),(0,11),(0,12),(0,13)] kr ?_;have ab:=a4.drew;have G:=b7.ext (a7.trans ab);refine ρd ?_;refine dix k G lk ?_;refine ρd ?_;refine dld (G.cell (Xn lk)) ?_;refine ρd ?_;refine dkf 23 ?_ ?_
  .exact dF om
  refine ρd ?_;refine dix k G lk ?_;refine ρd ?_;refine dld (G.cell (Xn lk)) ?_;refine ρd ?_;refine dld ((aa.ext ab).at (i:=0) rfl) ?_;refine ρd ?_;refine ρ ?_;refine cf ?_ ?_
  .exact dF om
  refine ρ ?_;exact Qw (k+1) sO ⟨ab,om⟩ om
 clear h hk;have U:=a7.trans a4;have a9:=aa.ext a4;refine ρ ?_;refine ld (a9.at (i:=1) rfl) ?_;refine ρ ?_;refine mkn ER n om (by unfold maxLen;omega) ?_;intro w4 O aw ae hO;have a5:∀ k,(Value.slice O n n).ownBlock=some k->w3.heap.size<=k/\k<w4.heap.size:=by
  obtain ⟨_,_,e,_,hf⟩:=Jv ae;exact hf
 have ba:Dat w4 w3.heap.size (.slice O n n) ([]++List.replicate n (.slice none 0 0,[])):=by
  refine ⟨?_,λp hp=>?_⟩
  .rw [List.nil_append,List.length_replicate,Pr.rep];have e:(madeCells (Value.slice none 0 0).cells (n*1)).toList=List.replicate n (.slice none 0 0):=by rw [Nat.mul_one];exact Yf _ _
   rw [e]at ae;exact ae
  .rw [List.nil_append]at hp;rw [(List.mem_replicate.1 hp).2];rfl
 obtain ⟨N,hN⟩:∃ N:Nat->Prop,N=λk=>k<w3.heap.size∨(Value.slice O n n).ownBlock=some k:=⟨_,rfl⟩;refine ρ ?_;refine Ja (fun (k:Nat) (J:List Pr)=>[(1,.slice C cs.length cc),(2,.pointer (some ⟨b1,0,none⟩)),(4,.pointer (some ⟨b2,0,none⟩)),(7,.slice O n n),(39,.int .i64 (n:Int)),(40,.int .i64 (k:Int))])
  (λk J w5=>k<=n/\J.length=k/\J.map (·.2)=(ps.take k).map (λp=>pmR cs p.2)/\Ext w3 w5/\w4.heap.size<=w5.heap.size/\Dat w5 w3.heap.size (.slice O n n) (J++List.replicate (n-k) (.slice none 0 0,[]))/\(∀ p∈J,Off N w5 (λu=>RowV u p.1 p.2))) (λk _=>n-k) 0 [] sB
  ⟨Nat.zero_le _,rfl,rfl,aw,Nat.le_refl _,ba,λp hp=>(by cases hp)⟩ ?_
 rintro k J w5 ⟨hk,ad,ac,Z,a8,a2,aq⟩;have o:=U.trans Z;refine ρ ?_;refine ci (λh=>?_) (λh=>?_)
 .have lk:k<n:=by have:=oT h;omega
  have ay:(ps.getD k z0).2.length=ar:=af _ (Vg hn lk);refine ρ ?_;refine ld ((a9.ext Z).at (i:=1) rfl) ?_;refine ρ ?_;refine ix k (hR.ext o) lk ?_;refine ρ ?_;refine ld (Jqm (hR.ext o) hn lk) ?_;refine ρ ?_;refine cl (Qcn ((ak _ (Vg hn lk)).ext o) (hc.ext o) (λc ap=>by rw [ay];exact hlt c ap)) ?_;rintro u w6 ⟨a3,x,rfl,am⟩;have ah:=a2.ext a3;have ag:(J++List.replicate (n-k) ((.slice none 0 0,[]):Pr)).length=n:=by simp;omega
  have a1:x.oneCell'=true:=am.here.one;obtain ⟨s1,s2,s3⟩:=ah.store ag lk (p:=(x,pmR cs (ps.getD k z0).2)) a1;refine ρ ?_;refine ix k (ah.rd ag) lk ?_;refine ρ ?_;refine sto (ah.cell ag lk) s1 ?_ (hv:=a1);refine ρ ?_;have e:(J++List.replicate (n-k) ((.slice none 0 0,[]):Pr)).set k (x,pmR cs (ps.getD k z0).2)=(J++[(x,pmR cs (ps.getD k z0).2)])++List.replicate (n-(k+1)) (.slice none 0 0,[]):=by
   rw [show n-k=(n-(k+1))+1 by omega,List.replicate_succ,List.set_append_right _ _ om,ad,Nat.sub_self,List.set_cons_zero,List.append_assoc];rfl
  rw [e]at s2;have au:∀ j,(Value.slice O n n).ownBlock=some j->N j:=λj ej=>by rw [hN];exact .inr ej
  refine Jl (k+1) (J++[(x,pmR cs (ps.getD k z0).2)]) sO ⟨om,by simp [ad],?_,Qb (Z.trans a3) s3 (λj hj=>(a5 j hj).1),Nat.le_trans a8 (nL a3.size s3.size),s2,λp hp=>?_⟩ om
  .rw [List.map_append,ac,Qy z0 om,List.map_append];rfl
  .rcases List.mem_append.1 hp with h'|h'
   .exact ((aq p h').ext a3).grown s3 au
   .rw [List.mem_singleton.1 h'];refine (am.mono λj _ hj=>?_).grown s3 au;rw [hN]at hj;rcases hj with h'|h'
    .exact nM h' Z.size
    .exact nM (a5 j h').2 a8
 .have e:k=n:=by have:=oF h;omega
  subst e;rw [Nat.sub_self,List.replicate_zero,List.append_nil]at a2;rw [List.take_of_length_le om]at ac;have b5:J.map (·.2)=(ps.map (·.2)).map (pmR cs):=by rw [ac,List.map_map];rfl
  refine ρ ?_;refine cl (Qxv (ar:=cs.length) a2 ad b4 (Nat.le_refl _) (λp hp=>(aq p hp).mono λj _ hj=>by rw [hN];exact .inr hj)) ?_;rintro u w7 ⟨an,rv,e,rfl,⟨z,B,m,d',ax⟩,ao,b3⟩;have he:=ao hbig;subst he;have ai:Ext w w7:=Qb o an (λj ej=>nL U.size (a5 j ej).1);have a6:=(bd.ext a4).ext Z;have bc:=a6.grown an (a6.ne_own a2.1 rfl);subst ax;refine ρ ?_;refine stb bc ?_ (Vp (z:=z) (A:=B) (n:=m) (c:=d'));intro w8 bb b6 av;refine ρ ?_;obtain ⟨ms,m1,m2,m3,m4⟩:=b3 rfl;rw [b5]at m3 m4;refine Zf bb ⟨av w ai (nL a1.size b9),_,rfl,⟨z,B,m,d',rfl⟩,ms,?_,m2,m3,λhc=>m4 (by rw [List.length_map,hn]at hc;exact hc)⟩;have b8:b2<w5.heap.size/\(Value.slice O k k).ownBlock≠some b2:=⟨a6.lt,λe=>a6.ne_own a2.1 rfl e.symm⟩;refine (m1.grown b6 (λj ej=>by injection ej with ej;rw [<-ej];exact b8)).mono λj _ hj=>⟨nM hj o.size,λe=>?_⟩;have:=(a5 j e).1;have:=U.size;omega
open Go.RowKit Pl Go.Wk
variable {t:Bool}{bs:List Bool}{c g i j n:Nat}{A:Option Addr}{u v:Value}{w:World}
structure Atm where
 vars: List Int
 ar:Nat
 rows:List Row
abbrev V3:= Value×Value×Value
def V3.cells(t:V3): List Value:=[t.1,t.2.1,t.2.2]
def AtV(w:World)(t:V3)(a:Atm): Prop:=IntsV w t.1 a.vars/\t.2.1=.int .i64 (a.ar:Int)/\RowsV w t.2.2 a.rows
theorem AtV.ext{w w':World}{t:V3}{a:Atm}(h:AtV w t a)(hx:Ext w w'): AtV w' t a:=⟨h.1.ext hx,h.2.1,h.2.2.ext hx⟩
theorem AtV.rel{t:V3}{a:Atm}(h:AtV w t a): RelV w (.agg #[t.2.1,t.2.2]) a.ar a.rows:=⟨t.2.2,by rw [h.2.1],h.2.2⟩
theorem AtV.one{t:V3}{a:Atm}(h:AtV w t a): ∀ u∈t.cells,u.oneCell'=true:=by
 obtain ⟨⟨A,c,J,_⟩,G,⟨ps,B,d,_,C,_⟩⟩:=h;intro u o;simp only [V3.cells,List.mem_cons,List.not_mem_nil,or_false]at o;rcases o with rfl|rfl|rfl
 .rw [J];rfl
 .rw [G];rfl
 .rw [C];rfl
def v30: V3:=(undef,undef,undef)
def a0: Atm:=⟨[],0,[]⟩
abbrev TA:= V3×Atm
def ta0: TA:=(v30,a0)
def atC(ts:List TA): List Value:=ts.flatMap λp=>p.1.cells
theorem Qkd: ∀ (r:List TA) (i j:Nat),i<r.length->j<3->(atC r)[i*3+j]?=(r.getD i ta0).1.cells[j]?
 | [],i,j,h,_=>by simp at h
 | v::r,0,j,_,hj=>by
  simp only [atC,List.flatMap_cons,Nat.zero_mul,Nat.zero_add,List.getD_cons_zero];rw [List.getElem?_append_left (by simp [V3.cells];omega)]
 | v::r,i+1,j,h,hj=>by
  have ih:=Qkd r i j (by simpa using h) hj;simp only [atC,List.flatMap_cons,List.getD_cons_succ]at ih ⊢;rw [List.getElem?_append_right (by simp [V3.cells];omega),<-ih];congr 1
  simp [V3.cells];omega
def AtsV(w:World)(v:Value)(ats:List Atm): Prop:=∃ (ts:List TA) (A:Option Addr) (c:Nat),ats=ts.map (·.2)/\v=.slice A ts.length c/\ts.length<=c/\ts.length<=1100000/\Rd w 3 A ts.length (atC ts)/\∀ p∈ts,AtV w p.1 p.2
theorem AtsV.ext{w w':World}{v:Value}{ats:List Atm}(h:AtsV w v ats)(hx:Ext w w'): AtsV w' v ats:=by
 obtain ⟨ts,A,c,U,O,J,G,C,u⟩:=h;exact ⟨ts,A,c,U,O,J,G,C.ext hx,λp o=>(u p o).ext hx⟩
theorem Jwh{ts:List TA}(hR:Rd w 3 A n (atC ts))(hn:ts.length=n)(hi:i<n)(hu:(ts.getD i ta0).1.cells[j]?=some u): w.cell? ((adr A (i*3)).add j)=some u:=by
 have o:j<3:=by have:=(List.getElem?_eq_some_iff.1 hu).1;simpa [V3.cells] using this
 rw [Xg];exact hR.cell (by rw [Qkd ts i j om o];exact hu)
theorem Ic{ts:List TA}(hn:ts.length=n)(hi:i<n): ts.getD i ta0∈ts:=getD_mem' ta0 ts (hn.symm ▸ hi)
def ascB(zs:List Int): Prop:=∀ j,0<j->j<zs.length->zs.getD (j-1) 0<zs.getD j 0
def Jwj(n:Int)(a:Atm): Prop:=ascB a.vars/\(∀ v∈a.vars,0<=v/\v<n)/\a.vars.length=a.ar
def Jwc(n:Int)(ats:List Atm): Prop:=0<=n/\n<=32/\ats.length<=32/\(∀ a∈ats,Jwj n a)/\∀ v:Nat,(v:Int)<n->∃ a∈ats,(v:Int)∈a.vars
theorem Qml(hR:RdB w A bs)(hm:bs.length<=1100000): Ret Tryz.prog 183 [.slice A bs.length c,.bool t] w λu w'=>w'=w/\∃ z,u=.int .i64 z/\(0<=z↔t∈bs):=by
 refine Jz Tryz.func183 Tryz.ntmps183 rfl kr rfl ?_;refine ρ ?_;refine Qd (fun (k:Nat)=>[(0,.slice A bs.length c),(1,.bool t),(7,.int .i64 (bs.length:Int)),(8,.int .i64 (k:Int))]) (λk w'=>w'=w/\k<=bs.length/\t ∉ bs.take k) (λk=>bs.length-k) 0 sB ⟨rfl,Nat.zero_le _,by simp⟩ ?_;rintro k w' ⟨rfl,G,o⟩;refine ρ ?_;refine ci (λh=>?_) (λh=>?_)
 .have lk:k<bs.length:=by have:=oT h;omega
  refine ρ ?_;refine ix k hR lk ?_;refine ρ ?_;refine ld (RdB.cell hR lk) ?_;refine eqb ?_;refine ρ ?_;refine ci (λh=>?_) (λh=>?_)
  .refine ρ ?_;refine Jj ⟨rfl,(k:Int),rfl,⟨λ_=>?_,λ_=>om⟩⟩;rw [beq_iff_eq.1 h];exact getD_mem' false bs lk
  .refine ρ ?_;refine Qw (k+1) sO ⟨rfl,om,?_⟩ om;rw [Qy false lk,List.mem_append,List.mem_singleton];rintro (C|C)
   .exact o C
   .rw [<-C]at h;simp at h
 .refine ρ ?_;refine Jj ⟨rfl,-1,rfl,⟨λe=>om,λe=>?_⟩⟩;rw [List.take_of_length_le (by have:=oF h;omega)]at o;exact absurd e o
theorem Qpt(hR:RdB w A bs)(hm:bs.length<=1100000): Ret Tryz.prog 160 [.slice A bs.length c,.bool t] w λu w'=>w'=w/\∃ b:Bool,u=.bool b/\(b=true↔t∈bs):=by
 refine Jz Tryz.func160 Tryz.ntmps160 rfl kr rfl ?_;refine ρ ?_;refine cl (Qml hR hm) ?_;rintro u w' ⟨rfl,z,rfl,o⟩;refine ρ ?_;exact Jj ⟨rfl,decide (0<=z),rfl,by rw [decide_eq_true_iff];exact o⟩
theorem Blk.at2{t:TypeId}{cs:List Value}(h:Blk w g t cs)(hv:cs[i+j]?=some v): w.cell? ((⟨g,i,none⟩:Addr).add j)=some v:=by rw [Vo,h.cell];exact hv
theorem Yj: Qu Tryz.prog 99=some (.agg #[.slice none 0 0,.int .i64 0,.slice none 0 0]):=kr
abbrev Uq(w:World)(base:Nat)(v:Value)(bs:List Bool): Prop:=w.ownsRow base 4 1 v bs.length (bs.map Value.bool)
theorem Jgw(h:i<bs.length): (bs.map Value.bool)[i]?=some (.bool (bs.getD i false)):=by simp [List.getD,List.getElem?_eq_getElem h]
theorem Qjg(bs:List Bool)(i k:Nat)(x:Bool)(hi:i<bs.length): (bs.set i x).getD k false=if k=i then x else bs.getD k false:=Jxm false bs i k x hi
theorem Jff{n:Int}{ats:List Atm}(h:AtsV w v ats): Ret Tryz.prog 125 [.int .i64 n,v] w λu w'=>Ext w w'/\∃ e,u=.int .i64 e/\(e=0↔Jwc n ats):=by
 obtain ⟨ts,A,c,rfl,rfl,bq,bp,hR,bg⟩:=h;generalize hm:ts.length=m at *
 refine Jz Tryz.func125 Tryz.ntmps125 rfl kr rfl ?_;refine ρ ?_;refine Vl (fun (t:Bool)=>[(0,.int .i64 n),(1,.slice A m c),(16,.bool t)]) (λt w'=>w'=w/\(t=true↔¬ (0<=n/\n<=32))) ?_ ?_
 .refine ki 13 (λh=>?_) (λh=>?_)
  .refine ρ ?_;exact Jb true sB ⟨rfl,by have:=oT h;simp;omega⟩
  .refine ρ ?_;refine Jb _ sB ⟨rfl,?_⟩;have:=oF h;rw [decide_eq_true_iff];omega
 rintro t w' ⟨rfl,ht⟩;refine ci (λh=>?_) (λh=>?_)
 .refine ρ ?_;exact Jj ⟨Ext.refl _,3,rfl,⟨λe=>(by cases e),λe=>absurd ⟨e.1,e.2.1⟩ (ht.1 h)⟩⟩
 have hn:0<=n/\n<=32:=by
  by_cases hz:0<=n/\n<=32
  .exact hz
  .rw [ht.2 hz]at h;cases h
 obtain ⟨bc,bo⟩:=hn;obtain ⟨N,rfl⟩:=Int.eq_ofNat_of_zero_le bc;clear h ht;refine ρ ?_;refine ci (λh=>?_) (λh=>?_)
 .refine ρ ?_;refine Jj ⟨Ext.refl _,12,rfl,⟨λe=>(by cases e),λe=>?_⟩⟩;have h1:=e.2.2.1;rw [List.length_map,hm]at h1;have:=oT h;omega
 have bn:m<=32:=by have:=oF h;omega
 clear h;refine ρ ?_;refine mkn EB N om (by unfold maxLen;omega) ?_;intro w1 O b9 aw hO;have av:Uq w1 w'.heap.size (.slice O N N) (List.replicate N false):=by
  rw [Uq,List.length_replicate,List.map_replicate];have e:(madeCells (Value.bool false).cells (N*1)).toList=List.replicate N (Value.bool false):=by rw [Nat.mul_one];exact Yf _ _
  rw [e]at aw;exact aw
 refine ρ ?_;refine Ja (fun (i:Nat) (J:List Bool)=>[(0,.int .i64 (N:Int)),(5,.slice O N N),(22,.slice A m c),(23,.int .i64 (m:Int)),(24,.int .i64 (i:Int))])
  (λi J w2=>i<=m/\Ext w' w2/\J.length=N/\Uq w2 w'.heap.size (.slice O N N) J/\(∀ j,j<i->Jwj N (ts.getD j ta0).2)/\∀ v:Nat,v<N->(J.getD v false=true↔∃ j,j<i/\(v:Int)∈(ts.getD j ta0).2.vars)) (λi _=>m-i) 0 (List.replicate N false) sB
  ⟨Nat.zero_le _,b9,by simp,av,λj hj=>om,λv hv=>⟨λe=>by simp [List.getD,hv]at e,λ⟨j,hj,_⟩=>om⟩⟩ ?_
 rintro i J w2 ⟨hi,ab,Z,ag,ap,o⟩;refine ρ ?_;refine ci (λh=>?_) (λh=>?_)
 .have li:i<m:=by have:=oT h;omega
  have b4:=hR.ext ab;obtain ⟨t1,t2,t3,a,hp⟩:∃ t1 t2 t3 a,ts.getD i ta0=((t1,t2,t3),a):=⟨_,_,_,_,rfl⟩;have aj:AtV w' (t1,t2,t3) a:=by have:=bg _ (Ic hm li);rw [hp]at this;exact this
  have ax:a∈ts.map (·.2):=List.mem_map.2 ⟨_,Ic hm li,by rw [hp]⟩
  clear h;obtain ⟨⟨D,d,e1,hd,bs,b2⟩,e2,af⟩:=id aj;simp only at e1 e2;subst e1;subst e2;obtain ⟨ps,G,gc,_,ao,_⟩:=id af;simp only at ao;subst ao;refine ρ ?_;refine ixq 3 i b4 li ?_;refine ρ ?_;refine lds (cs:=[.slice D a.vars.length d,.int .i64 (a.ar:Int),.slice G ps.length gc]) (λj u hu=>Jwh b4 hm li (by rw [hp];exact hu)) ?_;refine ρ ?_;refine alc Yj ?_;intro w3 b b8 hb hB;refine ρ ?_;refine stb hB ?_ aj.one;intro w4 ai br b7;have ad:Ext w2 w4:=b7 w2 b8 hb;have a5:=ab.trans ad;have au:=Jk ag ad;have a1:¬ Jwj N a->¬ Jwc N (ts.map (·.2)):=λh1 h2=>h1 (h2.2.2.2.1 a ax)
  refine ρ ?_;refine Qd (fun (k:Nat)=>[(0,.int .i64 (N:Int)),(5,.slice O N N),(22,.slice A m c),(23,.int .i64 (m:Int)),(24,.int .i64 (i:Int)),(7,.pointer (some ⟨b,0,none⟩)),(8,.int .i64 (k:Int))])
   (λk w5=>Ext w4 w5/\1<=k/\(k<=a.vars.length∨k=1)/\∀ j,0<j->j<k->a.vars.getD (j-1) 0<a.vars.getD j 0) (λk=>a.vars.length-k) 1 sB ⟨Ext.refl _,Nat.le_refl _,.inr rfl,λj h1 h2=>om⟩ ?_
  rintro k w5 ⟨aa,bf,be,a7⟩;have ac:=ai.ext aa;refine ρ ?_;refine ld (ac.at (i:=0) rfl) ?_;refine ρ ?_;refine ci (λh=>?_) (λh=>?_)
  .have lk:k<a.vars.length:=by have:=oT h;omega
   have ak:k-1<a.vars.length:=om
   clear h;refine ρ ?_;refine dr [(0,0),(0,1),(0,2),(0,3),(0,4),(0,5),(0,6),(0,7),(0,8),(0,9),(0,10),(0,11)] kr ?_;have a2:=aa.drew;have a4:=ai.ext a2;have C:=b2.ext (a5.trans a2);refine ρd ?_;refine dld (a4.at (i:=0) rfl) ?_;refine ρd ?_;refine dix (k-1) C ak ?_;refine ρd ?_;refine dld (C.cell (Jkh ak)) ?_;refine ρd ?_;refine dld (a4.at (i:=0) rfl) ?_;refine ρd ?_;refine dix k C lk ?_;refine ρd ?_;refine dld (C.cell (Jkh lk)) ?_;refine ρd ?_;refine ρ ?_;refine ci (λh=>?_) (λh=>?_)
   .refine ρ ?_;refine Jj ⟨a5.trans a2,16,rfl,⟨λe=>(by cases e),λe=>absurd e (a1 λh1=>?_)⟩⟩;have:=h1.1 k om lk;have:=oT h;omega
   .refine ρ ?_;refine Qw (k+1) sO ⟨a2,om,om,λj h1 h2=>?_⟩ om;by_cases U:j=k
    .subst U;have:=oF h;omega
    .exact a7 j h1 om
  have ah:ascB a.vars:=λj h1 h2=>a7 j h1 (by have:=oF h;omega);clear h a7 bf be;have an:=a5.trans aa;have aq:=Jk au aa;refine ρ ?_;refine ld (ac.at (i:=0) rfl) ?_;refine ρ ?_;refine Ja (fun (q:Nat) (J:List Bool)=>[(0,.int .i64 (N:Int)),(5,.slice O N N),(22,.slice A m c),(23,.int .i64 (m:Int)),(24,.int .i64 (i:Int)),(7,.pointer (some ⟨b,0,none⟩)),(48,.slice D a.vars.length d),(49,.int .i64 (a.vars.length:Int)),(50,.int .i64 (q:Int))])
   (λq J w6=>q<=a.vars.length/\Ext w' w6/\J.length=N/\Uq w6 w'.heap.size (.slice O N N) J/\Blk w6 b 99 [.slice D a.vars.length d,.int .i64 (a.ar:Int),.slice G ps.length gc]/\(∀ j,j<q->0<=a.vars.getD j 0/\a.vars.getD j 0<N)/\∀ v:Nat,v<N->(J.getD v false=true↔(∃ j,j<i/\(v:Int)∈(ts.getD j ta0).2.vars)∨∃ j,j<q/\a.vars.getD j 0=(v:Int))) (λq _=>a.vars.length-q) 0 J sB
   ⟨Nat.zero_le _,an,Z,aq,ac,λj hj=>om,λv hv=>⟨λe=>.inl ((o v hv).1 e),λe=>(o v hv).2 (e.elim id λ⟨j,hj,_⟩=>om)⟩⟩ ?_
  clear ag au aq ac ai o Z;rintro q J w6 ⟨hq,a9,Z,a3,a4,b1,o⟩;refine ρ ?_;refine ci (λh=>?_) (λh=>?_)
  .have lq:q<a.vars.length:=by have:=oT h;omega
   have C:=b2.ext a9;have ba:a.vars.getD q 0∈a.vars:=getD_mem' 0 _ lq;clear h;refine ρ ?_;refine ix q C lq ?_;refine ρ ?_;refine ld (C.cell (Jkh lq)) ?_;refine ρ ?_;generalize hz:a.vars.getD q 0=z at *
   refine Vl (fun (t:Bool)=>[(0,.int .i64 (N:Int)),(5,.slice O N N),(22,.slice A m c),(23,.int .i64 (m:Int)),(24,.int .i64 (i:Int)),(7,.pointer (some ⟨b,0,none⟩)),(48,.slice D a.vars.length d),(49,.int .i64 (a.vars.length:Int)),(50,.int .i64 (q:Int)),(10,.int .i64 z),(60,.bool t)]) (λt w7=>w7=w6/\(t=true↔¬ (0<=z/\z<N))) ?_ ?_
   .refine ki 56 (λh=>?_) (λh=>?_)
    .refine ρ ?_;exact Jb true sB ⟨rfl,by have:=oT h;simp;omega⟩
    .refine ρ ?_;refine Jb _ sB ⟨rfl,?_⟩;have:=oF h;rw [decide_eq_true_iff];omega
   rintro t w7 ⟨rfl,ht⟩;refine ci (λh=>?_) (λh=>?_)
   .refine ρ ?_;exact Jj ⟨a9,3,rfl,⟨λe=>(by cases e),λe=>absurd e (a1 λh1=>ht.1 h (h1.2.1 z ba))⟩⟩
   have am:0<=z/\z<N:=by
    by_cases hz:0<=z/\z<N
    .exact hz
    .rw [ht.2 hz]at h;cases h
   obtain ⟨x,rfl⟩:=Int.eq_ofNat_of_zero_le am.1;have lx:x<N:=om
   rw [Uq,Z]at a3;obtain ⟨s1,s2,s3,s4,s5⟩:=Zv a3 (q:=x) om (.bool true);refine ρ ?_;refine ix x (Rd.own a3) lx ?_;refine ρ ?_;refine sto (s1.trans (Jgw om)) s2 ?_;refine ρ ?_;refine Jl (q+1) (J.set x true) sO ⟨om,Qb a9 s5 (λk hk=>by
    obtain ⟨_,_,_,_,hf⟩:=Jv a3;exact (hf k hk).1),by simpa using Z,?_,a4.grown s5 (a4.ne_own a3 rfl),λj hj=>?_,λv hv=>?_⟩ om
   .rw [Uq,List.length_set,Z,List.map_set];exact s3
   .by_cases U:j=q
    .subst U;rw [hz];exact am
    .exact b1 j om
   .rw [Qjg _ _ _ _ om];by_cases ev:v=x
    .subst ev;rw [if_pos rfl];exact ⟨λ_=>.inr ⟨q,om,hz⟩,λ_=>rfl⟩
    .rw [if_neg ev,o v hv];constructor
     .rintro (h'|⟨j,hj,U⟩)
      .exact .inl h'
      .exact .inr ⟨j,om,U⟩
     .rintro (h'|⟨j,hj,U⟩)
      .exact .inl h'
      .by_cases e2:j=q
       .subst e2;rw [hz]at U;omega
       .exact .inr ⟨j,om,U⟩
  .have eq:q=a.vars.length:=by have:=oF h;omega
   clear h;have ay:∀ v∈a.vars,0<=v/\v<N:=λv hv=>by
    obtain ⟨j,hj,rfl⟩:=List.getElem_of_mem hv;have:=b1 j om;rw [Jp 0 _ hj]at this;exact this
   refine ρ ?_;refine dr [(0,0),(0,1),(0,2),(0,3),(0,4),(1,5),(0,6)] kr ?_;have a6:=a9.drew;have b5:=a4.ext (Ext.refl w6).drew;have bj:=aj.ext a6;refine ρd ?_;refine dld (b5.at (i:=0) rfl) ?_;refine ρd ?_;refine Qz (cs:=[.int .i64 (a.ar:Int),.slice G ps.length gc]) (λj u hu=>Blk.at2 b5 (i:=0+1) (by rw [Nat.add_comm];simpa using hu)) ?_;refine ρd ?_;refine dcl (Jdg bj.rel) ?_;rintro u w8 ⟨rfl,a8⟩;refine ⟨a8,?_⟩;refine ρd ?_;refine ρ ?_;refine ci (λh=>?_) (λh=>?_)
   .refine ρ ?_;refine Jj ⟨a6.trans a8,6,rfl,⟨λe=>(by cases e),λe=>absurd e (a1 λh1=>?_)⟩⟩;have:=Gu h;have:=h1.2.2;omega
   .refine ρ ?_;have bh:a.vars.length=a.ar:=by have:=Kj h;omega
    refine Jl (i+1) J sO ⟨om,a6.trans a8,Z,Jk (Jk a3 (Ext.refl w6).drew) a8,λj hj=>?_,λv hv=>?_⟩ om
    .by_cases U:j=i
     .subst U;rw [hp];exact ⟨ah,ay,bh⟩
     .exact ap j om
    .rw [o v hv];constructor
     .rintro (⟨j,hj,U⟩|⟨j,hj,U⟩)
      .exact ⟨j,om,U⟩
      .refine ⟨i,om,?_⟩;rw [hp,<-U];exact getD_mem' 0 a.vars om
     .rintro ⟨j,hj,U⟩;by_cases e2:j=i
      .subst e2;have bm:(v:Int)∈a.vars:=by rw [hp]at U;exact U
       obtain ⟨y,hy,ey⟩:=List.getElem_of_mem bm;exact .inr ⟨y,om,by rw [Jp 0 _ hy];exact ey⟩
      .exact .inl ⟨j,om,U⟩
 .have ei:i=m:=by have:=oF h;omega
  clear h;subst Z;have bi:RdB w2 O J:=Rd.own ag;have b3:∀ a∈ts.map (·.2),Jwj J.length a:=λa ha=>by
   obtain ⟨p,hp,rfl⟩:=List.mem_map.1 ha;obtain ⟨j,hj,rfl⟩:=List.getElem_of_mem hp;have:=ap j om;rw [Jp ta0 _ hj]at this;exact this
  refine ρ ?_;refine cl (Qpt bi om) ?_;rintro u w3 ⟨rfl,t,rfl,ht⟩;refine ρ ?_;refine ci (λh=>?_) (λh=>?_)
  .refine ρ ?_;refine Jj ⟨ab,22,rfl,⟨λe=>(by cases e),λe=>?_⟩⟩;obtain ⟨x,hx,ex⟩:=List.getElem_of_mem (ht.1 h);obtain ⟨a,ha,b6⟩:=e.2.2.2.2 x om;obtain ⟨p,hp,rfl⟩:=List.mem_map.1 ha;obtain ⟨j,hj,rfl⟩:=List.getElem_of_mem hp;have:=(o x om).2 ⟨j,om,by rw [Jp ta0 _ hj];exact b6⟩;rw [Jp false J hx,ex]at this;cases this
  .refine ρ ?_;refine Jj ⟨ab,0,rfl,⟨λ_=>⟨om,om,by rw [List.length_map];omega,b3,λv hv=>?_⟩,λ_=>rfl⟩⟩;have bb:v<J.length:=om
   have ae:J.getD v false=true:=by
    cases hc:J.getD v false with
    | true=>rfl
    | false=>
     rw [Jp false J om]at hc;have:false∈J:=by rw [<-hc];exact List.getElem_mem _
     rw [ht.2 this]at h;cases h
   obtain ⟨j,hj,bd⟩:=(o v bb).1 ae;exact ⟨_,List.mem_map.2 ⟨_,Ic hm om,rfl⟩,bd⟩
open Go.RowKit Pl Go.Wk
structure Inp where
 n: Int
 free:Int
 desc:List Bool
 perm:List Int
 ats:List Atm
def InC(w:World)(i:Inp)(cs:List Value): Prop:=∃ vd vp va,cs=[.int .i64 i.n,.int .i64 i.free,vd,vp,va]/\BoolsV w vd i.desc/\IntsV w vp i.perm/\AtsV w va i.ats
theorem InC.ext{w w':World}{i:Inp}{cs:List Value}(h:InC w i cs)(hx:Ext w w'): InC w' i cs:=by
 obtain ⟨u,o,C,e,O,J,G⟩:=h;exact ⟨u,o,C,e,O.ext hx,J.ext hx,G.ext hx⟩
def InV(w:World)(v:Value)(i:Inp): Prop:=∃ cs,v=.agg cs.toArray/\InC w i cs
theorem InV.ext{w w':World}{v:Value}{i:Inp}(h:InV w v i)(hx:Ext w w'): InV w' v i:=by
 obtain ⟨cs,e,h⟩:=h;exact ⟨cs,e,h.ext hx⟩
def Jxv(i:Inp): Prop:=0<=i.n/\i.n<=32/\0<=i.free/\i.free<=i.n/\(i.desc.length:Int)=i.free/\(i.perm.length:Int)=i.n-i.free/\(∀ v∈i.perm,i.free<=v/\v<i.n)/\i.perm.Nodup/\Jwc i.n i.ats
theorem Jtx{w:World}{v:Value}{inp:Inp}(h:InV w v inp)(hn64:-9223372036854775808<=inp.n/\inp.n<=9223372036854775807)(hf64:-9223372036854775808<=inp.free/\inp.free<=9223372036854775807): Ret Tryz.prog 79 [v] w λu w'=>Ext w w'/\∃ e,u=.int .i64 e/\(e=0↔Jxv inp):=by
 obtain ⟨_,rfl,vd,vp,va,rfl,af,ae,ab⟩:=h;obtain ⟨n,free,a1,perm,ats⟩:=inp;simp only at af ae ab hn64 hf64 ⊢;obtain ⟨D,dc,rfl,b4,b3,b2⟩:=id af;obtain ⟨G,gc,rfl,ay,ax,ap⟩:=id ae;obtain ⟨ts,A,c,_,rfl,_⟩:=id ab;refine Jz Tryz.func79 Tryz.ntmps79 rfl kr rfl ?_;refine ρ ?_;refine bx ?_;intro w1 b aa hb U;refine ρ ?_;refine Vl (fun (t:Bool)=>[(1,.pointer (some ⟨b,0,none⟩)),(25,.bool t)]) (λt w'=>w'=w1/\(t=true↔¬ (0<=n/\n<=32/\0<=free/\free<=n))) ?_ ?_
 .refine ld (U.at (i:=0) rfl) ?_;refine ρ ?_;refine ki 9 (λh=>?_) (λh=>?_)
  .have:=oT h;refine ρ ?_;exact Jb true sB ⟨rfl,by simp;omega⟩
  have h1:=oF h;refine ρ ?_;refine ld (U.at (i:=0) rfl) ?_;refine ρ ?_;refine ki 14 (λh=>?_) (λh=>?_)
  .have:=oT h;refine ρ ?_;exact Jb true sB ⟨rfl,by simp;omega⟩
  have h2:=oF h;refine ρ ?_;refine ld (U.at (i:=1) rfl) ?_;refine ρ ?_;refine ki 19 (λh=>?_) (λh=>?_)
  .have:=oT h;refine ρ ?_;exact Jb true sB ⟨rfl,by simp;omega⟩
  have h3:=oF h;refine ρ ?_;refine ld (U.at (i:=1) rfl) ?_;refine ρ ?_;refine ld (U.at (i:=0) rfl) ?_;refine ρ ?_;refine Jb _ sB ⟨rfl,?_⟩;rw [decide_eq_true_iff];omega
 rintro t w' ⟨rfl,ht⟩;refine ci (λh=>?_) (λh=>?_)
 .refine ρ ?_;exact Jj ⟨aa,3,rfl,⟨λe=>(by cases e),λe=>absurd ⟨e.1,e.2.1,e.2.2.1,e.2.2.2.1⟩ (ht.1 h)⟩⟩
 have hn:0<=n/\n<=32/\0<=free/\free<=n:=by
  by_cases hz:0<=n/\n<=32/\0<=free/\free<=n
  .exact hz
  .rw [ht.2 hz]at h;cases h
 obtain ⟨ao,aw,aq,b1⟩:=hn;obtain ⟨N,rfl⟩:=Int.eq_ofNat_of_zero_le ao;obtain ⟨F,rfl⟩:=Int.eq_ofNat_of_zero_le aq;clear h ht;refine ρ ?_;refine ld (U.at (i:=2) rfl) ?_;refine ρ ?_;refine ld (U.at (i:=1) rfl) ?_;refine ρ ?_;refine Vl (fun (t:Bool)=>[(1,.pointer (some ⟨b,0,none⟩)),(42,.bool t)]) (λt w2=>w2=w'/\(t=true↔¬ (a1.length=F/\perm.length+F=N))) ?_ ?_
 .refine ki 32 (λh=>?_) (λh=>?_)
  .have:=Gu h;refine ρ ?_;exact Jb true sB ⟨rfl,by simp;omega⟩
  have h1:=Kj h;refine ρ ?_;refine ld (U.at (i:=3) rfl) ?_;refine ρ ?_;refine ld (U.at (i:=0) rfl) ?_;refine ρ ?_;refine ld (U.at (i:=1) rfl) ?_;refine ρ ?_;refine Jb _ sB ⟨rfl,?_⟩;rw [bne_iff_ne];omega
 rintro t2 w2 ⟨rfl,ht⟩;refine ci (λh=>?_) (λh=>?_)
 .refine ρ ?_;refine Jj ⟨aa,1,rfl,⟨λe=>(by cases e),λe=>absurd ?_ (ht.1 h)⟩⟩;have h5:=e.2.2.2.2.1;have h6:=e.2.2.2.2.2.1;simp only at h5 h6;omega
 have ar:a1.length=F/\perm.length+F=N:=by
  by_cases hz:a1.length=F/\perm.length+F=N
  .exact hz
  .rw [ht.2 hz]at h;cases h
 obtain ⟨b5,av⟩:=ar;clear h ht;refine ρ ?_;refine ld (U.at (i:=0) rfl) ?_;refine ρ ?_;refine mkn EB N om (by unfold maxLen;omega) ?_;intro w3 O ad ah hO;have ag:Uq w3 w2.heap.size (.slice O N N) (List.replicate N false):=by
  rw [Uq,List.length_replicate,List.map_replicate];have e:(madeCells (Value.bool false).cells (N*1)).toList=List.replicate N (Value.bool false):=by rw [Nat.mul_one];exact Yf _ _
  rw [e]at ah;exact ah
 refine ρ ?_;refine ld ((U.ext ad).at (i:=3) rfl) ?_;refine ρ ?_;refine Ja (fun (i:Nat) (us:List Bool)=>[(1,.pointer (some ⟨b,0,none⟩)),(3,.slice O N N),(47,.slice G perm.length gc),(48,.int .i64 (perm.length:Int)),(49,.int .i64 (i:Int))])
  (λi us w4=>i<=perm.length/\Ext w2 w4/\us.length=N/\Uq w4 w2.heap.size (.slice O N N) us/\(∀ v∈perm.take i,(F:Int)<=v/\v<N)/\(perm.take i).Nodup/\∀ v:Nat,v<N->(us.getD v false=true↔(v:Int)∈perm.take i)) (λi _=>perm.length-i) 0 (List.replicate N false) sB
  ⟨Nat.zero_le _,ad,by simp,ag,λv hv=>by simp at hv,by simp,λv hv=>⟨λe=>by simp [List.getD,hv]at e,λe=>by simp at e⟩⟩ ?_
 rintro i us w4 ⟨hi,a9,a2,J,ac,Z,a6⟩;have a5:=U.ext a9;have C:=aa.trans a9;refine ρ ?_;refine ci (λh=>?_) (λh=>?_)
 .have li:i<perm.length:=by have:=oT h;omega
  have a7:=ap.ext C;clear h;have aj:perm.getD i 0∈perm:=getD_mem' 0 perm li;have a3:perm.take (i+1)=perm.take i++[perm.getD i 0]:=Qy 0 li;have a4:perm.Nodup->perm.getD i 0 ∉ perm.take i:=λZ hm=>by
   have h1:(perm.take (i+1)).Nodup:=Z.sublist (List.take_sublist _ _);rw [a3,List.nodup_append]at h1;exact h1.2.2 _ hm _ (List.mem_singleton.2 rfl) rfl
  refine ρ ?_;refine ix i a7 li ?_;refine ρ ?_;refine ld (a7.cell (Jkh li)) ?_;refine ρ ?_;refine ld (a5.at (i:=1) rfl) ?_;refine ρ ?_;generalize hz:perm.getD i 0=z at *
  refine Vl (fun (t:Bool)=>[(1,.pointer (some ⟨b,0,none⟩)),(3,.slice O N N),(47,.slice G perm.length gc),(48,.int .i64 (perm.length:Int)),(49,.int .i64 (i:Int)),(5,.int .i64 z),(68,.bool t)]) (λt w5=>w5=w4/\(t=true↔¬ ((F:Int)<=z/\z<N/\z ∉ perm.take i))) ?_ ?_
  .refine ki 57 (λh=>?_) (λh=>?_)
   .have:=oT h;refine ρ ?_;exact Jb true sB ⟨rfl,by simp;omega⟩
   have h1:=oF h;refine ρ ?_;refine ld (a5.at (i:=0) rfl) ?_;refine ρ ?_;refine ki 63 (λh=>?_) (λh=>?_)
   .have:=oT h;refine ρ ?_;exact Jb true sB ⟨rfl,by simp;omega⟩
   have h2:=oF h;have ak:0<=z:=om
   obtain ⟨x,rfl⟩:=Int.eq_ofNat_of_zero_le ak;have lx:x<N:=om
   have ai:Rd w4 1 O N (us.map Value.bool):=by rw [Uq,a2]at J;exact Rd.own J
   refine ρ ?_;refine ix x ai lx ?_;refine ρ ?_;have am:x<us.length:=om
   refine ld (ai.cell (Jgw am)) ?_;refine ρ ?_;refine Jb _ sB ⟨rfl,?_⟩;rw [a6 x lx];constructor
   .intro o au;exact au.2.2 o
   .intro o;by_cases hm:(x:Int)∈perm.take i
    .exact hm
    .exact absurd ⟨om,om,hm⟩ o
  rintro t5 w5 ⟨rfl,ht⟩;refine ci (λh=>?_) (λh=>?_)
  .refine ρ ?_;refine Jj ⟨C,1,rfl,⟨λe=>(by cases e),λe=>absurd ?_ (ht.1 h)⟩⟩;have h7:=e.2.2.2.2.2.2.1 z aj;have h8:=a4 e.2.2.2.2.2.2.2.1;exact ⟨h7.1,h7.2,h8⟩
  have a8:(F:Int)<=z/\z<N/\z ∉ perm.take i:=by
   by_cases hz:(F:Int)<=z/\z<N/\z ∉ perm.take i
   .exact hz
   .rw [ht.2 hz]at h;cases h
  obtain ⟨x,rfl⟩:=Int.eq_ofNat_of_zero_le (show 0<=z by omega);have lx:x<N:=om
  rw [Uq,a2]at J;obtain ⟨s1,s2,s3,s4,s5⟩:=Zv J (q:=x) om (.bool true);refine ρ ?_;refine ix x (Rd.own J) lx ?_;refine ρ ?_;refine sto (s1.trans (Jgw om)) s2 ?_;refine ρ ?_;refine Jl (i+1) (us.set x true) sO ⟨om,Qb a9 s5 (λk hk=>by
    obtain ⟨_,_,_,_,hf⟩:=Jv J;exact (hf k hk).1),by simpa using a2,?_,λv hv=>?_,?_,λv hv=>?_⟩ om
  .rw [Uq,List.length_set,a2,List.map_set];exact s3
  .rw [a3,List.mem_append,List.mem_singleton]at hv;rcases hv with o|o
   .exact ac v o
   .rw [o];exact ⟨a8.1,a8.2.1⟩
  .rw [a3,List.nodup_append];refine ⟨Z,by simp,λp hp q hq e=>?_⟩;rw [List.mem_singleton]at hq;subst hq;subst e;exact a8.2.2 hp
  .rw [Qjg _ _ _ _ om,a3,List.mem_append,List.mem_singleton];by_cases ev:v=x
   .subst ev;rw [if_pos rfl];exact ⟨λ_=>.inr rfl,λ_=>rfl⟩
   .rw [if_neg ev,a6 v hv];exact ⟨λo=>.inl o,λo=>o.elim id λe=>om⟩
 .have ei:i=perm.length:=by have:=oF h;omega
  clear h;rw [ei,List.take_of_length_le (Nat.le_refl _)]at ac Z;refine ρ ?_;refine ld (a5.at (i:=0) rfl) ?_;refine ρ ?_;refine ld (a5.at (i:=4) rfl) ?_;refine ρ ?_;refine cl (Jff (ab.ext C)) ?_;rintro u w5 ⟨an,e,rfl,he⟩;refine ρ ?_;refine Jj ⟨C.trans an,e,rfl,he.trans ⟨λo=>⟨by simp only;omega,by simp only;omega,by simp only;omega,by simp only;omega,by simp only;omega,by simp only;omega,ac,Z,o⟩,λo=>o.2.2.2.2.2.2.2.2⟩⟩
end Go.Proofs.YtebcagekopgdhaaGreatDoor
namespace Go.Proofs.YtebcagekopgdhaaGreatDoor
open Pl
variable {f:List Nat}{rs:List Row}{d i j l:Nat}{q x:Row}
def pfx(rs:List Row)(l:Nat): List Row:=ddF (rs.map (List.take l))
theorem Jrs(rs:List Row)(x:Row)(l:Nat): pfx (rs++[x]) l=ddS (pfx rs l) (x.take l):=by
 unfold pfx;rw [List.map_append,List.map_cons,List.map_nil,Jgm]
theorem Qqv: ∀ (a b:Row) (l:Nat),Jw a b []<=0->Jw (a.take l) (b.take l) []<=0
 | _,_,0,_=>by simp [Jw]
 | [],[],_+1,_=>by simp [Jw]
 | [],_::_,_+1,_=>by simp [Jw]
 | _::_,[],_+1,h=>by simp [Jw]at h
 | x::a,y::b,l+1,h=>by
  simp only [List.take_succ_cons,Jw,List.drop_nil]at h ⊢;by_cases e:cmpV x y=0
  .rw [if_pos e]at h ⊢;exact Qqv a b l h
  .rw [if_neg e]at h ⊢;exact h
theorem Qbq(h:Srt [] rs)(l:Nat): Srt [] (rs.map (List.take l)):=by
 unfold Srt at h ⊢;rw [List.pairwise_map];exact h.imp λo=>Qqv _ _ l o
theorem Gv(h:Lt [] rs): Srt [] rs:=h.imp λo=>by omega
theorem Jzv(h:Srt [] rs)(l:Nat): Zz [] (rs.map (List.take l)) (pfx rs l):=Qqh (Qbq h l)
theorem Jqr(h:Srt [] rs): q∈pfx rs l↔∃ r∈rs,r.take l=q:=by
 rw [(Jzv h l).2,List.mem_map]
theorem Qfj(h:Lt [] rs)(hl:∀ r∈rs,r.length=d): pfx rs d=rs:=by
 have e:rs.map (List.take d)=rs:=by
  conv=>rhs;rw [<-List.map_id rs]
  exact List.map_congr_left λr u=>by rw [List.take_of_length_le (by rw [hl r u];exact Nat.le_refl _)];rfl
 have o:=Jzv (Gv h) d;rw [e]at o;exact Im o.1 h o.2
theorem Jrt: (pfx (rs++[x]) l).getLast?=some (x.take l):=by rw [Jrs];exact Qqf _ _
def shr: Row->Row->Nat
 | a::x,b::y=>if a=b then shr x y+1 else 0
 | _,_=>0
theorem Jck(y:Row): shr [] y=0:=by cases y<;>rfl
theorem Jnq: ∀ x y:Row,shr x y<=x.length/\shr x y<=y.length
 | [],y=>by rw [Jck];simp
 | _::_,[]=>by simp [shr]
 | a::x,b::y=>by
  have:=Jnq x y;simp only [shr,List.length_cons];split<;>omega
theorem Jcj: ∀ (x y:Row) (l:Nat),x.length=y.length->(x.take l=y.take l↔l<=shr x y∨x=y)
 | [],[],l,_=>by simp
 | [],_::_,_,h=>by simp at h
 | _::_,[],_,h=>by simp at h
 | a::x,b::y,0,_=>by simp
 | a::x,b::y,l+1,h=>by
  have ih:=Jcj x y l (by simpa using h);simp only [List.take_succ_cons,List.cons.injEq,shr];by_cases e:a=b
  .rw [if_pos e,ih];constructor
   .rintro ⟨_,h'|h'⟩
    .exact .inl om
    .exact .inr ⟨e,h'⟩
   .rintro (h'|h')
    .exact ⟨e,.inl om⟩
    .exact ⟨e,.inr h'.2⟩
  .rw [if_neg e];constructor
   .rintro ⟨h',_⟩;exact absurd h' e
   .rintro (h'|h')
    .omega
    .exact absurd h'.1 e
def lvl(rs:List Row)(l:Nat): Row:=(pfx rs (l+1)).map λq=>q.getD l V0
theorem Jxd(rs:List Row)(l:Nat): (lvl rs l).length=(pfx rs (l+1)).length:=by simp [lvl]
theorem Qhq(h:i<(pfx rs (l+1)).length): (lvl rs l).getD i V0=((pfx rs (l+1)).getD i []).getD l V0:=by
 rw [Jp V0 _ (by rw [Jxd];exact h),Jp [] _ h];simp [lvl]
def Fst(rs:List Row)(l:Nat)(f:List Nat): Prop:=f.length=(pfx rs (l+1)).length/\(∀ j,j<f.length->f.getD j 0<=(pfx rs (l+2)).length) /\
 ∀ j i,j<f.length->i<(pfx rs (l+2)).length->(((pfx rs (l+2)).getD i []).take (l+1)=(pfx rs (l+1)).getD j []↔f.getD j 0<=i/\(j+1<f.length->i<f.getD (j+1) 0))
def stp(rs:List Row)(x:Row): Nat:=match rs.getLast? with
 | some y=>shr y x
 | none=>0
theorem Jjb(h:Lt [] (rs++[x]))(hl:∀ r∈rs++[x],r.length=d)(h0:0<l): pfx (rs++[x]) l=if l<=stp rs x then pfx rs l else pfx rs l++[x.take l]:=by
 rw [Jrs];rcases List.eq_nil_or_concat rs with rfl|⟨r,y,rfl⟩
 .rw [if_neg (by simp [stp];omega)];rfl
 .rw [List.concat_eq_append]at *;have U:(r++[y]).getLast?=some y:=by simp
  have u:Jw y x []<0:=(List.pairwise_append.1 h).2.2 y (by simp) x (by simp);have G:y≠x:=λe=>by rw [e,Yw]at u;omega
  have o:y.length=x.length:=by rw [hl y (by simp),hl x (by simp)]
  have C:stp (r++[y]) x=shr y x:=by simp [stp]
  rw [C,ddS,Jrt];by_cases e:y.take l=x.take l
  .rw [if_pos (by rw [e]),if_pos (((Jcj y x l o).1 e).elim id λJ=>absurd J G)]
  .rw [if_neg (λO=>e (by injection O)),if_neg (λJ=>e ((Jcj y x l o).2 (.inl J)))]
theorem Qfg(h:Lt [] (rs++[x]))(hl:∀ r∈rs++[x],r.length=d)(h0:0<l)(hs:stp rs x<l): x.take l ∉ pfx rs l:=by
 have e:=Jjb h hl h0;rw [if_neg om]at e;have o:=(Jzv (Gv h) l).1;rw [e]at o;intro u;have:=(List.pairwise_append.1 o).2.2 _ u (x.take l) (by simp);rw [Yw]at this;omega
theorem Qht{l:List Row}(h:Lt [] l)(hi:i<l.length)(hj:j<l.length)(e:l.getD i []=l.getD j []): i=j:=by
 rcases Nat.lt_trichotomy i j with h'|h'|h'
 .have:=h.at h' hj;rw [e,Yw]at this;omega
 .exact h'
 .have:=h.at h' hi;rw [e,Yw]at this;omega
theorem Kz{α:Type}(z:α)(l:List α)(x:α)(k:Nat): (l++[x]).getD k z=if k<l.length then l.getD k z else if k=l.length then x else z:=by
 simp only [List.getD];by_cases h:k<l.length
 .rw [if_pos h,List.getElem?_append_left h]
 .rw [if_neg h,List.getElem?_append_right om];by_cases e:k=l.length
  .rw [if_pos e,e,Nat.sub_self];rfl
  .rw [if_neg e,List.getElem?_eq_none (by simp;omega)];rfl
theorem take_take'(q:Row)(l:Nat): (q.take (l+2)).take (l+1)=q.take (l+1):=by rw [List.take_take,Nat.min_eq_left om]
theorem Qff(h:Srt [] rs)(hi:i<(pfx rs (l+2)).length): ((pfx rs (l+2)).getD i []).take (l+1)∈pfx rs (l+1):=by
 obtain ⟨r,o,e⟩:=(Jqr h).1 (getD_mem' [] _ hi);rw [<-e,take_take'];exact (Jqr h).2 ⟨r,o,rfl⟩
theorem Fst.keep(hF:Fst rs l f)(h:Lt [] (rs++[x]))(hl:∀ r∈rs++[x],r.length=d)(hs:l+1<=stp rs x): Fst (rs++[x]) l f:=by
 obtain ⟨h1,G,h3⟩:=hF;have Z:pfx (rs++[x]) (l+1)=pfx rs (l+1):=by rw [Jjb h hl om,if_pos hs]
 have u:Lt [] rs:=(List.pairwise_append.1 h).1;have o:0<(pfx rs (l+1)).length/\(pfx rs (l+1)).getD ((pfx rs (l+1)).length-1) []=x.take (l+1):=by
  have h5:=Jrt (rs:=rs) (x:=x) (l:=l+1);rw [Z,List.getLast?_eq_getElem?]at h5;have h6:=(List.getElem?_eq_some_iff.1 h5);obtain ⟨h7,h8⟩:=h6;exact ⟨om,by rw [Jp [] _ h7,h8]⟩
 have J:Lt [] (pfx rs (l+1)):=(Jzv (Gv u) _).1;by_cases hs2:l+2<=stp rs x
 .have U:pfx (rs++[x]) (l+2)=pfx rs (l+2):=by rw [Jjb h hl om,if_pos hs2]
  unfold Fst;rw [Z,U];exact ⟨h1,G,h3⟩
 .have U:pfx (rs++[x]) (l+2)=pfx rs (l+2)++[x.take (l+2)]:=by rw [Jjb h hl om,if_neg hs2]
  unfold Fst;rw [Z,U];refine ⟨h1,λj C=>?_,λj i C hi=>?_⟩
  .have:=G j C;rw [List.length_append];omega
  .rw [List.length_append,List.length_singleton]at hi;rw [Kz];by_cases hi2:i<(pfx rs (l+2)).length
   .rw [if_pos hi2];exact h3 j i C hi2
   .rw [if_neg hi2,if_pos om,take_take',<-o.2];have ei:i=(pfx rs (l+2)).length:=om
    constructor
    .intro e;have O:=Qht J om om e;exact ⟨by rw [ei];exact G j C,λh'=>om⟩
    .rintro ⟨_,h'⟩;by_cases O:j+1<f.length
     .have:=h' O;have:=G (j+1) O;omega
     .congr 1;omega
theorem Fst.more(hF:Fst rs l f)(h:Lt [] (rs++[x]))(hl:∀ r∈rs++[x],r.length=d)(hs:stp rs x<=l): Fst (rs++[x]) l (f++[(pfx rs (l+2)).length]):=by
 obtain ⟨U,J,O⟩:=hF;have u:Lt [] rs:=(List.pairwise_append.1 h).1;have e1:pfx (rs++[x]) (l+1)=pfx rs (l+1)++[x.take (l+1)]:=by rw [Jjb h hl om,if_neg om]
 have Z:pfx (rs++[x]) (l+2)=pfx rs (l+2)++[x.take (l+2)]:=by rw [Jjb h hl om,if_neg om]
 have hn:=Qfg h hl (l:=l+1) om om;unfold Fst;rw [e1,Z];refine ⟨by simp [U],λj C=>?_,λj i C hi=>?_⟩
 .rw [List.length_append,List.length_singleton]at C;rw [Kz,List.length_append,List.length_singleton];by_cases hj2:j<f.length
  .rw [if_pos hj2];have:=J j hj2;omega
  .rw [if_neg hj2,if_pos om];omega
 .rw [List.length_append,List.length_singleton]at hi C;rw [Kz [],Kz [],Kz 0,Kz 0,List.length_append,List.length_singleton];by_cases hj2:j<f.length<;>by_cases hi2:i<(pfx rs (l+2)).length
  .rw [if_pos hi2,if_pos (show j<(pfx rs (l+1)).length by omega),if_pos hj2,O j i hj2 hi2];by_cases ej:j+1<f.length
   .rw [if_pos ej];exact ⟨λo=>⟨o.1,λ_=>o.2 ej⟩,λo=>⟨o.1,λ_=>o.2 om⟩⟩
   .rw [if_neg ej,if_pos om];exact ⟨λo=>⟨o.1,λ_=>hi2⟩,λo=>⟨o.1,λe=>absurd e ej⟩⟩
  .rw [if_neg hi2,if_pos (show i=(pfx rs (l+2)).length by omega),if_pos (show j<(pfx rs (l+1)).length by omega),if_pos hj2,take_take'];constructor
   .intro e;exact absurd (e ▸ getD_mem' [] _ om) hn
   .rintro ⟨_,o⟩;have G:=o om;by_cases ej:j+1<f.length
    .rw [if_pos ej]at G;have:=J (j+1) ej;omega
    .rw [if_neg ej,if_pos om]at G;omega
  .rw [if_pos hi2,if_neg (show ¬ j<(pfx rs (l+1)).length by omega),if_pos (show j=(pfx rs (l+1)).length by omega),if_neg hj2,if_pos (show j=f.length by omega)];constructor
   .intro e;exact absurd (e ▸ Qff (Gv u) hi2) hn
   .rintro ⟨o,_⟩;omega
  .rw [if_neg hi2,if_pos (show i=(pfx rs (l+2)).length by omega),if_neg (show ¬ j<(pfx rs (l+1)).length by omega),if_pos (show j=(pfx rs (l+1)).length by omega),if_neg hj2,if_pos (show j=f.length by omega),take_take'];exact ⟨λ_=>⟨om,λe=>om⟩,λ_=>rfl⟩
def Chl(rs:List Row)(l:Nat)(f:List Nat): Prop:=f.length=(pfx rs (l+1)).length+1/\(∀ j,j<f.length->f.getD j 0<=(pfx rs (l+2)).length) /\
 ∀ j i,j+1<f.length->i<(pfx rs (l+2)).length->(((pfx rs (l+2)).getD i []).take (l+1)=(pfx rs (l+1)).getD j []↔f.getD j 0<=i/\i<f.getD (j+1) 0)
theorem Fst.close(hF:Fst rs l f): Chl rs l (f++[(pfx rs (l+2)).length]):=by
 obtain ⟨J,G,C⟩:=hF;refine ⟨by simp [J],λj u=>?_,λj i u hi=>?_⟩
 .rw [List.length_append,List.length_singleton]at u;rw [Kz];by_cases hj2:j<f.length
  .rw [if_pos hj2];exact G j hj2
  .rw [if_neg hj2,if_pos om];exact Nat.le_refl _
 .rw [List.length_append,List.length_singleton]at u;rw [Kz 0,Kz 0,if_pos om,C j i om hi];by_cases ej:j+1<f.length
  .rw [if_pos ej];exact ⟨λo=>⟨o.1,o.2 ej⟩,λo=>⟨o.1,λ_=>o.2⟩⟩
  .rw [if_neg ej,if_pos om];exact ⟨λo=>⟨o.1,hi⟩,λo=>⟨o.1,λe=>absurd e ej⟩⟩
theorem Fst.nil(l:Nat): Fst [] l []:=⟨rfl,λj o=>by simp at o,λj i o=>by simp at o⟩
theorem Jsr(h:Lt [] (rs++[x]))(hl:∀ r∈rs++[x],r.length=d)(hd:l<d): lvl (rs++[x]) l=if l+1<=stp rs x then lvl rs l else lvl rs l++[x.getD l V0]:=by
 unfold lvl;rw [Jjb h hl om];split
 .rfl
 .rw [List.map_append];have:x.length=d:=hl x (by simp);simp [List.getD]
end Go.Proofs.YtebcagekopgdhaaGreatDoor
namespace Go.Wk
open Go.RowKit
variable {c' news xs:List Value}{d i k l m m' n ty:Nat}{α:Type}{v v' z:Value}
def upd(f:Nat->α)(i:Nat)(x:α): Nat->α:=λk=>if k=i then x else f k
theorem Jg(f:Nat->α)(i:Nat)(x:α): upd f i x i=x:=by simp [upd]
theorem Jy(f:Nat->α)(x:α)(h:k≠i): upd f i x k=f k:=by simp [upd,h]
structure Fam(w:World)(base e sz n:Nat)(v:Nat->Value)(m:Nat->Nat)(c:Nat->List Value): Prop where
 own:∀ i,i<n->w.ownsRow base e sz (v i) (m i) (c i)
 dis:∀ i j g,i<n->j<n->i≠j->(v i).ownBlock=some g->(v j).ownBlock≠some g
section
variable {w w':World} {base e sz n:Nat} {v:Nat->Value} {m:Nat->Nat} {c:Nat->List Value}
theorem Fam.ext(h:Fam w base e sz n v m c)(hx:Ext w w'): Fam w' base e sz n v m c:=⟨λi hi=>Jk (h.own i hi) hx,h.dis⟩
theorem Fam.gr{N:Nat->Prop}(h:Fam w base e sz n v m c)(hg:GrN N w w')(hN:∀ i g,i<n->(v i).ownBlock=some g->¬ N g): Fam w' base e sz n v m c:=⟨λi hi=>Jr (h.own i hi) hg (hN i · hi),h.dis⟩
theorem Fam.other{base' e' sz':Nat}(h:Fam w base e sz n v m c)(h':w.ownsRow base' e' sz' v' m' xs)(hg:w.grownBy w' v'.ownBlock)(hne:Nat.beq e e'=false): Fam w' base e sz n v m c :=
 ⟨λi hi=>Zj (h.own i hi) h' hg hne,h.dis⟩
theorem Fam.lt(h:Fam w base e sz n v m c){g:Nat}(hi:i<n)(hg:(v i).ownBlock=some g): base<=g/\g<w.heap.size:=by
 obtain ⟨_,_,_,_,o⟩:=Jv (h.own i hi);exact o g hg
theorem Fam.upd(h:Fam w base e sz n v m c)(hi:i<n)(ho:w'.ownsRow base e sz v' m' c')(hg:w.grownBy w' (v i).ownBlock)(hb:∀ g,v'.ownBlock=some g->(v i).ownBlock=some g∨w.heap.size<=g):
  Fam w' base e sz n (upd v i v') (upd m i m') (upd c i c'):=by
 refine ⟨λk u=>?_,λk j g u J o G C=>?_⟩
 .by_cases e:k=i
  .subst e;rw [Jg,Jg,Jg];exact ho
  .rw [Jy _ _ e,Jy _ _ e,Jy _ _ e];refine (h.own k u).kept hg ?_;cases hb2:(v k).ownBlock with
   | none=>exact .inl rfl
   | some g=>exact .inr (λO=>h.dis k i g u hi e hb2 O.symm)
 .by_cases ek:k=i<;>by_cases ej:j=i
  .omega
  .subst ek;rw [Jg]at G;rw [Jy _ _ ej]at C;rcases hb g G with h'|h'
   .exact h.dis k j g u J o h' C
   .have:=(h.lt J C).2;omega
  .subst ej;rw [Jg]at C;rw [Jy _ _ ek]at G;rcases hb g C with h'|h'
   .exact h.dis k j g u J o G h'
   .have:=(h.lt u G).2;omega
  .rw [Jy _ _ ek]at G;rw [Jy _ _ ej]at C;exact h.dis k j g u J o G C
end
def Zd(d:Nat)(f g:Nat->Value): List Value:=(List.range d).flatMap λl=>[f l,g l]
theorem Ko(d:Nat)(f g:Nat->Value): Zd (d+1) f g=Zd d f g++[f d,g d]:=by simp [Zd,List.range_succ,List.flatMap_append]
theorem Zx(d:Nat)(f g:Nat->Value): (Zd d f g).length=d*2:=by
 induction d with
 | zero=>rfl
 | succ d ih=>rw [Ko,List.length_append,ih];simp;omega
theorem Kk(d:Nat)(f g:Nat->Value)(h:l<d): (Zd d f g)[l*2]?=some (f l)/\(Zd d f g)[l*2+1]?=some (g l):=by
 induction d with
 | zero=>omega
 | succ d ih=>
  rw [Ko];by_cases e:l=d
  .subst e;rw [List.getElem?_append_right (by rw [Zx];omega),List.getElem?_append_right (by rw [Zx];omega),Zx];rw [Nat.sub_self,Nat.add_sub_cancel_left];exact ⟨rfl,rfl⟩
  .rw [List.getElem?_append_left (by rw [Zx];omega),List.getElem?_append_left (by rw [Zx];omega)];exact ih om
theorem Qjm{f g f' g':Nat->Value}(h1:∀ l,l<d->f l=f' l)(h2:∀ l,l<d->g l=g' l): Zd d f g=Zd d f' g':=by
 induction d with
 | zero=>rfl
 | succ d ih=>rw [Ko,Ko,ih (λl o=>h1 l om) (λl o=>h2 l om),h1 d om,h2 d om]
theorem Qjl(d:Nat)(f g:Nat->Value)(h:l<d)(u:Value): (Zd d f g).set (l*2) u=Zd d (upd f l u) g:=by
 induction d with
 | zero=>omega
 | succ d ih=>
  rw [Ko,Ko];by_cases e:l=d
  .subst e;rw [List.set_append_right _ _ (by rw [Zx];omega),Zx,Nat.sub_self,List.set_cons_zero,Jg];congr 1
   exact Qjm (λk o=>(Jy _ _ om).symm) (λk o=>rfl)
  .rw [List.set_append_left _ _ (by rw [Zx];omega),ih om,Jy _ _ om]
theorem Qjk(d:Nat)(f g:Nat->Value)(h:l<d)(u:Value): (Zd d f g).set (l*2+1) u=Zd d f (upd g l u):=by
 induction d with
 | zero=>omega
 | succ d ih=>
  rw [Ko,Ko];by_cases e:l=d
  .subst e;rw [List.set_append_right _ _ (by rw [Zx];omega),Zx,Nat.add_sub_cancel_left,List.set_cons_succ,List.set_cons_zero,Jg];congr 1
   exact Qjm (λk o=>rfl) (λk o=>(Jy _ _ om).symm)
  .rw [List.set_append_left _ _ (by rw [Zx];omega),ih om,Jy _ _ om]
theorem apb{P:Program}{al:AL}{w:World}{Q:Exit->Act->World->Prop}{ops:Array Oper}{rest:List Oper}{pos:String}{aft:Array Edge}{t e sz bytes base:Nat}(hE:ElT P t e sz bytes z){x y:Operand}{A':Option Addr}{c':Nat}(ha:w.ownsRow base e sz v m xs)(hr:Rd w sz A' m' news)(h1:∀ u∈news,u.oneCell'=true)(h63:m+m'<=maxLen)(hby:(m+m')*bytes<=140737488355328)(hbase:base<=w.heap.size)(kk:∀ v' w',w'.ownsRow base e sz v' (m+m') (xs++news)->w.grownBy w' v.ownBlock->(∀ g,v'.ownBlock=some g->v.ownBlock=some g∨w.heap.size<=g)->WL P n ops Q rest ((d,v')::al) w')(hx:ev al x=some v:=by rfl)(hy:ev al y=some (.slice A' m' c'):=by rfl)(hd:Nat.blt d n=true:=by rfl):
  WL P n ops Q (⟨some d,.call { callee:=.builtin .append,args:=#[x,y],argTypes:=#[t,t] },ty,pos,aft,none⟩::rest) al w:=by
 obtain ⟨v',w',o,Z,U,O,J,G⟩:=Jph hE base ty (.inl ha) (c':=c') hr h1 h63 hby hbase;refine wop hd (λa C=>?_) (kk v' w' (O ha) (J.elim (·.2) (λh=>Zg h _)) G)
 simp [execOp,resolve,invoke,builtin,C.ev hx,C.ev hy,o]
end Go.Wk
