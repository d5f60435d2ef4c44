/- Part 9. -/
import Derived.Test.YtebcagekopgdhaaGreatDoorB08
set_option linter.unusedVariables false
set_option maxRecDepth 100000
set_option maxHeartbeats 40000000
namespace Go.Proofs.YtebcagekopgdhaaGreatDoor
open Go.RowKit Pl Go.Wk
attribute [local irreducible] WC WL QX WD WDB WP
section
variable {ds:List Bool} {q:List Pr} {P:Pr->Bool} {i j:Nat}
theorem suT(h:(decide (i<=j) && P (q.getD i z0))=true): Go.Sort.scanUp P q.toArray j i=Go.Sort.scanUp P q.toArray j (i+1):=by
 rw [Go.Sort.scanUp,az,if_pos h]
theorem suF(h:(decide (i<=j) && P (q.getD i z0))=false): Go.Sort.scanUp P q.toArray j i=i:=by
 rw [Go.Sort.scanUp,az,if_neg (by rw [h];decide)]
theorem sdT(hi:1<=i)(h:(decide (i<=j) && P (q.getD j z0))=true): Go.Sort.scanDown P q.toArray i j=Go.Sort.scanDown P q.toArray i (j-1):=by
 cases j with
 | zero=>simp at h;omega
 | succ j=>rw [Go.Sort.scanDown,az,if_pos h];rfl
theorem sdF(h:(decide (i<=j) && P (q.getD j z0))=false): Go.Sort.scanDown P q.toArray i j=j:=by
 cases j with
 | zero=>rfl
 | succ j=>rw [Go.Sort.scanDown,az,if_neg (by rw [h];decide)]
theorem Qch{a i0 j0:Nat}(hU:Go.Sort.scanUp (λx=>!ltP ds (q.getD a z0) x) q.toArray j0 i0=i)(hN:Go.Sort.scanDown (λx=>ltP ds (q.getD a z0) x) q.toArray i j0=j)(h1:i0<=i)(h2:j<=j0):
  Go.Sort.partEqLoop (ltP ds) a i0 j0 q.toArray=if i > j then (i,q.toArray) else Go.Sort.partEqLoop (ltP ds) a (i+1) (j-1) (swp z0 q i j).toArray:=by
 rw [Go.Sort.partEqLoop];simp only [az,hU,hN,swz];by_cases h:i > j
 .rw [if_pos h,if_pos h]
 .rw [if_neg h,if_neg h,dif_pos om]
theorem partZ{a i0 j0:Nat}(hU:Go.Sort.scanUp (λx=>ltP ds x (q.getD a z0)) q.toArray j0 i0=i)(hN:Go.Sort.scanDown (λx=>!ltP ds x (q.getD a z0)) q.toArray i j0=j)(h1:i0<=i)(h2:j<=j0):
  Go.Sort.partLoop (ltP ds) a i0 j0 q.toArray=if i > j then (j,q.toArray) else Go.Sort.partLoop (ltP ds) a (i+1) (j-1) (swp z0 q i j).toArray:=by
 rw [Go.Sort.partLoop];simp only [az,hU,hN,swz];by_cases h:i > j
 .rw [if_pos h,if_pos h]
 .rw [if_neg h,if_neg h,dif_pos om]
theorem Qcf{a b pv:Nat}{ps:List Pr}(hq:swp z0 ps a pv=q)(hU:Go.Sort.scanUp (λx=>ltP ds x (q.getD a z0)) q.toArray (b-1) (a+1)=i)(hN:Go.Sort.scanDown (λx=>!ltP ds x (q.getD a z0)) q.toArray i (b-1)=j):
  Go.Sort.partition (ltP ds) ps.toArray a b pv=if i > j then (j,true,(swp z0 q j a).toArray) else ((Go.Sort.partLoop (ltP ds) a (i+1) (j-1) (swp z0 q i j).toArray).1,false,Go.Sort.swp (Go.Sort.partLoop (ltP ds) a (i+1) (j-1) (swp z0 q i j).toArray).2 (Go.Sort.partLoop (ltP ds) a (i+1) (j-1) (swp z0 q i j).toArray).1 a):=by
 unfold Go.Sort.partition;rw [swz,hq];simp only [az,hU,hN,swz]
theorem ssT{b:Nat}(h:(decide (i<b) && !ltP ds (q.getD i z0) (q.getD (i-1) z0))=true): Go.Sort.scanSorted (ltP ds) q.toArray b i=Go.Sort.scanSorted (ltP ds) q.toArray b (i+1):=by
 rw [Go.Sort.scanSorted,az,az,if_pos h]
theorem ssF{b:Nat}(h:(decide (i<b) && !ltP ds (q.getD i z0) (q.getD (i-1) z0))=false): Go.Sort.scanSorted (ltP ds) q.toArray b i=i:=by
 rw [Go.Sort.scanSorted,az,az,if_neg (by rw [h];decide)]
theorem Qcb{a b s i0:Nat}(hS:Go.Sort.scanSorted (ltP ds) q.toArray b i0=i):
  Go.Sort.partialIns (ltP ds) a b (s+1) i0 q.toArray=if i=b then (q.toArray,true) else if b-a<50 then (q.toArray,false) else
   Go.Sort.partialIns (ltP ds) a b s i (if b-i ≥ 2 then Go.Sort.shiftUp (ltP ds) b (i+1) (if i-a ≥ 2 then Go.Sort.shiftDown (ltP ds) (i-1) (swp z0 q i (i-1)).toArray else (swp z0 q i (i-1)).toArray) else (if i-a ≥ 2 then Go.Sort.shiftDown (ltP ds) (i-1) (swp z0 q i (i-1)).toArray else (swp z0 q i (i-1)).toArray)):=by
 rw [Go.Sort.partialIns];simp only [hS,swz]
theorem shd{m:Nat}(h:1<=m): Go.Sort.shiftDown (ltP ds) m q.toArray=if (!ltP ds (q.getD m z0) (q.getD (m-1) z0))=true then q.toArray else Go.Sort.shiftDown (ltP ds) (m-1) (swp z0 q m (m-1)).toArray:=by
 cases m with
 | zero=>omega
 | succ m=>rw [Go.Sort.shiftDown,az,az,swz];rfl
theorem shu0{b m:Nat}{d:Array Pr}(h:¬ m<b): Go.Sort.shiftUp (ltP ds) b m d=d:=by rw [Go.Sort.shiftUp,if_neg h]
theorem shu{b m:Nat}(h:m<b): Go.Sort.shiftUp (ltP ds) b m q.toArray=if (!ltP ds (q.getD m z0) (q.getD (m-1) z0))=true then q.toArray else Go.Sort.shiftUp (ltP ds) b (m+1) (swp z0 q m (m-1)).toArray:=by
 rw [Go.Sort.shiftUp,if_pos h,az,az,swz]
end
theorem Qcg{w:World}{base:Nat}{A:Option Addr}{n c:Nat}{fid:FuncId}{first cap:Array Value}{ps:List Pr}{ds:List Bool}(hD:Dat w base (.slice A n c) ps)(hn:ps.length=n)(hmx:n<=140737488355328)(hC:CF w (Value.slice A n c).ownBlock fid first cap ps ds){a b pv:Nat}{ai bi pvi:Int}(hai:ai=(a:Int))(hbi:bi=(b:Int))(hpvi:pvi=(pv:Int))(hab:a<b)(hb:b<=n)(hp0:a<=pv)(hp1:pv<b):
  Ret Tryz.prog 181 [.slice A n c,.int .i64 ai,.int .i64 bi,.int .i64 pvi,.func (.func fid) first cap] w λv w'=>∃ ps',DP w w' base A n c ps ps'/\∃ m:Nat,v=.int .i64 (m:Int)/\a<m/\m<=b/\Go.Sort.partitionEqual (ltP ds) ps.toArray a b pv=(m,ps'.toArray):=by
 subst hai;subst hbi;subst hpvi;refine Jz Tryz.func181 Tryz.ntmps181 rfl kr rfl ?_;refine ρ ?_;have H:=DP.start hD hn;have la:a<n:=om
 have lp:pv<n:=om
 refine drC 4 [0,1,2,3,4,5,8,9] [(0,6),(0,7),(0,10),(0,11),(0,12),(2,13),(2,14),(2,15)] kr ?_;have Z:=H.drew;obtain ⟨s1,s2,s3,⟨u,s4⟩,s5,s6⟩:=Z.swap la lp;refine ρp ?_;refine dix (pv) Z.rd lp ?_;refine ρd ?_;refine dld (Z.cell lp) ?_;refine ρd ?_;refine dix (a) Z.rd la ?_;refine ρd ?_;refine dld (Z.cell la) ?_;refine ρd ?_;refine dix (a) Z.rd la ?_;refine ρd ?_;refine Jo ?_;refine sto (Z.cell la) s1 ?_ (hv:=Z.one lp);refine ρ ?_;refine Ql ?_;refine Jo ?_;refine ix (pv) s2 lp ?_;refine ρ ?_;refine Ql ?_;refine Jo ?_;refine sto s4 s3 ?_ (hv:=Z.one la);refine ρ ?_;refine Xr (fun (i j:Nat) (q:List Pr)=>[(0,.slice A n c),(1,.int .i64 (a:Int)),(2,.int .i64 (b:Int)),(4,.func (.func fid) first cap),(11,.int .i64 (i:Int)),(12,.int .i64 (j:Int))]) (λi j q w'=>DP w w' base A n c ps q/\Go.Sort.partitionEqual (ltP ds) ps.toArray a b pv=Go.Sort.partEqLoop (ltP ds) a i j q.toArray/\a<i/\i<=b/\a<=j/\j<b) (λi j _=>b+j-i) (a+1) (b-1) _ sO ⟨s5,by unfold Go.Sort.partitionEqual;rw [swz],om⟩ ?_
 clear s1 s2 s3 s4 s5 s6 u Z H;rintro i0 O q w1 ⟨H,hR,a8⟩;refine ρ ?_;refine Qd (fun (i:Nat)=>[(0,.slice A n c),(1,.int .i64 (a:Int)),(2,.int .i64 (b:Int)),(4,.func (.func fid) first cap),(12,.int .i64 (O:Int)),(11,.int .i64 (i:Int))]) (λi w'=>DP w w' base A n c ps q/\i0<=i/\a<i/\i<=b/\Go.Sort.scanUp (λx=>!ltP ds (q.getD a z0) x) q.toArray O i0=Go.Sort.scanUp (λx=>!ltP ds (q.getD a z0) x) q.toArray O i) (λi=>b-i) i0 sO ⟨H,om⟩ ?_;rintro i wS ⟨HS,a3⟩;refine ρ ?_;refine Xa (fun (t:Bool)=>[(0,.slice A n c),(1,.int .i64 (a:Int)),(2,.int .i64 (b:Int)),(4,.func (.func fid) first cap),(12,.int .i64 (O:Int)),(11,.int .i64 (i:Int)),(47,.bool t)]) (λt w'=>DP w w' base A n c ps q/\(t=true->i<=O)/\t=(decide (i<=O) && (λx=>!ltP ds (q.getD a z0) x) (q.getD i z0))) ?_ ?_
 .skip
  refine dr [(0,0),(0,1),(0,2),(0,3),(0,4),(0,5),(0,6),(0,7),(0,8),(0,9),(0,10),(0,11),(0,12),(1,13),(0,14),(0,15),(0,16)] kr ?_;have o:=HS.drew;refine ρd ?_;refine dki 34 (λh=>?_) (λh=>?_)
  .have hT:i<=O:=by have:=oT h;omega
   have lx:a<n:=om
   have ly:i<n:=om
   refine ρd ?_;refine dix (a) o.rd lx ?_;refine ρd ?_;refine dld (o.cell lx) ?_;refine ρd ?_;refine dix (i) o.rd ly ?_;refine ρd ?_;refine dld (o.cell ly) ?_;refine ρd ?_;refine Za (hC.callV o lx ly) ?_;rintro r a6 ⟨rfl,G⟩;refine ⟨G,?_⟩;have HT:=o.ext G;refine ρd ?_;refine ρ ?_;exact Jb _ sB ⟨HT,λ_=>hT,by rw [decide_eq_true hT];rfl⟩
  .refine ρd ?_;refine ρ ?_;exact Jb false sB ⟨o,(λe=>by cases e),by rw [decide_eq_false (show ¬ i<=O by have:=oF h;omega)];rfl⟩
 rintro t a5 ⟨a4,U,J⟩;refine ci (λh=>?_) (λh=>?_)
 .have:=U h;have a7:=suT (P:=(λx=>!ltP ds (q.getD a z0) x)) (J.symm.trans h);refine ρ ?_;exact Qw (i+1) sO ⟨a4,om⟩ om
 have hU:Go.Sort.scanUp (λx=>!ltP ds (q.getD a z0) x) q.toArray O i0=i:=a3.2.2.2.trans (suF (P:=(λx=>!ltP ds (q.getD a z0) x)) (J.symm.trans h));clear U HS h J;refine ρ ?_;refine Qd (fun (j:Nat)=>[(0,.slice A n c),(1,.int .i64 (a:Int)),(2,.int .i64 (b:Int)),(4,.func (.func fid) first cap),(11,.int .i64 (i:Int)),(12,.int .i64 (j:Int))]) (λj w'=>DP w w' base A n c ps q/\j<=O/\a<=j/\j<b/\Go.Sort.scanDown (λx=>ltP ds (q.getD a z0) x) q.toArray i O=Go.Sort.scanDown (λx=>ltP ds (q.getD a z0) x) q.toArray i j) (λj=>j) O sO ⟨a4,om⟩ ?_;rintro j wS ⟨HS,a2⟩;refine ρ ?_;refine Xa (fun (t:Bool)=>[(0,.slice A n c),(1,.int .i64 (a:Int)),(2,.int .i64 (b:Int)),(4,.func (.func fid) first cap),(11,.int .i64 (i:Int)),(12,.int .i64 (j:Int)),(65,.bool t)]) (λt w'=>DP w w' base A n c ps q/\(t=true->i<=j)/\t=(decide (i<=j) && (λx=>ltP ds (q.getD a z0) x) (q.getD j z0))) ?_ ?_
 .skip
  refine dr [(0,0),(0,1),(0,2),(0,3),(0,4),(0,5),(0,6),(0,7),(0,8),(0,9),(0,10),(0,11),(0,12),(1,13),(0,14),(0,15)] kr ?_;have o:=HS.drew;refine ρd ?_;refine dki 53 (λh=>?_) (λh=>?_)
  .have hT:i<=j:=by have:=oT h;omega
   have lx:a<n:=om
   have ly:j<n:=om
   refine ρd ?_;refine dix (a) o.rd lx ?_;refine ρd ?_;refine dld (o.cell lx) ?_;refine ρd ?_;refine dix (j) o.rd ly ?_;refine ρd ?_;refine dld (o.cell ly) ?_;refine ρd ?_;refine Za (hC.callV o lx ly) ?_;rintro r a6 ⟨rfl,G⟩;refine ⟨G,?_⟩;have HT:=o.ext G;refine ρd ?_;refine ρ ?_;exact Jb _ sB ⟨HT,λ_=>hT,by rw [decide_eq_true hT];rfl⟩
  .refine ρd ?_;refine ρ ?_;exact Jb false sB ⟨o,(λe=>by cases e),by rw [decide_eq_false (show ¬ i<=j by have:=oF h;omega)];rfl⟩
 rintro t a5 ⟨a1,U,J⟩;refine ci (λh=>?_) (λh=>?_)
 .have:=U h;have a7:=sdT (P:=(λx=>ltP ds (q.getD a z0) x)) (show 1<=i by omega) (J.symm.trans h);refine ρ ?_;exact Qw (j-1) sO ⟨a1,om⟩ om
 have hN:Go.Sort.scanDown (λx=>ltP ds (q.getD a z0) x) q.toArray i O=j:=a2.2.2.2.trans (sdF (P:=(λx=>ltP ds (q.getD a z0) x)) (J.symm.trans h));clear U HS h J;refine ρ ?_;rw [Qch hU hN a3.1 a2.1]at hR;refine ci (λh=>?_) (λh=>?_)
 .rw [if_pos (show i > j by have:=oT h;omega)]at hR;refine ρ ?_;exact Jj ⟨q,a1,i,rfl,om,om,hR⟩
 have hT:i<=j:=by have:=oF h;omega
 rw [if_neg (show ¬ i > j by omega)]at hR;have li:i<n:=om
 have lj:j<n:=om
 refine ρ ?_;refine drC 4 [0,1,2,3,4,5,8,9] [(0,6),(0,7),(0,10),(0,11),(0,12),(2,13),(2,14),(2,15)] kr ?_;have C:=a1.drew;obtain ⟨s1,s2,s3,⟨u,s4⟩,s5,s6⟩:=C.swap li lj;refine ρp ?_;refine dix (j) C.rd lj ?_;refine ρd ?_;refine dld (C.cell lj) ?_;refine ρd ?_;refine dix (i) C.rd li ?_;refine ρd ?_;refine dld (C.cell li) ?_;refine ρd ?_;refine dix (i) C.rd li ?_;refine ρd ?_;refine Jo ?_;refine sto (C.cell li) s1 ?_ (hv:=C.one lj);refine ρ ?_;refine Ql ?_;refine Jo ?_;refine ix (j) s2 lj ?_;refine ρ ?_;refine Ql ?_;refine Jo ?_;refine sto s4 s3 ?_ (hv:=C.one li);refine ρ ?_;exact Qa (i+1) (j-1) _ sO ⟨s5,hR,om⟩ om
theorem Qcd{w:World}{base:Nat}{A:Option Addr}{n c:Nat}{fid:FuncId}{first cap:Array Value}{ps:List Pr}{ds:List Bool}(hD:Dat w base (.slice A n c) ps)(hn:ps.length=n)(hmx:n<=140737488355328)(hC:CF w (Value.slice A n c).ownBlock fid first cap ps ds){a b pv:Nat}{ai bi pvi:Int}(hai:ai=(a:Int))(hbi:bi=(b:Int))(hpvi:pvi=(pv:Int))(hab:a<b)(hb:b<=n)(hp0:a<=pv)(hp1:pv<b):
  Ret Tryz.prog 182 [.slice A n c,.int .i64 ai,.int .i64 bi,.int .i64 pvi,.func (.func fid) first cap] w λv w'=>∃ ps',DP w w' base A n c ps ps'/\∃ (m:Nat) (t:Bool),v=.tuple #[.int .i64 (m:Int),.bool t]/\a<=m/\m<b/\Go.Sort.partition (ltP ds) ps.toArray a b pv=(m,t,ps'.toArray):=by
 subst hai;subst hbi;subst hpvi;refine Jz Tryz.func182 Tryz.ntmps182 rfl kr rfl ?_;refine ρ ?_;have H:=DP.start hD hn;have la:a<n:=om
 have lp:pv<n:=om
 refine drC 4 [0,1,2,3,4,5,8,9] [(0,6),(0,7),(0,10),(0,11),(0,12),(2,13),(2,14),(2,15)] kr ?_;have Hd:=H.drew;obtain ⟨s1,s2,s3,⟨u,s4⟩,s5,s6⟩:=Hd.swap la lp;refine ρp ?_;refine dix (pv) Hd.rd lp ?_;refine ρd ?_;refine dld (Hd.cell lp) ?_;refine ρd ?_;refine dix (a) Hd.rd la ?_;refine ρd ?_;refine dld (Hd.cell la) ?_;refine ρd ?_;refine dix (a) Hd.rd la ?_;refine ρd ?_;refine Jo ?_;refine sto (Hd.cell la) s1 ?_ (hv:=Hd.one lp);refine ρ ?_;refine Ql ?_;refine Jo ?_;refine ix (pv) s2 lp ?_;refine ρ ?_;refine Ql ?_;refine Jo ?_;refine sto s4 s3 ?_ (hv:=Hd.one la);refine ρ ?_;generalize hq:swp z0 ps a pv=q at s5
 have H5:=s5;clear s1 s2 s3 s4 s5 s6 u Hd H;obtain ⟨i0,aa⟩:∃ i0:Nat,i0=a+1:=⟨_,rfl⟩;obtain ⟨O,a9⟩:∃ O:Nat,O=b-1:=⟨_,rfl⟩;refine Qd (fun (i:Nat)=>[(0,.slice A n c),(1,.int .i64 (a:Int)),(2,.int .i64 (b:Int)),(4,.func (.func fid) first cap),(13,.int .i64 (O:Int)),(12,.int .i64 (i:Int))]) (λi w'=>DP w w' base A n c ps q/\i0<=i/\a<i/\i<=b/\Go.Sort.scanUp (λx=>ltP ds x (q.getD a z0)) q.toArray O i0=Go.Sort.scanUp (λx=>ltP ds x (q.getD a z0)) q.toArray O i) (λi=>b-i) i0 sO ⟨H5,om⟩ ?_;rintro i wS ⟨HS,a5⟩;refine ρ ?_;refine Xa (fun (t:Bool)=>[(0,.slice A n c),(1,.int .i64 (a:Int)),(2,.int .i64 (b:Int)),(4,.func (.func fid) first cap),(13,.int .i64 (O:Int)),(12,.int .i64 (i:Int)),(47,.bool t)]) (λt w'=>DP w w' base A n c ps q/\(t=true->i<=O)/\t=(decide (i<=O) && (λx=>ltP ds x (q.getD a z0)) (q.getD i z0))) ?_ ?_
 .skip
  refine dr [(0,0),(0,1),(0,2),(0,3),(0,4),(0,5),(0,6),(0,7),(0,8),(0,9),(0,10),(0,11),(0,12),(1,13),(0,14),(0,15)] kr ?_;have C:=HS.drew;refine ρd ?_;refine dki 35 (λh=>?_) (λh=>?_)
  .have hT:i<=O:=by have:=oT h;omega
   have lx:i<n:=om
   have ly:a<n:=om
   refine ρd ?_;refine dix (i) C.rd lx ?_;refine ρd ?_;refine dld (C.cell lx) ?_;refine ρd ?_;refine dix (a) C.rd ly ?_;refine ρd ?_;refine dld (C.cell ly) ?_;refine ρd ?_;refine Za (hC.callV C lx ly) ?_;rintro r a7 ⟨rfl,G⟩;refine ⟨G,?_⟩;have HT:=C.ext G;refine ρd ?_;refine ρ ?_;exact Jb _ sB ⟨HT,λ_=>hT,by rw [decide_eq_true hT];rfl⟩
  .refine ρd ?_;refine ρ ?_;exact Jb false sB ⟨C,(λe=>by cases e),by rw [decide_eq_false (show ¬ i<=O by have:=oF h;omega)];rfl⟩
 rintro t a6 ⟨a3,a1,J⟩;refine ci (λh=>?_) (λh=>?_)
 .have:=a1 h;have a8:=suT (P:=(λx=>ltP ds x (q.getD a z0))) (J.symm.trans h);refine ρ ?_;exact Qw (i+1) sO ⟨a3,om⟩ om
 have hU:Go.Sort.scanUp (λx=>ltP ds x (q.getD a z0)) q.toArray O i0=i:=a5.2.2.2.trans (suF (P:=(λx=>ltP ds x (q.getD a z0))) (J.symm.trans h));clear a1 HS h J;refine ρ ?_;refine Qd (fun (j:Nat)=>[(0,.slice A n c),(1,.int .i64 (a:Int)),(2,.int .i64 (b:Int)),(4,.func (.func fid) first cap),(12,.int .i64 (i:Int)),(13,.int .i64 (j:Int))]) (λj w'=>DP w w' base A n c ps q/\j<=O/\a<=j/\j<b/\Go.Sort.scanDown (λx=>!ltP ds x (q.getD a z0)) q.toArray i O=Go.Sort.scanDown (λx=>!ltP ds x (q.getD a z0)) q.toArray i j) (λj=>j) O sO ⟨a3,om⟩ ?_;rintro j wS ⟨HS,a4⟩;refine ρ ?_;refine Xa (fun (t:Bool)=>[(0,.slice A n c),(1,.int .i64 (a:Int)),(2,.int .i64 (b:Int)),(4,.func (.func fid) first cap),(12,.int .i64 (i:Int)),(13,.int .i64 (j:Int)),(66,.bool t)]) (λt w'=>DP w w' base A n c ps q/\(t=true->i<=j)/\t=(decide (i<=j) && (λx=>!ltP ds x (q.getD a z0)) (q.getD j z0))) ?_ ?_
 .skip
  refine dr [(0,0),(0,1),(0,2),(0,3),(0,4),(0,5),(0,6),(0,7),(0,8),(0,9),(0,10),(0,11),(0,12),(1,13),(0,14),(0,15),(0,16)] kr ?_;have C:=HS.drew;refine ρd ?_;refine dki 53 (λh=>?_) (λh=>?_)
  .have hT:i<=j:=by have:=oT h;omega
   have lx:j<n:=om
   have ly:a<n:=om
   refine ρd ?_;refine dix (j) C.rd lx ?_;refine ρd ?_;refine dld (C.cell lx) ?_;refine ρd ?_;refine dix (a) C.rd ly ?_;refine ρd ?_;refine dld (C.cell ly) ?_;refine ρd ?_;refine Za (hC.callV C lx ly) ?_;rintro r a7 ⟨rfl,G⟩;refine ⟨G,?_⟩;have HT:=C.ext G;refine ρd ?_;refine ρ ?_;exact Jb _ sB ⟨HT,λ_=>hT,by rw [decide_eq_true hT];rfl⟩
  .refine ρd ?_;refine ρ ?_;exact Jb false sB ⟨C,(λe=>by cases e),by rw [decide_eq_false (show ¬ i<=j by have:=oF h;omega)];rfl⟩
 rintro t a6 ⟨a2,a1,J⟩;refine ci (λh=>?_) (λh=>?_)
 .have:=a1 h;have a8:=sdT (P:=(λx=>!ltP ds x (q.getD a z0))) (show 1<=i by omega) (J.symm.trans h);refine ρ ?_;exact Qw (j-1) sO ⟨a2,om⟩ om
 have hN:Go.Sort.scanDown (λx=>!ltP ds x (q.getD a z0)) q.toArray i O=j:=a4.2.2.2.trans (sdF (P:=(λx=>!ltP ds x (q.getD a z0))) (J.symm.trans h));clear a1 HS h J;refine ρ ?_;have U:a<n:=om
 have Z:j<n:=om
 have hR:=Qcf hq (a9 ▸ aa ▸ hU) (a9 ▸ hN);refine ci (λh=>?_) (λh=>?_)
 .rw [if_pos (show i > j by have:=oT h;omega)]at hR;refine ρ ?_;refine drC 4 [0,1,2,3,4,5,8,9] [(0,6),(0,7),(0,10),(0,11),(0,12),(2,13),(2,14),(2,15)] kr ?_;have o:=a2.drew;obtain ⟨s1,s2,s3,⟨u,s4⟩,s5,s6⟩:=o.swap Z U;refine ρp ?_;refine dix (a) o.rd U ?_;refine ρd ?_;refine dld (o.cell U) ?_;refine ρd ?_;refine dix (j) o.rd Z ?_;refine ρd ?_;refine dld (o.cell Z) ?_;refine ρd ?_;refine dix (j) o.rd Z ?_;refine ρd ?_;refine Jo ?_;refine sto (o.cell Z) s1 ?_ (hv:=o.one U);refine ρ ?_;refine Ql ?_;refine Jo ?_;refine ix (a) s2 U ?_;refine ρ ?_;refine Ql ?_;refine Jo ?_;refine sto s4 s3 ?_ (hv:=o.one Z);refine ρ ?_;exact Ve ⟨_,s5,j,true,rfl,om,om,hR⟩
 have hT:i<=j:=by have:=oF h;omega
 rw [if_neg (show ¬ i > j by omega)]at hR;have li:i<n:=om
 refine ρ ?_;refine drC 4 [0,1,2,3,4,5,8,9] [(0,6),(0,7),(0,10),(0,11),(0,12),(2,13),(2,14),(2,15)] kr ?_;have o:=a2.drew;obtain ⟨s1,s2,s3,⟨u,s4⟩,s5,s6⟩:=o.swap li Z;refine ρp ?_;refine dix (j) o.rd Z ?_;refine ρd ?_;refine dld (o.cell Z) ?_;refine ρd ?_;refine dix (i) o.rd li ?_;refine ρd ?_;refine dld (o.cell li) ?_;refine ρd ?_;refine dix (i) o.rd li ?_;refine ρd ?_;refine Jo ?_;refine sto (o.cell li) s1 ?_ (hv:=o.one Z);refine ρ ?_;refine Ql ?_;refine Jo ?_;refine ix (j) s2 Z ?_;refine ρ ?_;refine Ql ?_;refine Jo ?_;refine sto s4 s3 ?_ (hv:=o.one li);refine ρ ?_;refine Xr (fun (i j:Nat) (q:List Pr)=>[(0,.slice A n c),(1,.int .i64 (a:Int)),(2,.int .i64 (b:Int)),(4,.func (.func fid) first cap),(12,.int .i64 (i:Int)),(13,.int .i64 (j:Int))]) (λi j q w'=>DP w w' base A n c ps q/\Go.Sort.partition (ltP ds) ps.toArray a b pv=((Go.Sort.partLoop (ltP ds) a i j q.toArray).1,false,Go.Sort.swp (Go.Sort.partLoop (ltP ds) a i j q.toArray).2 (Go.Sort.partLoop (ltP ds) a i j q.toArray).1 a)/\a<i/\i<=b/\a<=j/\j<b) (λi j _=>b+j-i) (i+1) (j-1) _ sO ⟨s5,hR,om⟩ ?_
 clear s1 s2 s3 s4 s5 s6 u o a2 a3 a5 a4 U Z li hT hR hU hN hq;clear aa a9;clear h q i0 O i j H5;rintro i0 O q w1 ⟨H,hR,ab⟩;refine ρ ?_;refine Qd (fun (i:Nat)=>[(0,.slice A n c),(1,.int .i64 (a:Int)),(2,.int .i64 (b:Int)),(4,.func (.func fid) first cap),(13,.int .i64 (O:Int)),(12,.int .i64 (i:Int))]) (λi w'=>DP w w' base A n c ps q/\i0<=i/\a<i/\i<=b/\Go.Sort.scanUp (λx=>ltP ds x (q.getD a z0)) q.toArray O i0=Go.Sort.scanUp (λx=>ltP ds x (q.getD a z0)) q.toArray O i) (λi=>b-i) i0 sO ⟨H,om⟩ ?_;rintro i wS ⟨HS,a5⟩;refine ρ ?_;refine Xa (fun (t:Bool)=>[(0,.slice A n c),(1,.int .i64 (a:Int)),(2,.int .i64 (b:Int)),(4,.func (.func fid) first cap),(13,.int .i64 (O:Int)),(12,.int .i64 (i:Int)),(120,.bool t)]) (λt w'=>DP w w' base A n c ps q/\(t=true->i<=O)/\t=(decide (i<=O) && (λx=>ltP ds x (q.getD a z0)) (q.getD i z0))) ?_ ?_
 .skip
  refine dr [(0,0),(0,1),(0,2),(0,3),(0,4),(0,5),(0,6),(0,7),(0,8),(0,9),(0,10),(0,11),(0,12),(1,13),(0,14),(0,15)] kr ?_;have C:=HS.drew;refine ρd ?_;refine dki 108 (λh=>?_) (λh=>?_)
  .have hT:i<=O:=by have:=oT h;omega
   have lx:i<n:=om
   have ly:a<n:=om
   refine ρd ?_;refine dix (i) C.rd lx ?_;refine ρd ?_;refine dld (C.cell lx) ?_;refine ρd ?_;refine dix (a) C.rd ly ?_;refine ρd ?_;refine dld (C.cell ly) ?_;refine ρd ?_;refine Za (hC.callV C lx ly) ?_;rintro r a7 ⟨rfl,G⟩;refine ⟨G,?_⟩;have HT:=C.ext G;refine ρd ?_;refine ρ ?_;exact Jb _ sB ⟨HT,λ_=>hT,by rw [decide_eq_true hT];rfl⟩
  .refine ρd ?_;refine ρ ?_;exact Jb false sB ⟨C,(λe=>by cases e),by rw [decide_eq_false (show ¬ i<=O by have:=oF h;omega)];rfl⟩
 rintro t a6 ⟨a3,a1,J⟩;refine ci (λh=>?_) (λh=>?_)
 .have:=a1 h;have a8:=suT (P:=(λx=>ltP ds x (q.getD a z0))) (J.symm.trans h);refine ρ ?_;exact Qw (i+1) sO ⟨a3,om⟩ om
 have hU:Go.Sort.scanUp (λx=>ltP ds x (q.getD a z0)) q.toArray O i0=i:=a5.2.2.2.trans (suF (P:=(λx=>ltP ds x (q.getD a z0))) (J.symm.trans h));clear a1 HS h J;refine ρ ?_;refine Qd (fun (j:Nat)=>[(0,.slice A n c),(1,.int .i64 (a:Int)),(2,.int .i64 (b:Int)),(4,.func (.func fid) first cap),(12,.int .i64 (i:Int)),(13,.int .i64 (j:Int))]) (λj w'=>DP w w' base A n c ps q/\j<=O/\a<=j/\j<b/\Go.Sort.scanDown (λx=>!ltP ds x (q.getD a z0)) q.toArray i O=Go.Sort.scanDown (λx=>!ltP ds x (q.getD a z0)) q.toArray i j) (λj=>j) O sO ⟨a3,om⟩ ?_;rintro j wS ⟨HS,a4⟩;refine ρ ?_;refine Xa (fun (t:Bool)=>[(0,.slice A n c),(1,.int .i64 (a:Int)),(2,.int .i64 (b:Int)),(4,.func (.func fid) first cap),(12,.int .i64 (i:Int)),(13,.int .i64 (j:Int)),(139,.bool t)]) (λt w'=>DP w w' base A n c ps q/\(t=true->i<=j)/\t=(decide (i<=j) && (λx=>!ltP ds x (q.getD a z0)) (q.getD j z0))) ?_ ?_
 .skip
  refine dr [(0,0),(0,1),(0,2),(0,3),(0,4),(0,5),(0,6),(0,7),(0,8),(0,9),(0,10),(0,11),(0,12),(1,13),(0,14),(0,15),(0,16)] kr ?_;have C:=HS.drew;refine ρd ?_;refine dki 126 (λh=>?_) (λh=>?_)
  .have hT:i<=j:=by have:=oT h;omega
   have lx:j<n:=om
   have ly:a<n:=om
   refine ρd ?_;refine dix (j) C.rd lx ?_;refine ρd ?_;refine dld (C.cell lx) ?_;refine ρd ?_;refine dix (a) C.rd ly ?_;refine ρd ?_;refine dld (C.cell ly) ?_;refine ρd ?_;refine Za (hC.callV C lx ly) ?_;rintro r a7 ⟨rfl,G⟩;refine ⟨G,?_⟩;have HT:=C.ext G;refine ρd ?_;refine ρ ?_;exact Jb _ sB ⟨HT,λ_=>hT,by rw [decide_eq_true hT];rfl⟩
  .refine ρd ?_;refine ρ ?_;exact Jb false sB ⟨C,(λe=>by cases e),by rw [decide_eq_false (show ¬ i<=j by have:=oF h;omega)];rfl⟩
 rintro t a6 ⟨a2,a1,J⟩;refine ci (λh=>?_) (λh=>?_)
 .have:=a1 h;have a8:=sdT (P:=(λx=>!ltP ds x (q.getD a z0))) (show 1<=i by omega) (J.symm.trans h);refine ρ ?_;exact Qw (j-1) sO ⟨a2,om⟩ om
 have hN:Go.Sort.scanDown (λx=>!ltP ds x (q.getD a z0)) q.toArray i O=j:=a4.2.2.2.trans (sdF (P:=(λx=>!ltP ds x (q.getD a z0))) (J.symm.trans h));clear a1 HS h J;refine ρ ?_;have U:a<n:=om
 have Z:j<n:=om
 rw [partZ hU hN a5.1 a4.1]at hR;refine ci (λh=>?_) (λh=>?_)
 .rw [if_pos (show i > j by have:=oT h;omega)]at hR;simp only [swz]at hR;refine ρ ?_;refine drC 4 [0,1,2,3,4,5,8,9] [(0,6),(0,7),(0,10),(0,11),(0,12),(2,13),(2,14),(2,15)] kr ?_;have o:=a2.drew;obtain ⟨s1,s2,s3,⟨u,s4⟩,s5,s6⟩:=o.swap Z U;refine ρp ?_;refine dix (a) o.rd U ?_;refine ρd ?_;refine dld (o.cell U) ?_;refine ρd ?_;refine dix (j) o.rd Z ?_;refine ρd ?_;refine dld (o.cell Z) ?_;refine ρd ?_;refine dix (j) o.rd Z ?_;refine ρd ?_;refine Jo ?_;refine sto (o.cell Z) s1 ?_ (hv:=o.one U);refine ρ ?_;refine Ql ?_;refine Jo ?_;refine ix (a) s2 U ?_;refine ρ ?_;refine Ql ?_;refine Jo ?_;refine sto s4 s3 ?_ (hv:=o.one Z);refine ρ ?_;exact Ve ⟨_,s5,j,false,rfl,om,om,hR⟩
 have hT:i<=j:=by have:=oF h;omega
 rw [if_neg (show ¬ i > j by omega)]at hR;have li:i<n:=om
 refine ρ ?_;refine drC 4 [0,1,2,3,4,5,8,9] [(0,6),(0,7),(0,10),(0,11),(0,12),(2,13),(2,14),(2,15)] kr ?_;have o:=a2.drew;obtain ⟨s1,s2,s3,⟨u,s4⟩,s5,s6⟩:=o.swap li Z;refine ρp ?_;refine dix (j) o.rd Z ?_;refine ρd ?_;refine dld (o.cell Z) ?_;refine ρd ?_;refine dix (i) o.rd li ?_;refine ρd ?_;refine dld (o.cell li) ?_;refine ρd ?_;refine dix (i) o.rd li ?_;refine ρd ?_;refine Jo ?_;refine sto (o.cell li) s1 ?_ (hv:=o.one Z);refine ρ ?_;refine Ql ?_;refine Jo ?_;refine ix (j) s2 Z ?_;refine ρ ?_;refine Ql ?_;refine Jo ?_;refine sto s4 s3 ?_ (hv:=o.one li);refine ρ ?_;exact Qa (i+1) (j-1) _ sO ⟨s5,hR,om⟩ om
theorem Qbz{w:World}{base:Nat}{A:Option Addr}{n c:Nat}{fid:FuncId}{first cap:Array Value}{ps:List Pr}{ds:List Bool}(hD:Dat w base (.slice A n c) ps)(hn:ps.length=n)(hmx:n<=140737488355328)(hC:CF w (Value.slice A n c).ownBlock fid first cap ps ds){a b:Nat}{ai bi:Int}(hai:ai=(a:Int))(hbi:bi=(b:Int))(hab:a+1<b)(hb:b<=n):
  Ret Tryz.prog 180 [.slice A n c,.int .i64 ai,.int .i64 bi,.func (.func fid) first cap] w λv w'=>∃ ps',DP w w' base A n c ps ps'/\∃ t:Bool,v=.bool t/\Go.Sort.partialInsertionSort (ltP ds) ps.toArray a b=(ps'.toArray,t):=by
 subst hai;subst hbi;refine Jz Tryz.func180 Tryz.ntmps180 rfl kr rfl ?_;refine ρ ?_;refine Xr (fun (k i:Nat) (q:List Pr)=>[(0,.slice A n c),(1,.int .i64 (a:Int)),(2,.int .i64 (b:Int)),(3,.func (.func fid) first cap),(9,.int .i64 (i:Int)),(10,.int .i64 (k:Int))]) (λk i q w'=>DP w w' base A n c ps q/\Go.Sort.partialInsertionSort (ltP ds) ps.toArray a b=Go.Sort.partialIns (ltP ds) a b (5-k) i q.toArray/\a<i/\i<=b/\k<=5) (λk _ _=>5-k) 0 (a+1) ps sO ⟨DP.start hD hn,rfl,om⟩ ?_;rintro k i0 q w1 ⟨H,J,aa⟩;refine ρ ?_;refine ci (λh=>?_) (λh=>?_);rotate_left
 .refine ρ ?_;refine Jj ⟨q,H,false,rfl,?_⟩;rw [J,show 5-k=0 by have:=oF h;omega];rfl
 have hk:k<5:=by have:=oT h;omega
 clear h;refine ρ ?_;refine Qd (fun (i:Nat)=>[(0,.slice A n c),(1,.int .i64 (a:Int)),(2,.int .i64 (b:Int)),(3,.func (.func fid) first cap),(10,.int .i64 (k:Int)),(9,.int .i64 (i:Int))]) (λi w'=>DP w w' base A n c ps q/\i0<=i/\a<i/\i<=b/\Go.Sort.scanSorted (ltP ds) q.toArray b i0=Go.Sort.scanSorted (ltP ds) q.toArray b i) (λi=>b-i) i0 sO ⟨H,om⟩ ?_;rintro i wS ⟨HS,a7⟩;refine ρ ?_;refine Xa (fun (t:Bool)=>[(0,.slice A n c),(1,.int .i64 (a:Int)),(2,.int .i64 (b:Int)),(3,.func (.func fid) first cap),(10,.int .i64 (k:Int)),(9,.int .i64 (i:Int)),(36,.bool t)]) (λt w'=>DP w w' base A n c ps q/\(t=true->i<b)/\t=(decide (i<b) && !ltP ds (q.getD i z0) (q.getD (i-1) z0))) ?_ ?_
 .skip
  refine dr [(0,0),(0,1),(0,2),(0,3),(0,4),(0,5),(0,6),(0,7),(0,8),(0,9),(0,10),(0,11),(0,12),(0,13),(1,14),(0,15),(0,16),(0,17)] kr ?_;have Z:=HS.drew;refine ρd ?_;refine dki 22 (λh=>?_) (λh=>?_)
  .have hT:i<b:=by have:=oT h;omega
   have lx:i<n:=om
   have ly:i-1<n:=om
   refine ρd ?_;refine dix (i) Z.rd lx ?_;refine ρd ?_;refine dld (Z.cell lx) ?_;refine ρd ?_;refine dix (i-1) Z.rd ly ?_;refine ρd ?_;refine dld (Z.cell ly) ?_;refine ρd ?_;refine Za (hC.callV Z lx ly) ?_;rintro r a3 ⟨rfl,G⟩;refine ⟨G,?_⟩;have HT:=Z.ext G;refine ρd ?_;refine ρ ?_;exact Jb _ sB ⟨HT,λ_=>hT,by rw [decide_eq_true hT];rfl⟩
  .refine ρd ?_;refine ρ ?_;exact Jb false sB ⟨Z,(λe=>by cases e),by rw [decide_eq_false (show ¬ i<b by have:=oF h;omega)];rfl⟩
 rintro t a8 ⟨a1,a4,a2⟩;refine ci (λh=>?_) (λh=>?_)
 .have:=a4 h;have a9:=ssT (a2.symm.trans h);refine ρ ?_;exact Qw (i+1) sO ⟨a1,om⟩ om
 have a6:Go.Sort.scanSorted (ltP ds) q.toArray b i0=i:=a7.2.2.2.trans (ssF (a2.symm.trans h));rw [show 5-k=(5-(k+1))+1 by omega,Qcb a6]at J;clear a4 HS h a2;refine ρ ?_;refine ci (λh=>?_) (λh=>?_)
 .rw [if_pos (show i=b by have:=Xf h;omega)]at J;refine ρ ?_;exact Jj ⟨q,a1,true,rfl,J⟩
 have ab:i<b:=by have:=Xg h;omega
 rw [if_neg (show ¬ i=b by omega)]at J;clear h;refine ρ ?_;refine ci (λh=>?_) (λh=>?_)
 .rw [if_pos (show b-a<50 by have:=oT h;omega)]at J;refine ρ ?_;exact Jj ⟨q,a1,false,rfl,J⟩
 rw [if_neg (show ¬ b-a<50 by have:=oF h;omega)]at J;clear h;have lx:i<n:=om
 have ly:i-1<n:=om
 refine ρ ?_;refine drC 4 [0,1,2,3,4,5,6,7,10,11] [(0,8),(0,9),(0,12),(0,13),(0,14),(2,15),(2,16),(2,17)] kr ?_;have C:=a1.drew;obtain ⟨s1,s2,s3,⟨u,s4⟩,s5,s6⟩:=C.swap lx ly;refine ρp ?_;refine dix (i-1) C.rd ly ?_;refine ρd ?_;refine dld (C.cell ly) ?_;refine ρd ?_;refine dix (i) C.rd lx ?_;refine ρd ?_;refine dld (C.cell lx) ?_;refine ρd ?_;refine dix (i) C.rd lx ?_;refine ρd ?_;refine Jo ?_;refine sto (C.cell lx) s1 ?_ (hv:=C.one ly);refine ρ ?_;refine Ql ?_;refine Jo ?_;refine ix (i-1) s2 ly ?_;refine ρ ?_;refine Ql ?_;refine Jo ?_;refine sto s4 s3 ?_ (hv:=C.one lx);refine ρ ?_;have H5:=s5;clear s1 s2 s3 s4 s5 s6 u C a1 H;generalize swp z0 q i (i-1)=q5 at H5 J
 refine Xa (fun (q:List Pr)=>[(0,.slice A n c),(1,.int .i64 (a:Int)),(2,.int .i64 (b:Int)),(3,.func (.func fid) first cap),(9,.int .i64 (i:Int)),(10,.int .i64 (k:Int))]) (λq w'=>DP w w' base A n c ps q/\(if i-a ≥ 2 then Go.Sort.shiftDown (ltP ds) (i-1) q5.toArray else q5.toArray)=q.toArray) ?_ ?_
 .refine ci (λh=>?_) (λh=>?_);rotate_left
  .refine ρ ?_;exact Jb _ sB ⟨H5,if_neg (by have:=oF h;omega)⟩
  rw [if_pos (show i-a ≥ 2 by have:=oT h;omega)];refine ρ ?_;refine Jt (fun (m:Nat) (q:List Pr)=>[(0,.slice A n c),(1,.int .i64 (a:Int)),(2,.int .i64 (b:Int)),(3,.func (.func fid) first cap),(9,.int .i64 (i:Int)),(10,.int .i64 (k:Int)),(11,.int .i64 (m:Int))]) (λm q w'=>DP w w' base A n c ps q/\m<n/\Go.Sort.shiftDown (ltP ds) (i-1) q5.toArray=Go.Sort.shiftDown (ltP ds) m q.toArray) (λm _=>m) (i-1) q5 sO ⟨H5,om,rfl⟩ ?_;rintro m q w2 ⟨H,hm,U⟩;refine ρ ?_;refine ci (λh=>?_) (λh=>?_);rotate_left
  .rw [show m=0 by have:=oF h;omega,Go.Sort.shiftDown]at U;refine ρ ?_;exact Jb _ sB ⟨H,U⟩
  have h1:1<=m:=by have:=oT h;omega
  have O:m-1<n:=om
  refine ρ ?_;refine dr [(0,0),(0,1),(0,2),(0,3),(0,4),(0,5),(0,6),(0,7),(0,8),(0,9),(1,10),(0,11),(0,12)] kr ?_;have Hd:=H.drew;refine ρd ?_;refine ρd ?_;refine dix (m) Hd.rd hm ?_;refine ρd ?_;refine dld (Hd.cell hm) ?_;refine ρd ?_;refine dix (m-1) Hd.rd O ?_;refine ρd ?_;refine dld (Hd.cell O) ?_;refine ρd ?_;rw [shd h1]at U;refine Za (hC.callV Hd hm O) ?_;rintro r a3 ⟨rfl,G⟩;refine ⟨G,?_⟩;have HT:=Hd.ext G;refine ρd ?_;refine ρ ?_;refine ci (λh=>?_) (λh=>?_)
  .rw [if_pos (show (!ltP ds (q.getD m z0) (q.getD (m-1) z0))=true from h)]at U;refine ρ ?_;exact Jb _ sB ⟨HT,U⟩
  rw [if_neg (show ¬ (!ltP ds (q.getD m z0) (q.getD (m-1) z0))=true from λe=>by rw [show (!ltP ds (q.getD m z0) (q.getD (m-1) z0))=false from h]at e;cases e)]at U;refine ρ ?_;refine drC 4 [0,1,2,3,4,5,6,7,10,11] [(0,8),(0,9),(0,12),(0,13),(0,14),(2,15),(2,16),(2,17)] kr ?_;have o:=HT.drew;obtain ⟨s1,s2,s3,⟨u,s4⟩,s5,s6⟩:=o.swap hm O;refine ρp ?_;refine dix (m-1) o.rd O ?_;refine ρd ?_;refine dld (o.cell O) ?_;refine ρd ?_;refine dix (m) o.rd hm ?_;refine ρd ?_;refine dld (o.cell hm) ?_;refine ρd ?_;refine dix (m) o.rd hm ?_;refine ρd ?_;refine Jo ?_;refine sto (o.cell hm) s1 ?_ (hv:=o.one O);refine ρ ?_;refine Ql ?_;refine Jo ?_;refine ix (m-1) s2 O ?_;refine ρ ?_;refine Ql ?_;refine Jo ?_;refine sto s4 s3 ?_ (hv:=o.one hm);refine ρ ?_;exact Jg (m-1) _ sO ⟨s5,om,U⟩ om
 clear H5;rintro q6 w5 ⟨H5,a5⟩;rw [a5]at J;clear a5 q5;generalize q6=q5 at H5 J
 clear q6;refine ρ ?_;refine ci (λh=>?_) (λh=>?_);rotate_left
 .rw [if_neg (show ¬ b-i ≥ 2 by have:=oF h;omega)]at J;refine ρ ?_;exact Qa (k+1) i q5 sO ⟨H5,J,om⟩ om
 rw [if_pos (show b-i ≥ 2 by have:=oT h;omega)]at J;refine ρ ?_;refine Jt (fun (m:Nat) (q:List Pr)=>[(0,.slice A n c),(1,.int .i64 (a:Int)),(2,.int .i64 (b:Int)),(3,.func (.func fid) first cap),(9,.int .i64 (i:Int)),(10,.int .i64 (k:Int)),(12,.int .i64 (m:Int))]) (λm q w'=>DP w w' base A n c ps q/\Go.Sort.shiftUp (ltP ds) b (i+1) q5.toArray=Go.Sort.shiftUp (ltP ds) b m q.toArray/\0<m/\m<=b) (λm _=>b-m) (i+1) q5 sO ⟨H5,rfl,om⟩ ?_;rintro m q w2 ⟨H,U,hm⟩;refine ρ ?_;refine ci (λh=>?_) (λh=>?_);rotate_left
 .rw [shu0 (show ¬ m<b by have:=oF h;omega)]at U;rw [U]at J;refine ρ ?_;exact Qa (k+1) i q sO ⟨H,J,om⟩ om
 have h1:m<n:=by have:=oT h;omega
 have h2:m<b:=by have:=oT h;omega
 have O:m-1<n:=om
 refine ρ ?_;refine dr [(0,0),(0,1),(0,2),(0,3),(0,4),(0,5),(0,6),(0,7),(0,8),(0,9),(1,10),(0,11),(0,12)] kr ?_;have Hd:=H.drew;refine ρd ?_;refine ρd ?_;refine dix (m) Hd.rd h1 ?_;refine ρd ?_;refine dld (Hd.cell h1) ?_;refine ρd ?_;refine dix (m-1) Hd.rd O ?_;refine ρd ?_;refine dld (Hd.cell O) ?_;refine ρd ?_;rw [shu h2]at U;refine Za (hC.callV Hd h1 O) ?_;rintro r a3 ⟨rfl,G⟩;refine ⟨G,?_⟩;have HT:=Hd.ext G;refine ρd ?_;refine ρ ?_;refine ci (λh=>?_) (λh=>?_)
 .rw [if_pos (show (!ltP ds (q.getD m z0) (q.getD (m-1) z0))=true from h)]at U;rw [U]at J;refine ρ ?_;exact Qa (k+1) i q sO ⟨HT,J,om⟩ om
 rw [if_neg (show ¬ (!ltP ds (q.getD m z0) (q.getD (m-1) z0))=true from λe=>by rw [show (!ltP ds (q.getD m z0) (q.getD (m-1) z0))=false from h]at e;cases e)]at U;refine ρ ?_;refine drC 4 [0,1,2,3,4,5,6,7,10,11] [(0,8),(0,9),(0,12),(0,13),(0,14),(2,15),(2,16),(2,17)] kr ?_;have o:=HT.drew;obtain ⟨s1,s2,s3,⟨u,s4⟩,s5,s6⟩:=o.swap h1 O;refine ρp ?_;refine dix (m-1) o.rd O ?_;refine ρd ?_;refine dld (o.cell O) ?_;refine ρd ?_;refine dix (m) o.rd h1 ?_;refine ρd ?_;refine dld (o.cell h1) ?_;refine ρd ?_;refine dix (m) o.rd h1 ?_;refine ρd ?_;refine Jo ?_;refine sto (o.cell h1) s1 ?_ (hv:=o.one O);refine ρ ?_;refine Ql ?_;refine Jo ?_;refine ix (m-1) s2 O ?_;refine ρ ?_;refine Ql ?_;refine Jo ?_;refine sto s4 s3 ?_ (hv:=o.one h1);refine ρ ?_;exact Jg (m+1) _ sO ⟨s5,U,om⟩ om
end Go.Proofs.YtebcagekopgdhaaGreatDoor
