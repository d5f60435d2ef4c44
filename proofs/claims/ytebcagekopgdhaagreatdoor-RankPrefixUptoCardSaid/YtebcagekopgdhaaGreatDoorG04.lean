/- Part 4. -/
import Derived.Test.YtebcagekopgdhaaGreatDoorG03
import Derived.Laws.CopyRow
set_option linter.unusedVariables false
set_option maxRecDepth 100000
set_option maxHeartbeats 40000000
namespace Go.Proofs.YtebcagekopgdhaaGreatDoor
open Go.RowKit Pl Go.Wk
attribute [local irreducible] WC WL QX WD WDB WP
variable {cap first:Array Value}{fid:FuncId}{ai bi pvi:Int}{ds:List Bool}{ps:List Pr}{a b base c i0 j0 m n:Nat}{A:Option Addr}{w:World}
section
variable {ds:List Bool} {q:List Pr} {P:Pr->Bool} {i j:Nat}
theorem suT(h:(decide (i<=j) && P (q.getD i z0))=true): Go.Sort.scanUp P q.toArray j i=Go.Sort.scanUp P q.toArray j (i+1):=by
 rw [Go.Sort.scanUp,az,if_pos h]
theorem suF(h:(decide (i<=j) && P (q.getD i z0))=false): Go.Sort.scanUp P q.toArray j i=i:=by
 rw [Go.Sort.scanUp,az,if_neg (by rw [h];decide)]
theorem sdT(hi:1<=i)(h:(decide (i<=j) && P (q.getD j z0))=true): Go.Sort.scanDown P q.toArray i j=Go.Sort.scanDown P q.toArray i (j-1):=by
 cases j with
 | zero=>simp at h;omega
 | succ j=>rw [Go.Sort.scanDown,az,if_pos h];rfl
theorem sdF(h:(decide (i<=j) && P (q.getD j z0))=false): Go.Sort.scanDown P q.toArray i j=j:=by
 cases j with
 | zero=>rfl
 | succ j=>rw [Go.Sort.scanDown,az,if_neg (by rw [h];decide)]
theorem Qgj(hU:Go.Sort.scanUp (λx=>!ltP ds (q.getD a z0) x) q.toArray j0 i0=i)(hN:Go.Sort.scanDown (λx=>ltP ds (q.getD a z0) x) q.toArray i j0=j)(h1:i0<=i)(h2:j<=j0):
  Go.Sort.partEqLoop (ltP ds) a i0 j0 q.toArray=if i > j then (i,q.toArray) else Go.Sort.partEqLoop (ltP ds) a (i+1) (j-1) (swp z0 q i j).toArray:=by
 rw [Go.Sort.partEqLoop];simp only [az,hU,hN,swz];by_cases h:i > j
 .rw [if_pos h,if_pos h]
 .rw [if_neg h,if_neg h,dif_pos om]
theorem partZ(hU:Go.Sort.scanUp (λx=>ltP ds x (q.getD a z0)) q.toArray j0 i0=i)(hN:Go.Sort.scanDown (λx=>!ltP ds x (q.getD a z0)) q.toArray i j0=j)(h1:i0<=i)(h2:j<=j0):
  Go.Sort.partLoop (ltP ds) a i0 j0 q.toArray=if i > j then (j,q.toArray) else Go.Sort.partLoop (ltP ds) a (i+1) (j-1) (swp z0 q i j).toArray:=by
 rw [Go.Sort.partLoop];simp only [az,hU,hN,swz];by_cases h:i > j
 .rw [if_pos h,if_pos h]
 .rw [if_neg h,if_neg h,dif_pos om]
theorem Qgg{pv:Nat}(hq:swp z0 ps a pv=q)(hU:Go.Sort.scanUp (λx=>ltP ds x (q.getD a z0)) q.toArray (b-1) (a+1)=i)(hN:Go.Sort.scanDown (λx=>!ltP ds x (q.getD a z0)) q.toArray i (b-1)=j):
  Go.Sort.partition (ltP ds) ps.toArray a b pv=if i > j then (j,true,(swp z0 q j a).toArray) else ((Go.Sort.partLoop (ltP ds) a (i+1) (j-1) (swp z0 q i j).toArray).1,false,Go.Sort.swp (Go.Sort.partLoop (ltP ds) a (i+1) (j-1) (swp z0 q i j).toArray).2 (Go.Sort.partLoop (ltP ds) a (i+1) (j-1) (swp z0 q i j).toArray).1 a):=by
 unfold Go.Sort.partition;rw [swz,hq];simp only [az,hU,hN,swz]
theorem ssT(h:(decide (i<b) && !ltP ds (q.getD i z0) (q.getD (i-1) z0))=true): Go.Sort.scanSorted (ltP ds) q.toArray b i=Go.Sort.scanSorted (ltP ds) q.toArray b (i+1):=by
 rw [Go.Sort.scanSorted,az,az,if_pos h]
theorem ssF(h:(decide (i<b) && !ltP ds (q.getD i z0) (q.getD (i-1) z0))=false): Go.Sort.scanSorted (ltP ds) q.toArray b i=i:=by
 rw [Go.Sort.scanSorted,az,az,if_neg (by rw [h];decide)]
theorem Qgc{s:Nat}(hS:Go.Sort.scanSorted (ltP ds) q.toArray b i0=i):
  Go.Sort.partialIns (ltP ds) a b (s+1) i0 q.toArray=if i=b then (q.toArray,true) else if b-a<50 then (q.toArray,false) else
   Go.Sort.partialIns (ltP ds) a b s i (if b-i ≥ 2 then Go.Sort.shiftUp (ltP ds) b (i+1) (if i-a ≥ 2 then Go.Sort.shiftDown (ltP ds) (i-1) (swp z0 q i (i-1)).toArray else (swp z0 q i (i-1)).toArray) else (if i-a ≥ 2 then Go.Sort.shiftDown (ltP ds) (i-1) (swp z0 q i (i-1)).toArray else (swp z0 q i (i-1)).toArray)):=by
 rw [Go.Sort.partialIns];simp only [hS,swz]
theorem shd(h:1<=m): Go.Sort.shiftDown (ltP ds) m q.toArray=if (!ltP ds (q.getD m z0) (q.getD (m-1) z0))=true then q.toArray else Go.Sort.shiftDown (ltP ds) (m-1) (swp z0 q m (m-1)).toArray:=by
 cases m with
 | zero=>omega
 | succ m=>rw [Go.Sort.shiftDown,az,az,swz];rfl
theorem shu0{d:Array Pr}(h:¬ m<b): Go.Sort.shiftUp (ltP ds) b m d=d:=by rw [Go.Sort.shiftUp,if_neg h]
theorem shu(h:m<b): Go.Sort.shiftUp (ltP ds) b m q.toArray=if (!ltP ds (q.getD m z0) (q.getD (m-1) z0))=true then q.toArray else Go.Sort.shiftUp (ltP ds) b (m+1) (swp z0 q m (m-1)).toArray:=by
 rw [Go.Sort.shiftUp,if_pos h,az,az,swz]
end
theorem Qgh(hD:Dat w base (.slice A n c) ps)(hn:ps.length=n)(hmx:n<=140737488355328)(hC:CF w (Value.slice A n c).ownBlock fid first cap ps ds){pv:Nat}(hai:ai=(a:Int))(hbi:bi=(b:Int))(hpvi:pvi=(pv:Int))(hab:a<b)(hb:b<=n)(hp0:a<=pv)(hp1:pv<b):
  Ret Tryz.prog 181 [.slice A n c,.int .i64 ai,.int .i64 bi,.int .i64 pvi,.func (.func fid) first cap] w λv w'=>∃ ps',DP w w' base A n c ps ps'/\∃ m:Nat,v=.int .i64 (m:Int)/\a<m/\m<=b/\Go.Sort.partitionEqual (ltP ds) ps.toArray a b pv=(m,ps'.toArray):=by
 subst hai;subst hbi;subst hpvi;refine Jz Tryz.func181 Tryz.ntmps181 rfl kr rfl ?_;refine ρ ?_;have H:=DP.start hD hn;have la:a<n:=om
 have lp:pv<n:=om
 refine drC 4 [0,1,2,3,4,5,8,9] [(0,6),(0,7),(0,10),(0,11),(0,12),(2,13),(2,14),(2,15)] kr ?_;have Z:=H.drew;obtain ⟨s1,s2,s3,⟨u,s4⟩,s5,s6⟩:=Z.swap la lp;refine ρp ?_;refine dix (pv) Z.rd lp ?_;refine ρd ?_;refine dld (Z.cell lp) ?_;refine ρd ?_;refine dix (a) Z.rd la ?_;refine ρd ?_;refine dld (Z.cell la) ?_;refine ρd ?_;refine dix (a) Z.rd la ?_;refine ρd ?_;refine Ja ?_;refine sto (Z.cell la) s1 ?_ (hv:=Z.one lp);refine ρ ?_;refine Qg ?_;refine Ja ?_;refine ix (pv) s2 lp ?_;refine ρ ?_;refine Qg ?_;refine Ja ?_;refine sto s4 s3 ?_ (hv:=Z.one la);refine ρ ?_;refine Xm (fun (i j:Nat) (q:List Pr)=>[(0,.slice A n c),(1,.int .i64 (a:Int)),(2,.int .i64 (b:Int)),(4,.func (.func fid) first cap),(11,.int .i64 (i:Int)),(12,.int .i64 (j:Int))]) (λi j q w'=>DP w w' base A n c ps q/\Go.Sort.partitionEqual (ltP ds) ps.toArray a b pv=Go.Sort.partEqLoop (ltP ds) a i j q.toArray/\a<i/\i<=b/\a<=j/\j<b) (λi j _=>b+j-i) (a+1) (b-1) _ sO ⟨s5,by unfold Go.Sort.partitionEqual;rw [swz],om⟩ ?_
 clear s1 s2 s3 s4 s5 s6 u Z H;rintro i0 O q w1 ⟨H,hR,a8⟩;refine ρ ?_;refine Qh (fun (i:Nat)=>[(0,.slice A n c),(1,.int .i64 (a:Int)),(2,.int .i64 (b:Int)),(4,.func (.func fid) first cap),(12,.int .i64 (O:Int)),(11,.int .i64 (i:Int))]) (λi w'=>DP w w' base A n c ps q/\i0<=i/\a<i/\i<=b/\Go.Sort.scanUp (λx=>!ltP ds (q.getD a z0) x) q.toArray O i0=Go.Sort.scanUp (λx=>!ltP ds (q.getD a z0) x) q.toArray O i) (λi=>b-i) i0 sO ⟨H,om⟩ ?_;rintro i wS ⟨HS,a3⟩;refine ρ ?_;refine Xt (fun (t:Bool)=>[(0,.slice A n c),(1,.int .i64 (a:Int)),(2,.int .i64 (b:Int)),(4,.func (.func fid) first cap),(12,.int .i64 (O:Int)),(11,.int .i64 (i:Int)),(47,.bool t)]) (λt w'=>DP w w' base A n c ps q/\(t=true->i<=O)/\t=(decide (i<=O) && (λx=>!ltP ds (q.getD a z0) x) (q.getD i z0))) ?_ ?_
 .skip
  refine dr [(0,0),(0,1),(0,2),(0,3),(0,4),(0,5),(0,6),(0,7),(0,8),(0,9),(0,10),(0,11),(0,12),(1,13),(0,14),(0,15),(0,16)] kr ?_;have o:=HS.drew;refine ρd ?_;refine dki 34 (λh=>?_) (λh=>?_)
  .have hT:i<=O:=by have:=oT h;omega
   have lx:a<n:=om
   have ly:i<n:=om
   refine ρd ?_;refine dix (a) o.rd lx ?_;refine ρd ?_;refine dld (o.cell lx) ?_;refine ρd ?_;refine dix (i) o.rd ly ?_;refine ρd ?_;refine dld (o.cell ly) ?_;refine ρd ?_;refine Vx (hC.callV o lx ly) ?_;rintro r a6 ⟨rfl,G⟩;refine ⟨G,?_⟩;have HT:=o.ext G;refine ρd ?_;refine ρ ?_;exact Jf _ sB ⟨HT,λ_=>hT,by rw [decide_eq_true hT];rfl⟩
  .refine ρd ?_;refine ρ ?_;exact Jf false sB ⟨o,(λe=>by cases e),by rw [decide_eq_false (show ¬ i<=O by have:=oF h;omega)];rfl⟩
 rintro t a5 ⟨a4,U,J⟩;refine ci (λh=>?_) (λh=>?_)
 .have:=U h;have a7:=suT (P:=(λx=>!ltP ds (q.getD a z0) x)) (J.symm.trans h);refine ρ ?_;exact Qv (i+1) sO ⟨a4,om⟩ om
 have hU:Go.Sort.scanUp (λx=>!ltP ds (q.getD a z0) x) q.toArray O i0=i:=a3.2.2.2.trans (suF (P:=(λx=>!ltP ds (q.getD a z0) x)) (J.symm.trans h));clear U HS h J;refine ρ ?_;refine Qh (fun (j:Nat)=>[(0,.slice A n c),(1,.int .i64 (a:Int)),(2,.int .i64 (b:Int)),(4,.func (.func fid) first cap),(11,.int .i64 (i:Int)),(12,.int .i64 (j:Int))]) (λj w'=>DP w w' base A n c ps q/\j<=O/\a<=j/\j<b/\Go.Sort.scanDown (λx=>ltP ds (q.getD a z0) x) q.toArray i O=Go.Sort.scanDown (λx=>ltP ds (q.getD a z0) x) q.toArray i j) (λj=>j) O sO ⟨a4,om⟩ ?_;rintro j wS ⟨HS,a2⟩;refine ρ ?_;refine Xt (fun (t:Bool)=>[(0,.slice A n c),(1,.int .i64 (a:Int)),(2,.int .i64 (b:Int)),(4,.func (.func fid) first cap),(11,.int .i64 (i:Int)),(12,.int .i64 (j:Int)),(65,.bool t)]) (λt w'=>DP w w' base A n c ps q/\(t=true->i<=j)/\t=(decide (i<=j) && (λx=>ltP ds (q.getD a z0) x) (q.getD j z0))) ?_ ?_
 .skip
  refine dr [(0,0),(0,1),(0,2),(0,3),(0,4),(0,5),(0,6),(0,7),(0,8),(0,9),(0,10),(0,11),(0,12),(1,13),(0,14),(0,15)] kr ?_;have o:=HS.drew;refine ρd ?_;refine dki 53 (λh=>?_) (λh=>?_)
  .have hT:i<=j:=by have:=oT h;omega
   have lx:a<n:=om
   have ly:j<n:=om
   refine ρd ?_;refine dix (a) o.rd lx ?_;refine ρd ?_;refine dld (o.cell lx) ?_;refine ρd ?_;refine dix (j) o.rd ly ?_;refine ρd ?_;refine dld (o.cell ly) ?_;refine ρd ?_;refine Vx (hC.callV o lx ly) ?_;rintro r a6 ⟨rfl,G⟩;refine ⟨G,?_⟩;have HT:=o.ext G;refine ρd ?_;refine ρ ?_;exact Jf _ sB ⟨HT,λ_=>hT,by rw [decide_eq_true hT];rfl⟩
  .refine ρd ?_;refine ρ ?_;exact Jf false sB ⟨o,(λe=>by cases e),by rw [decide_eq_false (show ¬ i<=j by have:=oF h;omega)];rfl⟩
 rintro t a5 ⟨a1,U,J⟩;refine ci (λh=>?_) (λh=>?_)
 .have:=U h;have a7:=sdT (P:=(λx=>ltP ds (q.getD a z0) x)) (show 1<=i by omega) (J.symm.trans h);refine ρ ?_;exact Qv (j-1) sO ⟨a1,om⟩ om
 have hN:Go.Sort.scanDown (λx=>ltP ds (q.getD a z0) x) q.toArray i O=j:=a2.2.2.2.trans (sdF (P:=(λx=>ltP ds (q.getD a z0) x)) (J.symm.trans h));clear U HS h J;refine ρ ?_;rw [Qgj hU hN a3.1 a2.1]at hR;refine ci (λh=>?_) (λh=>?_)
 .rw [if_pos (show i > j by have:=oT h;omega)]at hR;refine ρ ?_;exact Jq ⟨q,a1,i,rfl,om,om,hR⟩
 have hT:i<=j:=by have:=oF h;omega
 rw [if_neg (show ¬ i > j by omega)]at hR;have li:i<n:=om
 have lj:j<n:=om
 refine ρ ?_;refine drC 4 [0,1,2,3,4,5,8,9] [(0,6),(0,7),(0,10),(0,11),(0,12),(2,13),(2,14),(2,15)] kr ?_;have C:=a1.drew;obtain ⟨s1,s2,s3,⟨u,s4⟩,s5,s6⟩:=C.swap li lj;refine ρp ?_;refine dix (j) C.rd lj ?_;refine ρd ?_;refine dld (C.cell lj) ?_;refine ρd ?_;refine dix (i) C.rd li ?_;refine ρd ?_;refine dld (C.cell li) ?_;refine ρd ?_;refine dix (i) C.rd li ?_;refine ρd ?_;refine Ja ?_;refine sto (C.cell li) s1 ?_ (hv:=C.one lj);refine ρ ?_;refine Qg ?_;refine Ja ?_;refine ix (j) s2 lj ?_;refine ρ ?_;refine Qg ?_;refine Ja ?_;refine sto s4 s3 ?_ (hv:=C.one li);refine ρ ?_;exact Qt (i+1) (j-1) _ sO ⟨s5,hR,om⟩ om
theorem Qgf(hD:Dat w base (.slice A n c) ps)(hn:ps.length=n)(hmx:n<=140737488355328)(hC:CF w (Value.slice A n c).ownBlock fid first cap ps ds){pv:Nat}(hai:ai=(a:Int))(hbi:bi=(b:Int))(hpvi:pvi=(pv:Int))(hab:a<b)(hb:b<=n)(hp0:a<=pv)(hp1:pv<b):
  Ret Tryz.prog 182 [.slice A n c,.int .i64 ai,.int .i64 bi,.int .i64 pvi,.func (.func fid) first cap] w λv w'=>∃ ps',DP w w' base A n c ps ps'/\∃ (m:Nat) (t:Bool),v=.tuple #[.int .i64 (m:Int),.bool t]/\a<=m/\m<b/\Go.Sort.partition (ltP ds) ps.toArray a b pv=(m,t,ps'.toArray):=by
 subst hai;subst hbi;subst hpvi;refine Jz Tryz.func182 Tryz.ntmps182 rfl kr rfl ?_;refine ρ ?_;have H:=DP.start hD hn;have la:a<n:=om
 have lp:pv<n:=om
 refine drC 4 [0,1,2,3,4,5,8,9] [(0,6),(0,7),(0,10),(0,11),(0,12),(2,13),(2,14),(2,15)] kr ?_;have Hd:=H.drew;obtain ⟨s1,s2,s3,⟨u,s4⟩,s5,s6⟩:=Hd.swap la lp;refine ρp ?_;refine dix (pv) Hd.rd lp ?_;refine ρd ?_;refine dld (Hd.cell lp) ?_;refine ρd ?_;refine dix (a) Hd.rd la ?_;refine ρd ?_;refine dld (Hd.cell la) ?_;refine ρd ?_;refine dix (a) Hd.rd la ?_;refine ρd ?_;refine Ja ?_;refine sto (Hd.cell la) s1 ?_ (hv:=Hd.one lp);refine ρ ?_;refine Qg ?_;refine Ja ?_;refine ix (pv) s2 lp ?_;refine ρ ?_;refine Qg ?_;refine Ja ?_;refine sto s4 s3 ?_ (hv:=Hd.one la);refine ρ ?_;generalize hq:swp z0 ps a pv=q at s5
 have H5:=s5;clear s1 s2 s3 s4 s5 s6 u Hd H;obtain ⟨i0,aa⟩:∃ i0:Nat,i0=a+1:=⟨_,rfl⟩;obtain ⟨O,a9⟩:∃ O:Nat,O=b-1:=⟨_,rfl⟩;refine Qh (fun (i:Nat)=>[(0,.slice A n c),(1,.int .i64 (a:Int)),(2,.int .i64 (b:Int)),(4,.func (.func fid) first cap),(13,.int .i64 (O:Int)),(12,.int .i64 (i:Int))]) (λi w'=>DP w w' base A n c ps q/\i0<=i/\a<i/\i<=b/\Go.Sort.scanUp (λx=>ltP ds x (q.getD a z0)) q.toArray O i0=Go.Sort.scanUp (λx=>ltP ds x (q.getD a z0)) q.toArray O i) (λi=>b-i) i0 sO ⟨H5,om⟩ ?_;rintro i wS ⟨HS,a5⟩;refine ρ ?_;refine Xt (fun (t:Bool)=>[(0,.slice A n c),(1,.int .i64 (a:Int)),(2,.int .i64 (b:Int)),(4,.func (.func fid) first cap),(13,.int .i64 (O:Int)),(12,.int .i64 (i:Int)),(47,.bool t)]) (λt w'=>DP w w' base A n c ps q/\(t=true->i<=O)/\t=(decide (i<=O) && (λx=>ltP ds x (q.getD a z0)) (q.getD i z0))) ?_ ?_
 .skip
  refine dr [(0,0),(0,1),(0,2),(0,3),(0,4),(0,5),(0,6),(0,7),(0,8),(0,9),(0,10),(0,11),(0,12),(1,13),(0,14),(0,15)] kr ?_;have C:=HS.drew;refine ρd ?_;refine dki 35 (λh=>?_) (λh=>?_)
  .have hT:i<=O:=by have:=oT h;omega
   have lx:i<n:=om
   have ly:a<n:=om
   refine ρd ?_;refine dix (i) C.rd lx ?_;refine ρd ?_;refine dld (C.cell lx) ?_;refine ρd ?_;refine dix (a) C.rd ly ?_;refine ρd ?_;refine dld (C.cell ly) ?_;refine ρd ?_;refine Vx (hC.callV C lx ly) ?_;rintro r a7 ⟨rfl,G⟩;refine ⟨G,?_⟩;have HT:=C.ext G;refine ρd ?_;refine ρ ?_;exact Jf _ sB ⟨HT,λ_=>hT,by rw [decide_eq_true hT];rfl⟩
  .refine ρd ?_;refine ρ ?_;exact Jf false sB ⟨C,(λe=>by cases e),by rw [decide_eq_false (show ¬ i<=O by have:=oF h;omega)];rfl⟩
 rintro t a6 ⟨a3,a1,J⟩;refine ci (λh=>?_) (λh=>?_)
 .have:=a1 h;have a8:=suT (P:=(λx=>ltP ds x (q.getD a z0))) (J.symm.trans h);refine ρ ?_;exact Qv (i+1) sO ⟨a3,om⟩ om
 have hU:Go.Sort.scanUp (λx=>ltP ds x (q.getD a z0)) q.toArray O i0=i:=a5.2.2.2.trans (suF (P:=(λx=>ltP ds x (q.getD a z0))) (J.symm.trans h));clear a1 HS h J;refine ρ ?_;refine Qh (fun (j:Nat)=>[(0,.slice A n c),(1,.int .i64 (a:Int)),(2,.int .i64 (b:Int)),(4,.func (.func fid) first cap),(12,.int .i64 (i:Int)),(13,.int .i64 (j:Int))]) (λj w'=>DP w w' base A n c ps q/\j<=O/\a<=j/\j<b/\Go.Sort.scanDown (λx=>!ltP ds x (q.getD a z0)) q.toArray i O=Go.Sort.scanDown (λx=>!ltP ds x (q.getD a z0)) q.toArray i j) (λj=>j) O sO ⟨a3,om⟩ ?_;rintro j wS ⟨HS,a4⟩;refine ρ ?_;refine Xt (fun (t:Bool)=>[(0,.slice A n c),(1,.int .i64 (a:Int)),(2,.int .i64 (b:Int)),(4,.func (.func fid) first cap),(12,.int .i64 (i:Int)),(13,.int .i64 (j:Int)),(66,.bool t)]) (λt w'=>DP w w' base A n c ps q/\(t=true->i<=j)/\t=(decide (i<=j) && (λx=>!ltP ds x (q.getD a z0)) (q.getD j z0))) ?_ ?_
 .skip
  refine dr [(0,0),(0,1),(0,2),(0,3),(0,4),(0,5),(0,6),(0,7),(0,8),(0,9),(0,10),(0,11),(0,12),(1,13),(0,14),(0,15),(0,16)] kr ?_;have C:=HS.drew;refine ρd ?_;refine dki 53 (λh=>?_) (λh=>?_)
  .have hT:i<=j:=by have:=oT h;omega
   have lx:j<n:=om
   have ly:a<n:=om
   refine ρd ?_;refine dix (j) C.rd lx ?_;refine ρd ?_;refine dld (C.cell lx) ?_;refine ρd ?_;refine dix (a) C.rd ly ?_;refine ρd ?_;refine dld (C.cell ly) ?_;refine ρd ?_;refine Vx (hC.callV C lx ly) ?_;rintro r a7 ⟨rfl,G⟩;refine ⟨G,?_⟩;have HT:=C.ext G;refine ρd ?_;refine ρ ?_;exact Jf _ sB ⟨HT,λ_=>hT,by rw [decide_eq_true hT];rfl⟩
  .refine ρd ?_;refine ρ ?_;exact Jf false sB ⟨C,(λe=>by cases e),by rw [decide_eq_false (show ¬ i<=j by have:=oF h;omega)];rfl⟩
 rintro t a6 ⟨a2,a1,J⟩;refine ci (λh=>?_) (λh=>?_)
 .have:=a1 h;have a8:=sdT (P:=(λx=>!ltP ds x (q.getD a z0))) (show 1<=i by omega) (J.symm.trans h);refine ρ ?_;exact Qv (j-1) sO ⟨a2,om⟩ om
 have hN:Go.Sort.scanDown (λx=>!ltP ds x (q.getD a z0)) q.toArray i O=j:=a4.2.2.2.trans (sdF (P:=(λx=>!ltP ds x (q.getD a z0))) (J.symm.trans h));clear a1 HS h J;refine ρ ?_;have U:a<n:=om
 have Z:j<n:=om
 have hR:=Qgg hq (a9 ▸ aa ▸ hU) (a9 ▸ hN);refine ci (λh=>?_) (λh=>?_)
 .rw [if_pos (show i > j by have:=oT h;omega)]at hR;refine ρ ?_;refine drC 4 [0,1,2,3,4,5,8,9] [(0,6),(0,7),(0,10),(0,11),(0,12),(2,13),(2,14),(2,15)] kr ?_;have o:=a2.drew;obtain ⟨s1,s2,s3,⟨u,s4⟩,s5,s6⟩:=o.swap Z U;refine ρp ?_;refine dix (a) o.rd U ?_;refine ρd ?_;refine dld (o.cell U) ?_;refine ρd ?_;refine dix (j) o.rd Z ?_;refine ρd ?_;refine dld (o.cell Z) ?_;refine ρd ?_;refine dix (j) o.rd Z ?_;refine ρd ?_;refine Ja ?_;refine sto (o.cell Z) s1 ?_ (hv:=o.one U);refine ρ ?_;refine Qg ?_;refine Ja ?_;refine ix (a) s2 U ?_;refine ρ ?_;refine Qg ?_;refine Ja ?_;refine sto s4 s3 ?_ (hv:=o.one Z);refine ρ ?_;exact Yw ⟨_,s5,j,true,rfl,om,om,hR⟩
 have hT:i<=j:=by have:=oF h;omega
 rw [if_neg (show ¬ i > j by omega)]at hR;have li:i<n:=om
 refine ρ ?_;refine drC 4 [0,1,2,3,4,5,8,9] [(0,6),(0,7),(0,10),(0,11),(0,12),(2,13),(2,14),(2,15)] kr ?_;have o:=a2.drew;obtain ⟨s1,s2,s3,⟨u,s4⟩,s5,s6⟩:=o.swap li Z;refine ρp ?_;refine dix (j) o.rd Z ?_;refine ρd ?_;refine dld (o.cell Z) ?_;refine ρd ?_;refine dix (i) o.rd li ?_;refine ρd ?_;refine dld (o.cell li) ?_;refine ρd ?_;refine dix (i) o.rd li ?_;refine ρd ?_;refine Ja ?_;refine sto (o.cell li) s1 ?_ (hv:=o.one Z);refine ρ ?_;refine Qg ?_;refine Ja ?_;refine ix (j) s2 Z ?_;refine ρ ?_;refine Qg ?_;refine Ja ?_;refine sto s4 s3 ?_ (hv:=o.one li);refine ρ ?_;refine Xm (fun (i j:Nat) (q:List Pr)=>[(0,.slice A n c),(1,.int .i64 (a:Int)),(2,.int .i64 (b:Int)),(4,.func (.func fid) first cap),(12,.int .i64 (i:Int)),(13,.int .i64 (j:Int))]) (λi j q w'=>DP w w' base A n c ps q/\Go.Sort.partition (ltP ds) ps.toArray a b pv=((Go.Sort.partLoop (ltP ds) a i j q.toArray).1,false,Go.Sort.swp (Go.Sort.partLoop (ltP ds) a i j q.toArray).2 (Go.Sort.partLoop (ltP ds) a i j q.toArray).1 a)/\a<i/\i<=b/\a<=j/\j<b) (λi j _=>b+j-i) (i+1) (j-1) _ sO ⟨s5,hR,om⟩ ?_
 clear s1 s2 s3 s4 s5 s6 u o a2 a3 a5 a4 U Z li hT hR hU hN hq;clear aa a9;clear h q i0 O i j H5;rintro i0 O q w1 ⟨H,hR,ab⟩;refine ρ ?_;refine Qh (fun (i:Nat)=>[(0,.slice A n c),(1,.int .i64 (a:Int)),(2,.int .i64 (b:Int)),(4,.func (.func fid) first cap),(13,.int .i64 (O:Int)),(12,.int .i64 (i:Int))]) (λi w'=>DP w w' base A n c ps q/\i0<=i/\a<i/\i<=b/\Go.Sort.scanUp (λx=>ltP ds x (q.getD a z0)) q.toArray O i0=Go.Sort.scanUp (λx=>ltP ds x (q.getD a z0)) q.toArray O i) (λi=>b-i) i0 sO ⟨H,om⟩ ?_;rintro i wS ⟨HS,a5⟩;refine ρ ?_;refine Xt (fun (t:Bool)=>[(0,.slice A n c),(1,.int .i64 (a:Int)),(2,.int .i64 (b:Int)),(4,.func (.func fid) first cap),(13,.int .i64 (O:Int)),(12,.int .i64 (i:Int)),(120,.bool t)]) (λt w'=>DP w w' base A n c ps q/\(t=true->i<=O)/\t=(decide (i<=O) && (λx=>ltP ds x (q.getD a z0)) (q.getD i z0))) ?_ ?_
 .skip
  refine dr [(0,0),(0,1),(0,2),(0,3),(0,4),(0,5),(0,6),(0,7),(0,8),(0,9),(0,10),(0,11),(0,12),(1,13),(0,14),(0,15)] kr ?_;have C:=HS.drew;refine ρd ?_;refine dki 108 (λh=>?_) (λh=>?_)
  .have hT:i<=O:=by have:=oT h;omega
   have lx:i<n:=om
   have ly:a<n:=om
   refine ρd ?_;refine dix (i) C.rd lx ?_;refine ρd ?_;refine dld (C.cell lx) ?_;refine ρd ?_;refine dix (a) C.rd ly ?_;refine ρd ?_;refine dld (C.cell ly) ?_;refine ρd ?_;refine Vx (hC.callV C lx ly) ?_;rintro r a7 ⟨rfl,G⟩;refine ⟨G,?_⟩;have HT:=C.ext G;refine ρd ?_;refine ρ ?_;exact Jf _ sB ⟨HT,λ_=>hT,by rw [decide_eq_true hT];rfl⟩
  .refine ρd ?_;refine ρ ?_;exact Jf false sB ⟨C,(λe=>by cases e),by rw [decide_eq_false (show ¬ i<=O by have:=oF h;omega)];rfl⟩
 rintro t a6 ⟨a3,a1,J⟩;refine ci (λh=>?_) (λh=>?_)
 .have:=a1 h;have a8:=suT (P:=(λx=>ltP ds x (q.getD a z0))) (J.symm.trans h);refine ρ ?_;exact Qv (i+1) sO ⟨a3,om⟩ om
 have hU:Go.Sort.scanUp (λx=>ltP ds x (q.getD a z0)) q.toArray O i0=i:=a5.2.2.2.trans (suF (P:=(λx=>ltP ds x (q.getD a z0))) (J.symm.trans h));clear a1 HS h J;refine ρ ?_;refine Qh (fun (j:Nat)=>[(0,.slice A n c),(1,.int .i64 (a:Int)),(2,.int .i64 (b:Int)),(4,.func (.func fid) first cap),(12,.int .i64 (i:Int)),(13,.int .i64 (j:Int))]) (λj w'=>DP w w' base A n c ps q/\j<=O/\a<=j/\j<b/\Go.Sort.scanDown (λx=>!ltP ds x (q.getD a z0)) q.toArray i O=Go.Sort.scanDown (λx=>!ltP ds x (q.getD a z0)) q.toArray i j) (λj=>j) O sO ⟨a3,om⟩ ?_;rintro j wS ⟨HS,a4⟩;refine ρ ?_;refine Xt (fun (t:Bool)=>[(0,.slice A n c),(1,.int .i64 (a:Int)),(2,.int .i64 (b:Int)),(4,.func (.func fid) first cap),(12,.int .i64 (i:Int)),(13,.int .i64 (j:Int)),(139,.bool t)]) (λt w'=>DP w w' base A n c ps q/\(t=true->i<=j)/\t=(decide (i<=j) && (λx=>!ltP ds x (q.getD a z0)) (q.getD j z0))) ?_ ?_
 .skip
  refine dr [(0,0),(0,1),(0,2),(0,3),(0,4),(0,5),(0,6),(0,7),(0,8),(0,9),(0,10),(0,11),(0,12),(1,13),(0,14),(0,15),(0,16)] kr ?_;have C:=HS.drew;refine ρd ?_;refine dki 126 (λh=>?_) (λh=>?_)
  .have hT:i<=j:=by have:=oT h;omega
   have lx:j<n:=om
   have ly:a<n:=om
   refine ρd ?_;refine dix (j) C.rd lx ?_;refine ρd ?_;refine dld (C.cell lx) ?_;refine ρd ?_;refine dix (a) C.rd ly ?_;refine ρd ?_;refine dld (C.cell ly) ?_;refine ρd ?_;refine Vx (hC.callV C lx ly) ?_;rintro r a7 ⟨rfl,G⟩;refine ⟨G,?_⟩;have HT:=C.ext G;refine ρd ?_;refine ρ ?_;exact Jf _ sB ⟨HT,λ_=>hT,by rw [decide_eq_true hT];rfl⟩
  .refine ρd ?_;refine ρ ?_;exact Jf false sB ⟨C,(λe=>by cases e),by rw [decide_eq_false (show ¬ i<=j by have:=oF h;omega)];rfl⟩
 rintro t a6 ⟨a2,a1,J⟩;refine ci (λh=>?_) (λh=>?_)
 .have:=a1 h;have a8:=sdT (P:=(λx=>!ltP ds x (q.getD a z0))) (show 1<=i by omega) (J.symm.trans h);refine ρ ?_;exact Qv (j-1) sO ⟨a2,om⟩ om
 have hN:Go.Sort.scanDown (λx=>!ltP ds x (q.getD a z0)) q.toArray i O=j:=a4.2.2.2.trans (sdF (P:=(λx=>!ltP ds x (q.getD a z0))) (J.symm.trans h));clear a1 HS h J;refine ρ ?_;have U:a<n:=om
 have Z:j<n:=om
 rw [partZ hU hN a5.1 a4.1]at hR;refine ci (λh=>?_) (λh=>?_)
 .rw [if_pos (show i > j by have:=oT h;omega)]at hR;simp only [swz]at hR;refine ρ ?_;refine drC 4 [0,1,2,3,4,5,8,9] [(0,6),(0,7),(0,10),(0,11),(0,12),(2,13),(2,14),(2,15)] kr ?_;have o:=a2.drew;obtain ⟨s1,s2,s3,⟨u,s4⟩,s5,s6⟩:=o.swap Z U;refine ρp ?_;refine dix (a) o.rd U ?_;refine ρd ?_;refine dld (o.cell U) ?_;refine ρd ?_;refine dix (j) o.rd Z ?_;refine ρd ?_;refine dld (o.cell Z) ?_;refine ρd ?_;refine dix (j) o.rd Z ?_;refine ρd ?_;refine Ja ?_;refine sto (o.cell Z) s1 ?_ (hv:=o.one U);refine ρ ?_;refine Qg ?_;refine Ja ?_;refine ix (a) s2 U ?_;refine ρ ?_;refine Qg ?_;refine Ja ?_;refine sto s4 s3 ?_ (hv:=o.one Z);refine ρ ?_;exact Yw ⟨_,s5,j,false,rfl,om,om,hR⟩
 have hT:i<=j:=by have:=oF h;omega
 rw [if_neg (show ¬ i > j by omega)]at hR;have li:i<n:=om
 refine ρ ?_;refine drC 4 [0,1,2,3,4,5,8,9] [(0,6),(0,7),(0,10),(0,11),(0,12),(2,13),(2,14),(2,15)] kr ?_;have o:=a2.drew;obtain ⟨s1,s2,s3,⟨u,s4⟩,s5,s6⟩:=o.swap li Z;refine ρp ?_;refine dix (j) o.rd Z ?_;refine ρd ?_;refine dld (o.cell Z) ?_;refine ρd ?_;refine dix (i) o.rd li ?_;refine ρd ?_;refine dld (o.cell li) ?_;refine ρd ?_;refine dix (i) o.rd li ?_;refine ρd ?_;refine Ja ?_;refine sto (o.cell li) s1 ?_ (hv:=o.one Z);refine ρ ?_;refine Qg ?_;refine Ja ?_;refine ix (j) s2 Z ?_;refine ρ ?_;refine Qg ?_;refine Ja ?_;refine sto s4 s3 ?_ (hv:=o.one li);refine ρ ?_;exact Qt (i+1) (j-1) _ sO ⟨s5,hR,om⟩ om
theorem Qgb(hD:Dat w base (.slice A n c) ps)(hn:ps.length=n)(hmx:n<=140737488355328)(hC:CF w (Value.slice A n c).ownBlock fid first cap ps ds)(hai:ai=(a:Int))(hbi:bi=(b:Int))(hab:a+1<b)(hb:b<=n):
  Ret Tryz.prog 180 [.slice A n c,.int .i64 ai,.int .i64 bi,.func (.func fid) first cap] w λv w'=>∃ ps',DP w w' base A n c ps ps'/\∃ t:Bool,v=.bool t/\Go.Sort.partialInsertionSort (ltP ds) ps.toArray a b=(ps'.toArray,t):=by
 subst hai;subst hbi;refine Jz Tryz.func180 Tryz.ntmps180 rfl kr rfl ?_;refine ρ ?_;refine Xm (fun (k i:Nat) (q:List Pr)=>[(0,.slice A n c),(1,.int .i64 (a:Int)),(2,.int .i64 (b:Int)),(3,.func (.func fid) first cap),(9,.int .i64 (i:Int)),(10,.int .i64 (k:Int))]) (λk i q w'=>DP w w' base A n c ps q/\Go.Sort.partialInsertionSort (ltP ds) ps.toArray a b=Go.Sort.partialIns (ltP ds) a b (5-k) i q.toArray/\a<i/\i<=b/\k<=5) (λk _ _=>5-k) 0 (a+1) ps sO ⟨DP.start hD hn,rfl,om⟩ ?_;rintro k i0 q w1 ⟨H,J,aa⟩;refine ρ ?_;refine ci (λh=>?_) (λh=>?_);rotate_left
 .refine ρ ?_;refine Jq ⟨q,H,false,rfl,?_⟩;rw [J,show 5-k=0 by have:=oF h;omega];rfl
 have hk:k<5:=by have:=oT h;omega
 clear h;refine ρ ?_;refine Qh (fun (i:Nat)=>[(0,.slice A n c),(1,.int .i64 (a:Int)),(2,.int .i64 (b:Int)),(3,.func (.func fid) first cap),(10,.int .i64 (k:Int)),(9,.int .i64 (i:Int))]) (λi w'=>DP w w' base A n c ps q/\i0<=i/\a<i/\i<=b/\Go.Sort.scanSorted (ltP ds) q.toArray b i0=Go.Sort.scanSorted (ltP ds) q.toArray b i) (λi=>b-i) i0 sO ⟨H,om⟩ ?_;rintro i wS ⟨HS,a7⟩;refine ρ ?_;refine Xt (fun (t:Bool)=>[(0,.slice A n c),(1,.int .i64 (a:Int)),(2,.int .i64 (b:Int)),(3,.func (.func fid) first cap),(10,.int .i64 (k:Int)),(9,.int .i64 (i:Int)),(36,.bool t)]) (λt w'=>DP w w' base A n c ps q/\(t=true->i<b)/\t=(decide (i<b) && !ltP ds (q.getD i z0) (q.getD (i-1) z0))) ?_ ?_
 .skip
  refine dr [(0,0),(0,1),(0,2),(0,3),(0,4),(0,5),(0,6),(0,7),(0,8),(0,9),(0,10),(0,11),(0,12),(0,13),(1,14),(0,15),(0,16),(0,17)] kr ?_;have Z:=HS.drew;refine ρd ?_;refine dki 22 (λh=>?_) (λh=>?_)
  .have hT:i<b:=by have:=oT h;omega
   have lx:i<n:=om
   have ly:i-1<n:=om
   refine ρd ?_;refine dix (i) Z.rd lx ?_;refine ρd ?_;refine dld (Z.cell lx) ?_;refine ρd ?_;refine dix (i-1) Z.rd ly ?_;refine ρd ?_;refine dld (Z.cell ly) ?_;refine ρd ?_;refine Vx (hC.callV Z lx ly) ?_;rintro r a3 ⟨rfl,G⟩;refine ⟨G,?_⟩;have HT:=Z.ext G;refine ρd ?_;refine ρ ?_;exact Jf _ sB ⟨HT,λ_=>hT,by rw [decide_eq_true hT];rfl⟩
  .refine ρd ?_;refine ρ ?_;exact Jf false sB ⟨Z,(λe=>by cases e),by rw [decide_eq_false (show ¬ i<b by have:=oF h;omega)];rfl⟩
 rintro t a8 ⟨a1,a4,a2⟩;refine ci (λh=>?_) (λh=>?_)
 .have:=a4 h;have a9:=ssT (a2.symm.trans h);refine ρ ?_;exact Qv (i+1) sO ⟨a1,om⟩ om
 have a6:Go.Sort.scanSorted (ltP ds) q.toArray b i0=i:=a7.2.2.2.trans (ssF (a2.symm.trans h));rw [show 5-k=(5-(k+1))+1 by omega,Qgc a6]at J;clear a4 HS h a2;refine ρ ?_;refine ci (λh=>?_) (λh=>?_)
 .rw [if_pos (show i=b by have:=Xd h;omega)]at J;refine ρ ?_;exact Jq ⟨q,a1,true,rfl,J⟩
 have ab:i<b:=by have:=Xf h;omega
 rw [if_neg (show ¬ i=b by omega)]at J;clear h;refine ρ ?_;refine ci (λh=>?_) (λh=>?_)
 .rw [if_pos (show b-a<50 by have:=oT h;omega)]at J;refine ρ ?_;exact Jq ⟨q,a1,false,rfl,J⟩
 rw [if_neg (show ¬ b-a<50 by have:=oF h;omega)]at J;clear h;have lx:i<n:=om
 have ly:i-1<n:=om
 refine ρ ?_;refine drC 4 [0,1,2,3,4,5,6,7,10,11] [(0,8),(0,9),(0,12),(0,13),(0,14),(2,15),(2,16),(2,17)] kr ?_;have C:=a1.drew;obtain ⟨s1,s2,s3,⟨u,s4⟩,s5,s6⟩:=C.swap lx ly;refine ρp ?_;refine dix (i-1) C.rd ly ?_;refine ρd ?_;refine dld (C.cell ly) ?_;refine ρd ?_;refine dix (i) C.rd lx ?_;refine ρd ?_;refine dld (C.cell lx) ?_;refine ρd ?_;refine dix (i) C.rd lx ?_;refine ρd ?_;refine Ja ?_;refine sto (C.cell lx) s1 ?_ (hv:=C.one ly);refine ρ ?_;refine Qg ?_;refine Ja ?_;refine ix (i-1) s2 ly ?_;refine ρ ?_;refine Qg ?_;refine Ja ?_;refine sto s4 s3 ?_ (hv:=C.one lx);refine ρ ?_;have H5:=s5;clear s1 s2 s3 s4 s5 s6 u C a1 H;generalize swp z0 q i (i-1)=q5 at H5 J
 refine Xt (fun (q:List Pr)=>[(0,.slice A n c),(1,.int .i64 (a:Int)),(2,.int .i64 (b:Int)),(3,.func (.func fid) first cap),(9,.int .i64 (i:Int)),(10,.int .i64 (k:Int))]) (λq w'=>DP w w' base A n c ps q/\(if i-a ≥ 2 then Go.Sort.shiftDown (ltP ds) (i-1) q5.toArray else q5.toArray)=q.toArray) ?_ ?_
 .refine ci (λh=>?_) (λh=>?_);rotate_left
  .refine ρ ?_;exact Jf _ sB ⟨H5,if_neg (by have:=oF h;omega)⟩
  rw [if_pos (show i-a ≥ 2 by have:=oT h;omega)];refine ρ ?_;refine Je (fun (m:Nat) (q:List Pr)=>[(0,.slice A n c),(1,.int .i64 (a:Int)),(2,.int .i64 (b:Int)),(3,.func (.func fid) first cap),(9,.int .i64 (i:Int)),(10,.int .i64 (k:Int)),(11,.int .i64 (m:Int))]) (λm q w'=>DP w w' base A n c ps q/\m<n/\Go.Sort.shiftDown (ltP ds) (i-1) q5.toArray=Go.Sort.shiftDown (ltP ds) m q.toArray) (λm _=>m) (i-1) q5 sO ⟨H5,om,rfl⟩ ?_;rintro m q w2 ⟨H,hm,U⟩;refine ρ ?_;refine ci (λh=>?_) (λh=>?_);rotate_left
  .rw [show m=0 by have:=oF h;omega,Go.Sort.shiftDown]at U;refine ρ ?_;exact Jf _ sB ⟨H,U⟩
  have h1:1<=m:=by have:=oT h;omega
  have O:m-1<n:=om
  refine ρ ?_;refine dr [(0,0),(0,1),(0,2),(0,3),(0,4),(0,5),(0,6),(0,7),(0,8),(0,9),(1,10),(0,11),(0,12)] kr ?_;have Hd:=H.drew;refine ρd ?_;refine ρd ?_;refine dix (m) Hd.rd hm ?_;refine ρd ?_;refine dld (Hd.cell hm) ?_;refine ρd ?_;refine dix (m-1) Hd.rd O ?_;refine ρd ?_;refine dld (Hd.cell O) ?_;refine ρd ?_;rw [shd h1]at U;refine Vx (hC.callV Hd hm O) ?_;rintro r a3 ⟨rfl,G⟩;refine ⟨G,?_⟩;have HT:=Hd.ext G;refine ρd ?_;refine ρ ?_;refine ci (λh=>?_) (λh=>?_)
  .rw [if_pos (show (!ltP ds (q.getD m z0) (q.getD (m-1) z0))=true from h)]at U;refine ρ ?_;exact Jf _ sB ⟨HT,U⟩
  rw [if_neg (show ¬ (!ltP ds (q.getD m z0) (q.getD (m-1) z0))=true from λe=>by rw [show (!ltP ds (q.getD m z0) (q.getD (m-1) z0))=false from h]at e;cases e)]at U;refine ρ ?_;refine drC 4 [0,1,2,3,4,5,6,7,10,11] [(0,8),(0,9),(0,12),(0,13),(0,14),(2,15),(2,16),(2,17)] kr ?_;have o:=HT.drew;obtain ⟨s1,s2,s3,⟨u,s4⟩,s5,s6⟩:=o.swap hm O;refine ρp ?_;refine dix (m-1) o.rd O ?_;refine ρd ?_;refine dld (o.cell O) ?_;refine ρd ?_;refine dix (m) o.rd hm ?_;refine ρd ?_;refine dld (o.cell hm) ?_;refine ρd ?_;refine dix (m) o.rd hm ?_;refine ρd ?_;refine Ja ?_;refine sto (o.cell hm) s1 ?_ (hv:=o.one O);refine ρ ?_;refine Qg ?_;refine Ja ?_;refine ix (m-1) s2 O ?_;refine ρ ?_;refine Qg ?_;refine Ja ?_;refine sto s4 s3 ?_ (hv:=o.one hm);refine ρ ?_;exact Jl (m-1) _ sO ⟨s5,om,U⟩ om
 clear H5;rintro q6 w5 ⟨H5,a5⟩;rw [a5]at J;clear a5 q5;generalize q6=q5 at H5 J
 clear q6;refine ρ ?_;refine ci (λh=>?_) (λh=>?_);rotate_left
 .rw [if_neg (show ¬ b-i ≥ 2 by have:=oF h;omega)]at J;refine ρ ?_;exact Qt (k+1) i q5 sO ⟨H5,J,om⟩ om
 rw [if_pos (show b-i ≥ 2 by have:=oT h;omega)]at J;refine ρ ?_;refine Je (fun (m:Nat) (q:List Pr)=>[(0,.slice A n c),(1,.int .i64 (a:Int)),(2,.int .i64 (b:Int)),(3,.func (.func fid) first cap),(9,.int .i64 (i:Int)),(10,.int .i64 (k:Int)),(12,.int .i64 (m:Int))]) (λm q w'=>DP w w' base A n c ps q/\Go.Sort.shiftUp (ltP ds) b (i+1) q5.toArray=Go.Sort.shiftUp (ltP ds) b m q.toArray/\0<m/\m<=b) (λm _=>b-m) (i+1) q5 sO ⟨H5,rfl,om⟩ ?_;rintro m q w2 ⟨H,U,hm⟩;refine ρ ?_;refine ci (λh=>?_) (λh=>?_);rotate_left
 .rw [shu0 (show ¬ m<b by have:=oF h;omega)]at U;rw [U]at J;refine ρ ?_;exact Qt (k+1) i q sO ⟨H,J,om⟩ om
 have h1:m<n:=by have:=oT h;omega
 have h2:m<b:=by have:=oT h;omega
 have O:m-1<n:=om
 refine ρ ?_;refine dr [(0,0),(0,1),(0,2),(0,3),(0,4),(0,5),(0,6),(0,7),(0,8),(0,9),(1,10),(0,11),(0,12)] kr ?_;have Hd:=H.drew;refine ρd ?_;refine ρd ?_;refine dix (m) Hd.rd h1 ?_;refine ρd ?_;refine dld (Hd.cell h1) ?_;refine ρd ?_;refine dix (m-1) Hd.rd O ?_;refine ρd ?_;refine dld (Hd.cell O) ?_;refine ρd ?_;rw [shu h2]at U;refine Vx (hC.callV Hd h1 O) ?_;rintro r a3 ⟨rfl,G⟩;refine ⟨G,?_⟩;have HT:=Hd.ext G;refine ρd ?_;refine ρ ?_;refine ci (λh=>?_) (λh=>?_)
 .rw [if_pos (show (!ltP ds (q.getD m z0) (q.getD (m-1) z0))=true from h)]at U;rw [U]at J;refine ρ ?_;exact Qt (k+1) i q sO ⟨HT,J,om⟩ om
 rw [if_neg (show ¬ (!ltP ds (q.getD m z0) (q.getD (m-1) z0))=true from λe=>by rw [show (!ltP ds (q.getD m z0) (q.getD (m-1) z0))=false from h]at e;cases e)]at U;refine ρ ?_;refine drC 4 [0,1,2,3,4,5,6,7,10,11] [(0,8),(0,9),(0,12),(0,13),(0,14),(2,15),(2,16),(2,17)] kr ?_;have o:=HT.drew;obtain ⟨s1,s2,s3,⟨u,s4⟩,s5,s6⟩:=o.swap h1 O;refine ρp ?_;refine dix (m-1) o.rd O ?_;refine ρd ?_;refine dld (o.cell O) ?_;refine ρd ?_;refine dix (m) o.rd h1 ?_;refine ρd ?_;refine dld (o.cell h1) ?_;refine ρd ?_;refine dix (m) o.rd h1 ?_;refine ρd ?_;refine Ja ?_;refine sto (o.cell h1) s1 ?_ (hv:=o.one O);refine ρ ?_;refine Qg ?_;refine Ja ?_;refine ix (m-1) s2 O ?_;refine ρ ?_;refine Qg ?_;refine Ja ?_;refine sto s4 s3 ?_ (hv:=o.one h1);refine ρ ?_;exact Jl (m+1) _ sO ⟨s5,U,om⟩ om
open Go.RowKit Pl Go.Wk
variable {ps q q' q3:List Pr}{base c n:Nat}{A A0:Option Addr}{pm x y z:Pr}{w w' w0:World}
theorem DP.same(h:DP w0 w base A n c ps q)(k:DP w w' base A n c q q): DP w0 w' base A n c ps q:=h.after k
theorem DP.ins{a b:Nat}(h:DP w0 w base A n c ps q)(k1:Dat w' base (.slice A n c) q')(k2:Seg z0 a b q q')(k3:w.grownBy w' (Value.slice A n c).ownBlock): DP w0 w' base A n c ps q' :=
 ⟨k1,k2.perm.trans h.p,Zv h.g k3,by rw [k2.len];exact h.l⟩
section
variable {ds:List Bool} {q q1 q2:List Pr} {a b m A B:Nat}
def BelZ(ds:List Bool)(q:List Pr)(a b:Nat): Prop:=a=0∨∀ i,a<=i->i<b->fP ds (q.getD (a-1) z0) (q.getD i z0)<=0
def KpZ(ds:List Bool)(q:List Pr)(a b A B:Nat): Prop:=∀ q2,Seg z0 a b q q2->SOn z0 (fP ds) q2 a b->SOn z0 (fP ds) q2 A B
theorem KpZ.seg(h:KpZ ds q a b A B)(hs:Seg z0 a b q q1): KpZ ds q1 a b A B:=λq2 u o=>h q2 (hs.trans u) o
theorem BelZ.seg(h:BelZ ds q a b)(hs:Seg z0 a b q q1)(hab:a<=b)(hb:b<=q.length): BelZ ds q1 a b:=by
 rcases h with h|h
 .exact .inl h
 .rcases Nat.eq_zero_or_pos a with h0|h0
  .exact .inl h0
  .refine .inr λi u o=>?_;rw [hs.lo (a-1) om];exact hs.all hab hb (Φ:=λx=>fP ds (q.getD (a-1) z0) x<=0) h i u o
theorem BelZ.arr(h:BelZ ds q a b): Go.Sort.Below (ltP ds) a b q.toArray:=by
 rcases h with h|h
 .exact .inl h
 .exact .inr λi u o=>by rw [az,az];exact ltP_f' (h i u o)
theorem Jbf(h1:fP ds x y<=0)(h2:fP ds y z<=0): fP ds x z<=0:=Jbl _ _ _ ds h1 h2
theorem Qnv{pv:Nat}(H:DP w0 w base A0 n c q q1)(hlq:q.length=n)(hB:BelZ ds q a b)(hK:KpZ ds q a b A B)(h0:0<a)(hlt:ltP ds (q.getD (a-1) z0) (q.getD pv z0)=false)(hp0:a<=pv)(hp1:pv<b)(hb:b<=n)(hE:Go.Sort.partitionEqual (ltP ds) q.toArray a b pv=(m,q1.toArray)): Seg z0 a b q q1/\BelZ ds q1 m b/\KpZ ds q1 m b A B:=by
 have O:∀ i,a<=i->i<b->fP ds (q.getD pv z0) (q.getD i z0)<=0:=λi J G=>by
  rcases hB with h|h
  .omega
  .exact Jbf (Jxm hlt) (h i J G)
 have hP:=Go.Sort.partitionEqual_holds (ltP ds) (swoP ds) q.toArray a b pv hp0 hp1 (by simpa [hlq] using hb) λi J G=>by
  rw [az,az];exact ltP_f' (O i J G)
 rw [hE]at hP;obtain ⟨a3,a1,C,a2,a4⟩:=hP;have U:=H.seg C;have o:=U.all om om (Φ:=λx=>fP ds (q.getD pv z0) x<=0) O;have u:∀ i,a<=i->i<m->fP ds (q1.getD i z0) (q.getD pv z0)<=0:=λi J G=>by
  have:=a2 i J G;rw [az,az]at this;exact Jxm this
 refine ⟨U,.inr λi J G=>Jbf (u (m-1) om om) (o i om G),λq3 Z h4=>hK q3 (U.trans (Z.mono om (Nat.le_refl _))) λi j h5 h6 h7=>?_⟩;by_cases hi:i<m
 .rw [Z.lo i hi];refine Jbf (u i h5 hi) ?_;by_cases hj:j<m
  .rw [Z.lo j hj];exact o j om h7
  .exact Z.all a1 (by rw [U.len];omega) (Φ:=λx=>fP ds (q.getD pv z0) x<=0) (λk k1 k2=>o k om k2) j om h7
 .exact h4 i j om h6 h7
theorem Qgd{pv:Nat}{t:Bool}(H:DP w0 w base A0 n c q q1)(hlq:q.length=n)(hp0:a<=pv)(hp1:pv<b)(hb:b<=n)(hE:Go.Sort.partition (ltP ds) q.toArray a b pv=(m,t,q1.toArray)):
  Seg z0 a b q q1/\a<=m/\m<b/\(∀ i,a<=i->i<m->fP ds (q1.getD i z0) (q1.getD m z0)<=0)/\(∀ i,m<i->i<b->fP ds (q1.getD m z0) (q1.getD i z0)<=0):=by
 have Z:=Go.Sort.partition_holds (ltP ds) (swoP ds) q.toArray a b pv hp0 hp1 (by simpa [hlq] using hb);rw [hE]at Z;obtain ⟨C,u,o,G,J⟩:=Z;refine ⟨H.seg o,C,u,λi U O=>?_,λi U O=>?_⟩
 .have:=G i U O;rw [az,az]at this;exact Int.le_of_lt (Jfw this)
 .have:=J i U O;rw [az,az]at this;exact Jxm this
theorem Jtm(hm:a<=m)(hmb:m<b)(hpm:q3.getD m z0=pm)(hL:SOn z0 (fP ds) q3 a m)(hR:SOn z0 (fP ds) q3 (m+1) b)(hlo:∀ i,a<=i->i<m->fP ds (q3.getD i z0) pm<=0)(hhi:∀ i,m<i->i<b->fP ds pm (q3.getD i z0)<=0): SOn z0 (fP ds) q3 a b:=λi j C u o=>by
 rcases Nat.lt_trichotomy i m with hi|hi|hi
 .rcases Nat.lt_trichotomy j m with hj|hj|hj
  .exact hL i j C u hj
  .subst hj;rw [hpm];exact hlo i C hi
  .exact Jbf (hlo i C hi) (hhi j hj o)
 .subst hi;rw [hpm];exact hhi j u o
 .exact hR i j om u o
theorem Qlr(hS:Seg z0 a b q q1)(hl:b<=q.length)(hK:KpZ ds q a b A B)(hm:a<=m)(hmb:m<b)(hlo:∀ i,a<=i->i<m->fP ds (q1.getD i z0) (q1.getD m z0)<=0)(hhi:∀ i,m<i->i<b->fP ds (q1.getD m z0) (q1.getD i z0)<=0)(h2:Seg z0 a m q1 q2)(hs:SOn z0 (fP ds) q2 a m): BelZ ds q2 (m+1) b/\KpZ ds q2 (m+1) b A B:=by
 have l1:q1.length=q.length:=hS.len;have Z:q2.length=q1.length:=h2.len;have G:q2.getD m z0=q1.getD m z0:=h2.hi m (Nat.le_refl _);have u:∀ i,m+1<=i->i<b->fP ds (q1.getD m z0) (q2.getD i z0)<=0:=λi C o=>by rw [h2.hi i om];exact hhi i om o
 refine ⟨.inr λi C o=>by rw [show m+1-1=m by omega,G];exact u i C o,λO J U=>hK O ((hS.trans (h2.mono (Nat.le_refl _) om)).trans (J.mono om (Nat.le_refl _))) ?_⟩;refine Jtm hm hmb (pm:=q1.getD m z0) (by rw [J.lo m om,G]) (hs.same λk C o=>J.lo k om) U (λi C o=>?_) λi C o=>?_
 .rw [J.lo i om];exact h2.all hm om (Φ:=λx=>fP ds x (q1.getD m z0)<=0) hlo i C o
 .exact J.all om om (Φ:=λx=>fP ds (q1.getD m z0) x<=0) u i om o
theorem Qdk(hS:Seg z0 a b q q1)(hl:b<=q.length)(hB:BelZ ds q a b)(hK:KpZ ds q a b A B)(hm:a<=m)(hmb:m<b)(hlo:∀ i,a<=i->i<m->fP ds (q1.getD i z0) (q1.getD m z0)<=0)(hhi:∀ i,m<i->i<b->fP ds (q1.getD m z0) (q1.getD i z0)<=0)(h2:Seg z0 (m+1) b q1 q2)(hs:SOn z0 (fP ds) q2 (m+1) b): BelZ ds q2 a m/\KpZ ds q2 a m A B:=by
 have l1:q1.length=q.length:=hS.len;have l2:q2.length=q1.length:=h2.len;have J:q2.getD m z0=q1.getD m z0:=h2.lo m om;have O:=(hB.seg hS om hl).seg (h2.mono om (Nat.le_refl _)) om om;refine ⟨O.imp id λh i u o=>h i u om,λZ C h4=>hK Z ((hS.trans (h2.mono om (Nat.le_refl _))).trans (C.mono (Nat.le_refl _) om)) ?_⟩;refine Jtm hm hmb (pm:=q1.getD m z0) (by rw [C.hi m (Nat.le_refl _),J]) h4 (hs.same λk u o=>C.hi k om) (λi u o=>?_) λi u o=>?_
 .exact C.all hm om (Φ:=λx=>fP ds x (q1.getD m z0)<=0) (λk U G=>by rw [h2.lo k om];exact hlo k U G) i u o
 .rw [C.hi i om];exact h2.all om om (Φ:=λx=>fP ds (q1.getD m z0) x<=0) (λk U G=>hhi k om G) i om o
end
theorem Qfx: ∀ (m:Nat) {w:World} {base:Nat} {A:Option Addr} {n c:Nat} {fid:FuncId} {first cap:Array Value} {ps:List Pr} {ds:List Bool} (hD:Dat w base (.slice A n c) ps) (hn:ps.length=n) (hmx:n<=140737488355328) (hC:CF w (Value.slice A n c).ownBlock fid first cap ps ds) {a0 b0:Nat} {ai bi lim:Int} (hai:ai=(a0:Int)) (hbi:bi=(b0:Int)) (hab:a0<=b0) (hb:b0<=n) (hl:0<=lim/\lim<=64) (hm:b0-a0<=m) (hBl:BelZ ds ps a0 b0),
  Ret Tryz.prog 158 [.slice A n c,.int .i64 ai,.int .i64 bi,.int .i64 lim,.func (.func fid) first cap] w λv w'=>∃ ps',DP w w' base A n c ps ps'/\Seg z0 a0 b0 ps ps'/\SOn z0 (fP ds) ps' a0 b0:=by
 intro m;induction m using Nat.strongRecOn with
 | ind m ih=>
 intro w base A n c fid first cap ps ds hD hn hmx hC a0 b0 ai bi lim hai hbi hab hb hl hm hBl
 subst hai;subst hbi;refine Jz Tryz.func158 Tryz.ntmps158 rfl kr rfl ?_;refine ρ ?_;refine Jqf (fun (ab:Nat×Nat) (lt:Int×Bool) (wp:Bool) (q:List Pr)=>[(0,.slice A n c),(1,.int .i64 (ab.1:Int)),(2,.int .i64 (ab.2:Int)),(3,.int .i64 lt.1),(4,.func (.func fid) first cap),(10,.bool lt.2),(11,.bool wp)])
  (λab lt wp q w'=>DP w w' base A n c ps q/\(Seg z0 a0 b0 ps q/\BelZ ds q ab.1 ab.2/\KpZ ds q ab.1 ab.2 a0 b0/\a0<=ab.1/\ab.2<=b0)/\ab.1<=ab.2/\ab.2<=n/\ab.2-ab.1<=m/\0<=lt.1/\lt.1<=64) (λab _ _ _=>ab.2-ab.1) (a0,b0) (lim,true) true ps sB ⟨DP.start hD hn,⟨Seg.refl _ _ _,hBl,λq2 _ h=>h,Nat.le_refl _,Nat.le_refl _⟩,om,om,om,om,om⟩ ?_
 have ak:=hb;clear hD hab hb hm;rintro ⟨a,b⟩ ⟨lim,wb⟩ a4 q w1 ⟨H,⟨u,C,o,O,J⟩,hab,hb,hm,a6,a5⟩;simp only at hab hb hm a6 a5 C o O J;refine ρ ?_;refine ci (λh=>?_) (λh=>?_)
 .refine ρ ?_;refine cl (Qmm (ai:=(a:Int)) (bi:=(b:Int)) H.d H.l rfl rfl hb om hmx (hC.step H).pack) ?_;rintro v w2 ⟨q2,k1,k2,k3,k4⟩;refine ρ ?_;exact Jwc ⟨q2,H.ins k1 k2 k4,u.trans (k2.mono O J),o q2 k2 k3⟩
 have a8:a+12<b:=by have:=oF h;omega
 clear h;refine ρ ?_;refine ci (λh=>?_) (λh=>?_)
 .refine ρ ?_;refine cl (Qmz (a:=a) (b:=b) H.d H.l hmx (hC.step H) rfl rfl om hb) ?_;rintro v w2 ⟨q2,H2,a3⟩;have hs:=Go.Sort.heapSort_holds (lt:=ltP ds) (swoP ds) q.toArray a b om (by simpa [H.l] using hb);rw [a3]at hs;have ae:=H2.seg hs.1;refine ρ ?_;exact Jwc ⟨q2,H.after H2,u.trans (ae.mono O J),o q2 ae (Jpd hs.2)⟩
 have ag:lim≠0:=Xf h;clear h;refine ρ ?_;refine Ib (fun (lim:Int) (q:List Pr)=>[(0,.slice A n c),(1,.int .i64 (a:Int)),(2,.int .i64 (b:Int)),(3,.int .i64 lim),(4,.func (.func fid) first cap),(10,.bool wb),(11,.bool a4),(12,.int .i64 ((b:Int)-(a:Int)))]) (λlim q w'=>DP w w' base A n c ps q/\0<=lim/\lim<=64/\Seg z0 a0 b0 ps q/\BelZ ds q a b/\KpZ ds q a b a0 b0) ?_ ?_
 .refine ci (λh=>?_) (λh=>?_)
  .refine ρ ?_;refine cl (Qsf (a:=a) (b:=b) H.d H.l hmx (hC.step H) rfl rfl a8 hb) ?_;rintro v w2 ⟨q2,H2,G⟩;refine ρ ?_;exact Zt (lim-1) q2 sB ⟨H.after H2,om,om,u.trans (G.mono O J),C.seg G om (by rw [H.l];exact hb),o.seg G⟩
  .refine ρ ?_;exact Zt lim q sB ⟨H,om,om,u,C,o⟩
 clear H a6 a5 ag u C o lim q;rintro lim q w2 ⟨H,a6,a5,u,C,o⟩;refine ρ ?_;refine cl (Qrv (a:=a) (b:=b) H.d H.l hmx (hC.step H) rfl rfl a8 hb) ?_;rintro v w3 ⟨pv,Z,rfl,a2,a1,H2⟩;have H3:=H.same H2;clear H H2;refine ρ ?_;refine Jmp (fun (pv:Nat) (Z:Int) (q:List Pr)=>[(0,.slice A n c),(1,.int .i64 (a:Int)),(2,.int .i64 (b:Int)),(3,.int .i64 lim),(4,.func (.func fid) first cap),(10,.bool wb),(11,.bool a4),(12,.int .i64 ((b:Int)-(a:Int))),(13,.int .i64 (pv:Int)),(14,.int .i64 Z)]) (λpv Z q w'=>DP w w' base A n c ps q/\a<=pv/\pv<b/\Seg z0 a0 b0 ps q/\BelZ ds q a b/\KpZ ds q a b a0 b0) ?_ ?_
 .refine ci (λh=>?_) (λh=>?_)
  .refine ρ ?_;refine cl (Qdl (a:=a) (b:=b) H3.d H3.l hmx (hC.step H3) rfl rfl om hb) ?_;rintro v w2 ⟨q2,H2,G⟩;refine ρ ?_;exact Jvv (b-1-(pv-a)) 1 q2 sO ⟨H3.after H2,om,om,u.trans (G.mono O J),C.seg G om (by rw [H3.l];exact hb),o.seg G⟩
  .refine ρ ?_;exact Jvv pv Z q sB ⟨H3,a2,a1,u,C,o⟩
 clear H3 a2 a1 u C o pv Z q;rintro pv Z q w3 ⟨H,a2,a1,u,C,o⟩;refine ρ ?_;refine Vg (fun (t:Bool)=>[(0,.slice A n c),(1,.int .i64 (a:Int)),(2,.int .i64 (b:Int)),(3,.int .i64 lim),(4,.func (.func fid) first cap),(10,.bool wb),(11,.bool a4),(12,.int .i64 ((b:Int)-(a:Int))),(13,.int .i64 (pv:Int)),(75,.bool t)]) (λt w'=>DP w w' base A n c ps q) ?_ ?_
 .refine ki 69 (λh=>?_) (λh=>?_)
  .refine ρ ?_;refine ki 72 (λh=>?_) (λh=>?_)
   .refine ρ ?_;exact Jf _ sB H
   .refine ρ ?_;exact Jf _ sB H
  .refine ρ ?_;exact Jf _ sB H
 clear H;rintro t w4 H;refine Xt (fun (q:List Pr)=>[(0,.slice A n c),(1,.int .i64 (a:Int)),(2,.int .i64 (b:Int)),(3,.int .i64 lim),(4,.func (.func fid) first cap),(10,.bool wb),(11,.bool a4),(12,.int .i64 ((b:Int)-(a:Int))),(13,.int .i64 (pv:Int))]) (λq w'=>DP w w' base A n c ps q/\Seg z0 a0 b0 ps q/\BelZ ds q a b/\KpZ ds q a b a0 b0) ?_ ?_
 .refine ci (λh=>?_) (λh=>?_)
  .refine ρ ?_;refine cl (Qgb (a:=a) (b:=b) H.d H.l hmx (hC.step H) rfl rfl om hb) ?_;rintro v w2 ⟨q2,H2,t2,rfl,a3⟩;have hs:=Go.Sort.partialInsertionSort_holds (lt:=ltP ds) (swoP ds) q.toArray a b om (by simpa [H.l] using hb) C.arr;rw [a3]at hs;have G:=H2.seg hs.1;refine ρ ?_;refine ci (λh=>?_) (λh=>?_)
   .refine ρ ?_;exact Jwc ⟨q2,H.after H2,u.trans (G.mono O J),o q2 G (Jpd (hs.2 h))⟩
   .refine ρ ?_;exact Jf _ sB ⟨H.after H2,u.trans (G.mono O J),C.seg G om (by rw [H.l];exact hb),o.seg G⟩
  .refine ρ ?_;exact Jf _ sB ⟨H,u,C,o⟩
 clear H u C o q;rintro q w5 ⟨H,u,C,o⟩;refine ρ ?_;refine Xt (fun (t:Bool)=>[(0,.slice A n c),(1,.int .i64 (a:Int)),(2,.int .i64 (b:Int)),(3,.int .i64 lim),(4,.func (.func fid) first cap),(10,.bool wb),(11,.bool a4),(12,.int .i64 ((b:Int)-(a:Int))),(13,.int .i64 (pv:Int)),(97,.bool t)]) (λt w'=>DP w w' base A n c ps q/\(t=true->0<a/\ltP ds (q.getD (a-1) z0) (q.getD pv z0)=false)) ?_ ?_
 .skip
  refine dr [(0,0),(0,1),(0,2),(0,3),(0,4),(0,5),(0,6),(0,7),(0,8),(0,9),(0,10),(0,11),(0,12),(1,13),(0,14),(0,15),(0,16)] kr ?_;have Hd:=H.drew;refine ρd ?_;refine dki 83 (λh=>?_) (λh=>?_)
  .have hT:0<a:=by have:=oT h;omega
   have lx:a-1<n:=om
   have ly:pv<n:=om
   refine ρd ?_;refine dix (a-1) Hd.rd lx ?_;refine ρd ?_;refine dld (Hd.cell lx) ?_;refine ρd ?_;refine dix (pv) Hd.rd ly ?_;refine ρd ?_;refine dld (Hd.cell ly) ?_;refine ρd ?_;refine Vx (hC.callV Hd lx ly) ?_;rintro r aj ⟨rfl,a7⟩;refine ⟨a7,?_⟩;have HT:=Hd.ext a7;refine ρd ?_;refine ρ ?_;exact Jf _ sB ⟨HT,λe=>⟨hT,by
    cases h':ltP ds (q.getD (a-1) z0) (q.getD pv z0) with
    | false=>rfl
    | true=>exact absurd (show (!ltP ds (q.getD (a-1) z0) (q.getD pv z0))=true from e) (by rw [h'];decide)⟩⟩
  .refine ρd ?_;refine ρ ?_;exact Jf false sB ⟨Hd,λe=>by cases e⟩
 clear H;rintro t2 w6 ⟨H,a9⟩;refine ci (λh=>?_) (λh=>?_)
 .refine ρ ?_;refine cl (Qgh (a:=a) (b:=b) (pv:=pv) H.d H.l hmx (hC.step H) rfl rfl rfl om hb a2 a1) ?_;rintro v w2 ⟨q2,H2,U,rfl,ac,aa,a3⟩;obtain ⟨k1,k2,k3⟩:=Qnv H2 H.l C o (a9 h).1 (a9 h).2 a2 a1 hb a3;refine ρ ?_;exact Gg (U,b) (lim,wb) a4 q2 sB ⟨H.after H2,⟨u.trans (k1.mono O J),k2,k3,by simp only;omega,J⟩,by simp only;omega,by simp only;omega,by simp only;omega,by simp only;omega,by simp only;omega⟩ (by simp only;omega)
 refine ρ ?_;refine cl (Qgf (a:=a) (b:=b) (pv:=pv) H.d H.l hmx (hC.step H) rfl rfl rfl om hb a2 a1) ?_;rintro v w7 ⟨q2,H2,U,af,rfl,ac,aa,a3⟩;have H3:=H.after H2;obtain ⟨k1,_,_,k4,k5⟩:=Qgd H2 H.l a2 a1 hb a3;have ad:b<=q.length:=by rw [H.l];exact hb
 have ah:=C.seg k1 om ad;clear H H2 a9;refine ρ ?_;refine qn (b-a) 8 ?_;refine ρ ?_;refine ci (λh=>?_) (λh=>?_)
 .refine ρ ?_;refine cl (ih (U-a) om H3.d H3.l hmx (hC.step H3) (a0:=a) (b0:=U) rfl rfl om om ⟨a6,a5⟩ (Nat.le_refl _) (ah.imp id λh i j1 j2=>h i j1 om)) ?_;rintro v w8 ⟨q3,H4,k6,k7⟩;obtain ⟨k8,k9⟩:=Qlr k1 ad o ac aa k4 k5 k6 k7;refine ρ ?_;exact Gg (U+1,b) (lim,_) af q3 sO ⟨H3.after H4,⟨(u.trans (k1.mono O J)).trans (k6.mono O om),k8,k9,by simp only;omega,J⟩,by simp only;omega,by simp only;omega,by simp only;omega,by simp only;omega,by simp only;omega⟩ (by simp only;omega)
 .refine ρ ?_;refine cl (ih (b-(U+1)) om H3.d H3.l hmx (hC.step H3) (a0:=U+1) (b0:=b) (ai:=(U:Int)+1) om rfl om om ⟨a6,a5⟩ (Nat.le_refl _) (.inr λi j1 j2=>by rw [show U+1-1=U by omega];exact k5 i om j2)) ?_;rintro v w8 ⟨q3,H4,k6,k7⟩;obtain ⟨k8,k9⟩:=Qdk k1 ad C o ac aa k4 k5 k6 k7;refine ρ ?_;exact Gg (a,U) (lim,_) af q3 sO ⟨H3.after H4,⟨(u.trans (k1.mono O J)).trans (k6.mono om J),k8,k9,O,by simp only;omega⟩,by simp only;omega,by simp only;omega,by simp only;omega,by simp only;omega,by simp only;omega⟩ (by simp only;omega)
end Go.Proofs.YtebcagekopgdhaaGreatDoor
namespace Go.Wk
open Go.RowKit
variable {cs xs:List Value}{base e m n:Nat}{N N':Nat->Prop}{A:Option Addr}{g:Option Nat}{v x:Value}{a w w':World}
structure GrN(N:Nat->Prop)(w w':World): Prop where
 os:w'.os=w.os
 tape:w'.tape=w.tape
 output:w'.output=w.output
 size:w.heap.size<=w'.heap.size
 block:∀ k,k<w.heap.size->¬ N k->w'.heap[k]?=w.heap[k]?
theorem GrN.refl(N:Nat->Prop)(w:World): GrN N w w:=⟨rfl,rfl,rfl,Nat.le_refl _,λ_ _ _=>rfl⟩
theorem GrN.ext(h:Ext w w'): GrN N w w':=⟨h.os,h.tape,h.output,h.size,λk o _=>h.block k o⟩
theorem GrN.trans{N:Nat->Prop}{a b c:World}(h:GrN N a b)(k:GrN N b c): GrN N a c :=
 ⟨k.os.trans h.os,k.tape.trans h.tape,k.output.trans h.output,Nat.le_trans h.size k.size,λj o hn=>(k.block j (nM o h.size) hn).trans (h.block j o hn)⟩
theorem GrN.by(h:w.grownBy w' g)(hg:∀ k,g=some k->N k): GrN N w w':=⟨h.os,h.tape,h.output,h.size,λk o hn=>h.block k o (λe=>hn (hg k e.symm))⟩
theorem GrN.set{p:Addr}(u:Value)(hp:N p.block): GrN N w (w.setCell p u):=by
 refine ⟨rfl,rfl,rfl,by simp [World.setCell],λk o hn=>Below.heap_setCell w p u k ?_⟩;intro e;subst e;exact hn hp
theorem GrN.mono(h:GrN N w w')(hN:∀ k,k<w.heap.size->N k->N' k): GrN N' w w':=⟨h.os,h.tape,h.output,h.size,λk o hn=>h.block k o (λe=>hn (hN k o e))⟩
theorem GrN.old(h:GrN N w w')(hx:Ext a w)(hN:∀ k,N k->a.heap.size<=k): Ext a w' :=
 ⟨h.os.trans hx.os,h.tape.trans hx.tape,h.output.trans hx.output,Nat.le_trans hx.size h.size,λk o=>(h.block k (nM o hx.size) (λe=>by have:=hN k e;omega)).trans (hx.block k o)⟩
theorem GrN.toExt(h:GrN (λ_=>False) w w'): Ext w w':=⟨h.os,h.tape,h.output,h.size,λk o=>h.block k o (λe=>e)⟩
def Off(N:Nat->Prop)(w:World)(Φ:World->Prop): Prop:=∀ w',GrN N w w'->Φ w'
section
variable {N N':Nat->Prop} {w w':World} {Φ Ψ:World->Prop}
theorem Off.here(h:Off N w Φ): Φ w:=h w (GrN.refl N w)
theorem Off.gr(h:Off N w Φ)(hg:GrN N w w'): Off N w' Φ:=λo u=>h o (hg.trans u)
theorem Off.ext(h:Off N w Φ)(hx:Ext w w'): Off N w' Φ:=h.gr (GrN.ext hx)
theorem Off.mono(h:Off N w Φ)(hN:∀ k,k<w.heap.size->N' k->N k): Off N' w Φ:=λw' o=>h w' (o.mono hN)
theorem Off.imp(h:Off N w Φ)(hi:∀ u,Φ u->Ψ u): Off N w Ψ:=λw' o=>hi w' (h w' o)
theorem Off.and(h:Off N w Φ)(k:Off N w Ψ): Off N w (λu=>Φ u/\Ψ u):=λw' o=>⟨h w' o,k w' o⟩
theorem Off.grown(h:Off N w Φ)(hg:w.grownBy w' g)(hN:∀ k,g=some k->N k): Off N w' Φ:=h.gr (GrN.by hg hN)
theorem Off.old{a:World}(hΦ:∀ u,Ext a u->Φ u)(hx:Ext a w)(hN:∀ k,N k->a.heap.size<=k): Off N w Φ:=λw' o=>hΦ w' (o.old hx hN)
theorem Vj{sz:Nat}(h:Rd w sz A n cs)(hg:GrN N w w')(hA:0<cs.length->∀ ad,A=some ad->¬ N ad.block): Rd w' sz A n cs :=
 ⟨h.1,λh0=>by
  obtain ⟨ad,e,o,G⟩:=h.2 h0;refine ⟨ad,e,Nat.lt_of_lt_of_le o hg.size,λj u C=>?_⟩;rw [<-G j u C];exact World.cell?_of_block (by rw [Ya];exact hg.block _ o (hA h0 ad e))⟩
theorem Jvt{sz:Nat}(h:Rd w sz A n cs)(hA:0<cs.length->∀ ad,A=some ad->¬ N ad.block): Off N w (λu=>Rd u sz A n cs):=λw' o=>Vj h o hA
theorem Jv{g:Nat}{t:TypeId}(h:Blk w g t cs)(hg:GrN N w w')(hn:¬ N g): Blk w' g t cs:=(hg.block g h.lt hn).trans h
theorem Js{sz:Nat}(h:w.ownsRow base e sz v m xs)(hg:GrN N w w')(hn:∀ g,v.ownBlock=some g->¬ N g): w'.ownsRow base e sz v m xs:=by
 rcases h with ⟨J,⟨rfl,rfl⟩|⟨g,G,cur,rfl,Z,C,u,O,U,ht⟩⟩
 .exact ⟨J,.inl ⟨rfl,rfl⟩⟩
 .refine ⟨J,.inr ⟨g,G,cur,rfl,Z,?_,u,O,U,ht⟩⟩;have o:g<w.heap.size:=by
   rcases Nat.lt_or_ge g w.heap.size with h'|h'
   .exact h'
   .rw [Array.getElem?_eq_none h']at C;cases C
  rw [hg.block g o (hn g rfl)];exact C
theorem Jqx{sz:Nat}(h:w.ownsRow base e sz v m xs)(hn:∀ g,v.ownBlock=some g->¬ N g): Off N w (λu=>u.ownsRow base e sz v m xs):=λw' o=>Js h o hn
end
theorem Zp{P:Program}{al:AL}{tt:TT}[h:Tab P tt]{fn:Func}{Φ:Value->World->Prop}{c t t1 b:Nat}{k:TK}(hb:Blk w b t cs)(hp:Φ (.tuple #[.agg cs.toArray,x]) w)(hr:fn.results = #[.cell c t,.tmp t1]:=by rfl)(ht:tk tt t=some k:=by rfl)(hk:k.desc=.invalid:=by rfl)(hs:k.size=cs.length:=by rfl)(hc:lk al c=some (.pointer (some ⟨b,0,none⟩)):=by rfl)(h1:lk al t1=some x:=by rfl):
  QX n (Vz P fn Φ) .ret al w :=
 Jzb (rs:=[.cell c t,.tmp t1]) (vs:=[.agg cs.toArray,x]) hr ⟨⟨_,hc,Ia h.ok ht hk hs (λj u o=>hb.at o)⟩,h1,trivial⟩ rfl hp
end Go.Wk
namespace Go.Proofs.YtebcagekopgdhaaGreatDoor
open Go.RowKit Pl Go.Wk
attribute [local irreducible] WC WL QX WD WDB WP
variable {r:List V}{N N':Nat->Prop}{w:World}
def RowX(w:World)(N:Nat->Prop)(v:Value)(r:List V): Prop:=∃ A c,v=.slice A r.length c/\r.length<=c/\r.length<=1100000/\RdR w A r/\(r≠[]->∀ ad,A=some ad->¬ N ad.block)
def one(g:Option Nat)(k:Nat): Prop:=g=some k
theorem RowX.v{v:Value}(h:RowX w N v r): RowV w v r:=by
 obtain ⟨A,c,G,C,u,o,_⟩:=h;exact ⟨A,c,G,C,u,o⟩
theorem RowX.ext{w w':World}{N:Nat->Prop}{v:Value}{r:List V}(h:RowX w N v r)(hx:Ext w w'): RowX w' N v r:=by
 obtain ⟨A,c,J,G,C,u,o⟩:=h;exact ⟨A,c,J,G,C,u.ext hx,o⟩
theorem RowX.mono{v:Value}(h:RowX w N v r)(hN:∀ k,k<w.heap.size->N' k->N k): RowX w N' v r:=by
 obtain ⟨A,c,O,J,G,u,C⟩:=h;refine ⟨A,c,O,J,G,u,λh0 ad e hn=>C h0 ad e (hN _ ?_ hn)⟩;obtain ⟨Z,o,U⟩:=Rd.isome u (List.length_pos_iff.2 h0) om;rw [e]at o;injection o with o;subst o;exact U
theorem RowX.grown{w w':World}{N:Nat->Prop}{g:Option Nat}{v:Value}{r:List V}(h:RowX w N v r)(hg:w.grownBy w' g)(hN:∀ k,g=some k->N k): RowX w' N v r:=by
 obtain ⟨A,c,J,G,C,u,o⟩:=h;refine ⟨A,c,J,G,C,?_,o⟩;by_cases h0:r=[]
 .subst h0;exact Rd.nil
 .exact Rd.grown u hg (λU e O=>o h0 U e (hN _ O))
theorem RowX.nil(w:World)(N:Nat->Prop): RowX w N (.slice none 0 0) []:=⟨none,0,rfl,by simp,by simp,Rd.nil,λh=>absurd rfl h⟩
def RowsV(w:World)(v:Value)(ls:List (List V)): Prop:=∃ (ps:List Pr) (A:Option Addr) (c:Nat),ls=ps.map (·.2)/\v=.slice A ps.length c/\ps.length<=c/\ps.length<=1100000/\Rd w 1 A ps.length (ps.map (·.1))/\∀ p∈ps,RowV w p.1 p.2
theorem RowsV.ext{w w':World}{v:Value}{ls:List (List V)}(h:RowsV w v ls)(hx:Ext w w'): RowsV w' v ls:=by
 obtain ⟨ps,A,c,U,O,J,G,C,u⟩:=h;exact ⟨ps,A,c,U,O,J,G,C.ext hx,λp o=>(u p o).ext hx⟩
theorem RowV.one{v:Value}(h:RowV w v r): v.oneCell'=true:=by obtain ⟨A,c,rfl,_⟩:=h;rfl
theorem Jzf{v:Value}(h:RowV w v r)(N:Nat->Prop)(hg:∀ k,N k->k<w.heap.size):
  Ret Tryz.prog 102 [v] w λv' w'=>RowX w' N v' r/\Ext w w':=by
 obtain ⟨A,c,rfl,Z,h3,U⟩:=h;refine Jz Tryz.func102 Tryz.ntmps102 rfl kr rfl ?_;refine ρ ?_;refine Ir ?_;refine ρ ?_;refine ci (λh=>?_) (λh=>?_)
 .have hA:A=none:=by simpa using h
  subst hA;have hn:r.length=0:=by
   rcases Nat.eq_zero_or_pos r.length with h0|h0
   .exact h0
   .obtain ⟨ad,Z,_⟩:=U.isome h0 om;cases Z
  obtain rfl:=List.eq_nil_of_length_eq_zero hn;refine ρ ?_;exact Jq ⟨RowX.nil w N,Ext.refl w⟩
 .refine ρ ?_;refine bsl Jjs ?_;intro w1 b u O J;refine ρ ?_;refine apo u EV (J.own (n:=0) O rfl (Nat.zero_le _)) (U.ext u) (Jvq r) (by unfold maxLen;omega) om ?_;intro v2 w2 o G _ _;obtain ⟨A2,c2,rfl,C,hf⟩:=Jy o;refine ρ ?_;rw [Nat.zero_add]at o C ⊢;refine Jq ⟨⟨A2,c2,rfl,C,h3,Rd.own o,λ_ ad e=>?_⟩,G⟩;subst e;intro e2;have h4:=hg _ e2;have h5:=(hf ad.block rfl).1;omega
theorem Pr.rep(n:Nat): (List.replicate n ((.slice none 0 0,[]):Pr)).map (·.1)=List.replicate n (.slice none 0 0):=by simp
def Srt(ds:List Bool)(ls:List (List V)): Prop:=ls.Pairwise λa b=>Jw a b ds<=0
theorem Jpc{ds:List Bool}{ps:List Pr}(h:SOn z0 (fP ds) ps 0 ps.length): Srt ds (ps.map (·.2)):=by
 unfold Srt;rw [List.pairwise_map,List.pairwise_iff_getElem];intro i j hi u o;have:=h i j (Nat.zero_le _) o u;rw [Jr z0 ps hi,Jr z0 ps u]at this;exact this
end Go.Proofs.YtebcagekopgdhaaGreatDoor
namespace Go.Proofs.YtebcagekopgdhaaGreatDoor
open Pl
variable {ds:List Bool}{i j k:Nat}
abbrev Row:= List V
def Lt(ds:List Bool)(ls:List Row): Prop:=ls.Pairwise λa b=>Jw a b ds<0
def IsSet(ds:List Bool)(ls m:List Row): Prop:=Lt ds m/\∀ x,x∈m↔x∈ls
theorem Jyk(ds:List Bool)(a:Row): ¬ Jw a a ds<0:=by rw [Va];omega
theorem Qlj{a b:Row}(h:Jw a b ds<0): ¬ Jw b a ds<0:=by rw [Jwk a b];omega
theorem Jqq{ds:List Bool}: ∀ {l m:List Row},Lt ds l->Lt ds m->(∀ x,x∈l↔x∈m)->l=m
 | [],[],_,_,_=>rfl
 | [],b::m,_,_,h=>absurd ((h b).2 (mC ..)) (by simp)
 | a::l,[],_,_,h=>absurd ((h a).1 (mC ..)) (by simp)
 | a::l,b::m,h1,h2,h=>by
  have p1:=List.pairwise_cons.1 h1;have p2:=List.pairwise_cons.1 h2;have hab:a=b:=by
   rcases List.mem_cons.1 ((h a).1 (mC ..)) with e|e
   .exact e
   .rcases List.mem_cons.1 ((h b).2 (mC ..)) with e2|e2
    .exact e2.symm
    .exact absurd (p1.1 _ e2) (Qlj (p2.1 _ e))
  subst hab;congr 1
  refine Jqq p1.2 p2.2 λx=>?_;have hx:=h x;constructor
  .intro hm;rcases List.mem_cons.1 (hx.1 (List.mem_cons_of_mem _ hm)) with e|e
   .subst e;exact absurd (p1.1 _ hm) (Jyk ds x)
   .exact e
  .intro hm;rcases List.mem_cons.1 (hx.2 (List.mem_cons_of_mem _ hm)) with e|e
   .subst e;exact absurd (p2.1 _ hm) (Jyk ds x)
   .exact e
def ddS(out:List Row)(x:Row): List Row:=if out.getLast?=some x then out else out++[x]
def ddF(l:List Row): List Row:=l.foldl ddS []
theorem Jhg(l:List Row)(x:Row): ddF (l++[x])=ddS (ddF l) x:=by simp [ddF,List.foldl_append]
theorem Qxg(out:List Row)(x:Row): (ddS out x).getLast?=some x:=by
 unfold ddS;split
 .assumption
 .simp
theorem getLast_mem'{l:List Row}{x:Row}(h:l.getLast?=some x): x∈l:=by
 rw [List.getLast?_eq_some_iff]at h;obtain ⟨o,rfl⟩:=h;simp
theorem Jhf{ds:List Bool}: ∀ (l out:List Row),Lt ds out->(∀ a∈out,∀ b∈l,Jw a b ds<=0)->Srt ds l->Lt ds (l.foldl ddS out)/\∀ x,x∈l.foldl ddS out↔(x∈out∨x∈l)
 | [],out,h,_,_=>⟨h,λx=>by simp⟩
 | y::l,out,h,hle,hs=>by
  have p:=List.pairwise_cons.1 hs;simp only [List.foldl_cons];by_cases e:out.getLast?=some y
  .have hy:=getLast_mem' e;have e1:ddS out y=out:=by unfold ddS;rw [if_pos e]
   rw [e1];obtain ⟨k1,k2⟩:=Jhf l out h (λa ha b hb=>hle a ha b (List.mem_cons_of_mem _ hb)) p.2;refine ⟨k1,λx=>(k2 x).trans ?_⟩;constructor
   .rintro (h'|h')
    .exact .inl h'
    .exact .inr (List.mem_cons_of_mem _ h')
   .rintro (h'|h')
    .exact .inl h'
    .rcases List.mem_cons.1 h' with rfl|h'
     .exact .inl hy
     .exact .inr h'
  .have e1:ddS out y=out++[y]:=by unfold ddS;rw [if_neg e]
   rw [e1];have hlt:∀ a∈out,Jw a y ds<0:=by
    intro a ha;have h1:=hle a ha y (mC ..);rcases Int.lt_or_eq_of_le h1 with h2|h2
    .exact h2
    .exfalso
     have:=Jzd _ _ _ h2;subst this
     -- a is in out,and everything in out is below a;so a is the last
     obtain ⟨z,hz⟩:∃ z,out.getLast?=some z:=by
      cases hq:out.getLast? with
      | none=>rw [List.getLast?_eq_none_iff]at hq;rw [hq]at ha;cases ha
      | some z=>exact ⟨z,rfl⟩
     rw [List.getLast?_eq_some_iff]at hz;obtain ⟨ys,rfl⟩:=hz;rcases List.mem_append.1 ha with h3|h3
     .have h4:=(List.pairwise_append.1 h).2.2 _ h3 z (by simp);have h5:=hle z (by simp) a (mC ..);exact absurd ((Gz ds).lt_le h4 h5) (Jyk ds a)
     .rw [List.mem_singleton.1 h3]at e;simp at e
   obtain ⟨k1,k2⟩:=Jhf l (out++[y]) (List.pairwise_append.2 ⟨h,List.pairwise_singleton _ _,λa ha b hb=>by rw [List.mem_singleton.1 hb];exact hlt a ha⟩) (λa ha b hb=>by
    rcases List.mem_append.1 ha with h'|h'
    .exact hle a h' b (List.mem_cons_of_mem _ hb)
    .rw [List.mem_singleton.1 h'];exact p.1 b hb) p.2
   refine ⟨k1,λx=>(k2 x).trans ?_⟩;rw [List.mem_append,List.mem_singleton,List.mem_cons,or_assoc]
theorem Qxf: ∀ (l out:List Row),(l.foldl ddS out).length<=out.length+l.length
 | [],out=>by simp
 | y::l,out=>by
  simp only [List.foldl_cons];have:=Qxf l (ddS out y);have h2:(ddS out y).length<=out.length+1:=by unfold ddS;split<;>simp
  simp only [List.length_cons];omega
theorem Jwg(l:List Row): (ddF l).length<=l.length:=by have:=Qxf l [];simpa [ddF] using this
theorem Qxj{l:List Row}(h:Srt ds l): IsSet ds l (ddF l):=by
 obtain ⟨C,u⟩:=Jhf l [] List.Pairwise.nil (λa o=>by cases o) h;exact ⟨C,λx=>(u x).trans (by simp)⟩
theorem Qxh{l:List Row}(hk:k<l.length): ddF (l.take (k+1))=if k≠0/\l.getD (k-1) []=l.getD k [] then ddF (l.take k) else ddF (l.take k)++[l.getD k []]:=by
 rw [List.take_succ_eq_append_getElem hk,Jhg,<-Jr [] l hk];unfold ddS;by_cases h0:k=0
 .subst h0;rw [if_neg (by simp [ddF]),if_neg (by simp)]
 .have o:k-1<l.length:=om
  have e:ddF (l.take k)=ddS (ddF (l.take (k-1))) (l.getD (k-1) []):=by
   have:=List.take_succ_eq_append_getElem o;rw [show k-1+1=k by omega]at this;rw [this,Jhg,Jr [] l o]
  rw [e,Qxg];by_cases h1:l.getD (k-1) []=l.getD k []
  .rw [if_pos (by rw [h1]),if_pos ⟨h0,h1⟩]
  .rw [if_neg (by simpa using h1),if_neg (λh=>h1 h.2)]
def cnt(ds:List Bool)(l:List Row)(r:Row): Nat:=(l.filter λx=>decide (Jw x r ds<0)).length
theorem Jhl(ds:List Bool)(l:List Row)(r:Row): cnt ds l r<=l.length:=List.length_filter_le _ _
theorem Lt.at{l:List Row}(h:Lt ds l)(hij:i<j)(hj:j<l.length): Jw (l.getD i []) (l.getD j []) ds<0:=by
 have:=List.pairwise_iff_getElem.1 h i j om hj hij;rw [Jr [] l hj,Jr [] l om];exact this
theorem Qxr{l:List Row}{r:Row}(hk:k<=l.length)(hlo:∀ i,i<k->Jw (l.getD i []) r ds<0)(hhi:∀ i,k<=i->i<l.length->¬ Jw (l.getD i []) r ds<0): cnt ds l r=k:=by
 unfold cnt;have e:l=l.take k++l.drop k:=(List.take_append_drop k l).symm;rw [e,List.filter_append,List.length_append];have G:(l.take k).filter (λx=>decide (Jw x r ds<0))=l.take k:=by
  rw [List.filter_eq_self];intro x u;obtain ⟨i,hi,rfl⟩:=List.getElem_of_mem u;have o:i<k:=by simp at hi;omega
  have:=hlo i o;rw [Jr [] l om]at this;simpa using this
 have C:(l.drop k).filter (λx=>decide (Jw x r ds<0))=[]:=by
  rw [List.filter_eq_nil_iff];intro x u;obtain ⟨i,hi,rfl⟩:=List.getElem_of_mem u;have o:k+i<l.length:=by simp at hi;omega
  have:=hhi (k+i) om o;rw [Jr [] l o]at this;simpa using this
 rw [G,C];simp;omega
theorem Qdr{l:List Row}(h:Lt ds l){r:Row}(hk:k<=l.length)(hlo:k=0∨Jw (l.getD (k-1) []) r ds<0)(hhi:k=l.length∨¬ Jw (l.getD k []) r ds<0):
  cnt ds l r=k/\(r∈l↔k<l.length/\l.getD k []=r):=by
 have lo:∀ i,i<k->Jw (l.getD i []) r ds<0:=λi hi=>by
  rcases hlo with h0|h0
  .omega
  .by_cases e:i=k-1
   .rw [e];exact h0
   .exact (Gz ds).lt_trans (h.at (i:=i) (j:=k-1) om om) h0
 have hi:∀ i,k<=i->i<l.length->¬ Jw (l.getD i []) r ds<0:=λi o G=>by
  rcases hhi with h0|h0
  .omega
  .by_cases e:i=k
   .rw [e];exact h0
   .exact λU=>h0 ((Gz ds).lt_trans (h.at (i:=k) (j:=i) om G) U)
 refine ⟨Qxr hk lo hi,λJ=>?_,λ⟨o,G⟩=>?_⟩
 .obtain ⟨j,C,u⟩:=List.getElem_of_mem J;rw [<-Jr [] l C]at u;have O:k<=j:=by
   rcases Nat.lt_or_ge j k with o|o
   .exact absurd (u ▸ lo j o) (Jyk ds r)
   .exact o
  have:j=k:=by
   rcases Nat.lt_or_ge k j with o|o
   .exact absurd (u ▸ h.at o C) (hi k (Nat.le_refl _) om)
   .omega
  subst this;exact ⟨C,u⟩
 .rw [<-G];exact getD_mem' [] l o
def Zx(ds:List Bool)(l:List Row)(r:Row): List Row:=if r∈l then l else l.take (cnt ds l r)++r::l.drop (cnt ds l r)
theorem Qfg{l ls:List Row}{r:Row}(h:IsSet ds ls l): IsSet ds (ls++[r]) (Zx ds l r):=by
 unfold Zx;split
 .rename_i hm;refine ⟨h.1,λx=>?_⟩;rw [List.mem_append,List.mem_singleton,<-h.2 x];exact ⟨.inl,λu=>u.elim id λe=>e ▸ hm⟩
 .rename_i hm;have a1:=Jhl ds l r
  -- what is below the place is smaller,what is above is greater
  have Z:∃ k,cnt ds l r=k/\k<=l.length/\(∀ i,i<k->Jw (l.getD i []) r ds<0)/\(∀ i,k<=i->i<l.length->¬ Jw (l.getD i []) r ds<0):=by
   have ex:∀ n,n<=l.length->∃ k,k<=n/\(∀ i,i<k->Jw (l.getD i []) r ds<0)/\(k=n∨¬ Jw (l.getD k []) r ds<0):=by
    intro n;induction n with
    | zero=>exact λ_=>⟨0,Nat.le_refl _,λi hi=>om,.inl rfl⟩
    | succ n ih=>
     intro hn;obtain ⟨k,k1,G,o⟩:=ih om;rcases o with o|o
     .subst o;by_cases h0:Jw (l.getD k []) r ds<0
      .exact ⟨k+1,Nat.le_refl _,λi hi=>by
        by_cases e:i=k
        .rw [e];exact h0
        .exact G i om,.inl rfl⟩
      .exact ⟨k,om,G,.inr h0⟩
     .exact ⟨k,om,G,.inr o⟩
   obtain ⟨k,k1,G,o⟩:=ex l.length (Nat.le_refl _);have hi:∀ i,k<=i->i<l.length->¬ Jw (l.getD i []) r ds<0:=λi h1 h2=>by
    rcases o with o|o
    .omega
    .by_cases e:i=k
     .rw [e];exact o
     .exact λh3=>o ((Gz ds).lt_trans (h.1.at (i:=k) (j:=i) om h2) h3)
   exact ⟨k,Qxr k1 G hi,k1,G,hi⟩
  obtain ⟨k,hk,k1,G,o⟩:=Z;rw [hk];have J:=h.1;refine ⟨?_,λx=>?_⟩
  .unfold Lt at J ⊢;rw [List.pairwise_append];refine ⟨J.sublist (List.take_sublist _ _),List.pairwise_cons.2 ⟨λb U=>?_,J.sublist (List.drop_sublist _ _)⟩,λa ha b U=>?_⟩
   .obtain ⟨i,hi,rfl⟩:=List.getElem_of_mem U;have C:k+i<l.length:=by simp at hi;omega
    have:=o (k+i) om C;rw [Jr [] l C]at this;rw [List.getElem_drop];rcases (Gz ds).tot l[k+i] r with e|e|e
    .exact absurd e this
    .exact absurd (e ▸ List.getElem_mem C) hm
    .exact e
   .obtain ⟨i,hi,rfl⟩:=List.getElem_of_mem ha;have C:i<k:=by simp at hi;omega
    have h1:=G i C;rw [Jr [] l om]at h1;rw [List.getElem_take];rcases List.mem_cons.1 U with rfl|U
    .exact h1
    .obtain ⟨j,hj,rfl⟩:=List.getElem_of_mem U;have O:k+j<l.length:=by simp at hj;omega
     rw [List.getElem_drop];have:=h.1.at (i:=i) (j:=k+j) om O;rw [Jr [] l O,Jr [] l om]at this;exact this
  .rw [List.mem_append,List.mem_cons,List.mem_append,List.mem_singleton,<-h.2 x];have e:x∈l↔x∈l.take k∨x∈l.drop k:=by
    conv=>lhs;rw [<-List.take_append_drop k l]
    exact List.mem_append
   rw [e];constructor
   .rintro (u|u|u)
    .exact .inl (.inl u)
    .exact .inr u
    .exact .inl (.inr u)
   .rintro ((u|u)|u)
    .exact .inl u
    .exact .inr (.inr u)
    .exact .inr (.inl u)
open Go.RowKit Pl Go.Wk
attribute [local irreducible] WC WL QX WD WDB WP
variable {ls:List Row}{b base d i n ty:Nat}{v vr:Value}{a w:World}
theorem Jbp(v:Value)(w:World)(A:Option Addr)(n c:Nat)(hv:v=.slice A n c): (Instr.buildSlice 54 1 #[(0,v)]).run Tryz.prog w=.ok (.slice (some ⟨w.heap.size,0,none⟩) 1 1) (w.alloc (.cells [v].toArray 37)):=by
 subst hv;kernel_rfl
theorem Jxn{ps:List Pr}: (ps.map (·.2)).getD i []=(ps.getD i z0).2:=by
 simp only [List.getD,List.getElem?_map];cases ps[i]?<;>rfl
def own(base:Nat)(v:Value)(k:Nat): Prop:=k<base∨v.ownBlock=some k
def OwnR(w:World)(base:Nat)(v:Value)(ls:List Row): Prop:=∃ ps:List Pr,ls=ps.map (·.2)/\w.ownsRow base 37 1 v ps.length (ps.map (·.1))/\∀ p∈ps,RowX w (own base v) p.1 p.2
theorem OwnR.nil(w:World)(base:Nat): OwnR w base (.slice none 0 0) []:=⟨[],rfl,Xa _ _ _ _,λp o=>by cases o⟩
theorem OwnR.ext{w w':World}{base:Nat}{v:Value}{ls:List Row}(h:OwnR w base v ls)(hx:Ext w w'): OwnR w' base v ls:=by
 obtain ⟨ps,G,C,u⟩:=h;exact ⟨ps,G,Jk C hx,λp o=>(u p o).ext hx⟩
theorem OwnR.rows(h:OwnR w base v ls)(hm:ls.length<=1100000): RowsV w v ls:=by
 obtain ⟨ps,rfl,o,G⟩:=h;obtain ⟨A,c,rfl,C,_⟩:=Jy o;exact ⟨ps,A,c,rfl,rfl,C,by simpa using hm,Rd.own o,λp u=>(G p u).v⟩
theorem OwnR.lt(h:OwnR w base v ls): ∀ k,v.ownBlock=some k->base<=k/\k<w.heap.size:=by
 obtain ⟨ps,rfl,u,G⟩:=h;obtain ⟨A,c,rfl,C,o⟩:=Jy u;exact o
theorem appR{P:Program}{al:AL}{Q:Exit->Act->World->Prop}{ops:Array Oper}{rest:List Oper}{pos:String}{aft:Array Edge}(hxa:Ext a w){x y:Operand}{r:Row}(hE:ElT P 54 37 1 24 (.slice none 0 0))(ho:OwnR w a.heap.size v ls)(hb:Blk w b 37 [vr])(hr:RowX w (own a.heap.size v) vr r)(hm:ls.length<=1100000)(kk:∀ v' w',OwnR w' a.heap.size v' (ls++[r])->Ext a w'->w.grownBy w' v.ownBlock->WL P n ops Q rest ((d,v')::al) w')(hx:ev al x=some v:=by rfl)(hy:ev al y=some (.slice (some ⟨b,0,none⟩) 1 1):=by rfl)(hd:Nat.blt d n=true:=by rfl):
  WL P n ops Q (⟨some d,.call { callee:=.builtin .append,args:=#[x,y],argTypes:=#[54,54] },ty,pos,aft,none⟩::rest) al w:=by
 obtain ⟨ps,rfl,h2,h3⟩:=ho;have C:vr.oneCell'=true:=hr.v.one;refine apo hxa hE h2 hb.one (λu hu=>by rw [List.mem_singleton.1 hu];exact C) (by unfold maxLen;simp at hm;omega) (by simp at hm;omega) ?_ hx hy hd;intro v' w' U J G Z;have o:∀ (p:Pr),RowX w (own a.heap.size v) p.1 p.2->RowX w' (own a.heap.size v') p.1 p.2:=λp O=>by
  have h1:=O.mono (N':=λk=>own a.heap.size v k∨own a.heap.size v' k) (λk hk h=>by
   rcases h with h|h|h
   .exact h
   .exact .inl h
   .rcases Z k h with h4|h4
    .exact .inr h4
    .omega)
  obtain ⟨A,c,e1,e2,e3,e4,e5⟩:=h1.grown G (λk hk=>.inl (.inr hk));exact ⟨A,c,e1,e2,e3,e4,λh0 ad e hn=>e5 h0 ad e (.inr hn)⟩
 refine kk v' w' ⟨ps++[(vr,r)],by simp,?_,λp O=>?_⟩ J G
 .rw [List.length_append,List.map_append];exact U
 .rcases List.mem_append.1 O with h'|h'
  .exact o p (h3 p h')
  .rw [List.mem_singleton.1 h'];exact o (vr,r) hr
theorem RowsV.parts(h:RowsV w v ls): ∃ A c,v=.slice A ls.length c/\ls.length<=c/\ls.length<=1100000/\∃ cs:List Value,Rd w 1 A ls.length cs/\∀ i,i<ls.length->∃ u,cs[i]?=some u/\RowV w u (ls.getD i []):=by
 obtain ⟨ps,A,c,rfl,rfl,O,J,G,C⟩:=h;refine ⟨A,c,by simp,by simpa using O,by simpa using J,ps.map (·.1),by simpa using G,λi hi=>?_⟩
 have o:i<ps.length:=by simpa using hi
 exact ⟨_,Io o,by rw [Jxn];exact C _ (getD_mem' z0 ps o)⟩
open Go.RowKit Pl Go.Wk
variable {cap first:Array Value}{fid:FuncId}{ds:List Bool}{ps:List Pr}{base c i n:Nat}{A:Option Addr}{row:Option Nat}{w w':World}
theorem Qcg(hD:Dat w base (.slice A n c) ps)(hn:ps.length=n)(hmx:n<=1100000)(hC:CF w (Value.slice A n c).ownBlock fid first cap ps ds):
  Ret Tryz.prog 122 [.slice A n c,.func (.func fid) first cap] w λv w'=>∃ ps',DP w w' base A n c ps ps'/\(n<=1000->SOn z0 (fP ds) ps' 0 n):=by
 refine Jz Tryz.func122 Tryz.ntmps122 rfl kr rfl ?_;refine ρ ?_;refine kv 10 (u:=.int .u64 (n:Int)) (congrArg (Value.int .u64) (Ut om)) ?_;refine cl (Qkf n om w) ?_;rintro v w' ⟨rfl,rfl⟩;refine ρ ?_;have G:Ju n<=48:=Jxp om;refine cl (Qfx n (a0:=0) (b0:=n) (ai:=0) (bi:=(n:Int)) (lim:=(Ju n:Int)) hD hn om hC rfl rfl om (Nat.le_refl _) om om (.inl rfl)) ?_;rintro v C ⟨q,H,_,o⟩;refine ρ ?_;exact Uf ⟨q,H,λ_=>o⟩
theorem Jpf{α:Type}{z:α}{f:α->α->Int}(hf:PreC f){q:List α}: SOn z f q 0 n↔∀ k,0<k->k<n->¬ f (q.getD k z) (q.getD (k-1) z)<0:=by
 constructor
 .intro h k h0 u o;have:=h (k-1) k om om u;have:=hf.anti (q.getD k z) (q.getD (k-1) z);omega
 .intro h i j _ G C;induction j with
  | zero=>omega
  | succ j ih=>
   have J:=h (j+1) om C;have O:=hf.anti (q.getD (j+1) z) (q.getD j z);simp only [Nat.add_sub_cancel]at J;by_cases e:i=j
   .subst e;omega
   .exact hf.trans _ _ _ (ih om om) om
theorem Jqr(hR:Rd w 1 A n (ps.map (·.1)))(hn:ps.length=n)(hi:i<n): w.cell? (adr A i)=some (ps.getD i z0).1:=hR.cell (Io (hn.symm ▸ hi))
theorem Vf(hn:ps.length=n)(hi:i<n): ps.getD i z0∈ps:=getD_mem' z0 ps (hn.symm ▸ hi)
theorem CF.none(h:CF w row fid first cap ps ds)(hx:Ext w w'){p q:Pr}(hp:p∈ps)(hq:q∈ps):
  Ret Tryz.prog fid (first.toList++[p.1,q.1]++cap.toList) w' λr w''=>r=.int .i64 (fP ds p q)/\Ext w' w'':=h w' (Zc hx _) p q hp hq
theorem Qmj(hR:Rd w 1 A n (ps.map (·.1)))(hn:ps.length=n)(hmx:n<=1100000)(hC:CF w row fid first cap ps ds):
  Ret Tryz.prog 120 [.slice A n c,.func (.func fid) first cap] w λv w'=>Ext w w'/\∃ t:Bool,v=.bool t/\(t=true↔SOn z0 (fP ds) ps 0 n):=by
 refine Jz Tryz.func120 Tryz.ntmps120 rfl kr rfl ?_;refine ρ ?_;refine Qh (fun (j:Nat)=>[(0,.slice A n c),(1,.func (.func fid) first cap),(5,.int .i64 ((j:Int)-1))]) (λj w'=>Ext w w'/\j<=n/\∀ k,j<=k->0<k->k<n->¬ fP ds (ps.getD k z0) (ps.getD (k-1) z0)<0) (λj=>j) n sO ⟨Ext.refl w,Nat.le_refl _,λk h1 _ h2=>om⟩ ?_;rintro j w1 ⟨Z,hj,hI⟩;refine ρ ?_;refine ci (λh=>?_) (λh=>?_)
 .have h2:2<=j:=by have:=oT h;omega
  have J:j-1<n:=om
  have C:j-2<n:=om
  refine ρ ?_;refine dr [(0,0),(0,1),(0,2),(0,3),(0,4),(0,5),(0,6),(0,7),(0,8),(0,9),(1,10),(0,11)] kr ?_;have o:Ext w w1.drew:=Z.drew;have u:=hR.ext o;refine ρd ?_;refine dix (j-1) u J ?_;refine ρd ?_;refine dld (Jqr u hn J) ?_;refine ρd ?_;refine dix (j-2) u C ?_;refine ρd ?_;refine dld (Jqr u hn C) ?_;refine ρd ?_;refine Vx (hC.none o (Vf hn J) (Vf hn C)) ?_;rintro r w2 ⟨rfl,G⟩;refine ⟨G,?_⟩;refine ρd ?_;refine ρ ?_;refine ci (λh=>?_) (λh=>?_)
  .refine ρ ?_;refine Jq ⟨o.trans G,false,rfl,⟨λe=>(by cases e),λe=>?_⟩⟩;have:=(Jpf (preP ds)).1 e (j-1) om J;exact absurd (oT h) this
  .refine ρ ?_;refine Qv (j-1) sO ⟨o.trans G,om,λk U O k3=>?_⟩ om;by_cases e:k=j-1
   .subst e;exact oF h
   .exact hI k om O k3
 .refine ρ ?_;have h1:j<=1:=by have:=oF h;omega
  exact Jq ⟨Z,true,rfl,⟨λ_=>(Jpf (preP ds)).2 λk U O=>hI k om U O,λ_=>rfl⟩⟩
theorem Qgn{P:Program}{t e k bytes:Nat}{z:Value}{xs:List Value}(hE:ElT P t e 1 bytes z)(hz1:z.cells = #[z])(hz2:z.oneCell'=true)(h:w.ownsRow base e 1 (.slice A n c) n xs)(hk:k<=n)(ty:TypeId):
  ∃ w',(Builtin.clear_ #[t] ty #[.slice (if c=k then A else A.map (·.add (k*1))) (n-k) (c-k)]).run P w=.ok (.tuple #[]) w'/\w'.ownsRow base e 1 (.slice A k c) k (xs.take k)/\w.grownBy w' (Value.slice A n c).ownBlock:=by
 obtain ⟨i,hi,Z,a1,a3⟩:=hE.info;obtain ⟨hl,U⟩:=h;have a2:xs.length=n:=om
 rcases Nat.eq_or_lt_of_le hk with e0|hlt
 .subst e0;refine ⟨w,?_,?_,Zc (Ext.refl w) _⟩
  .rw [Nat.sub_self];generalize (if c=k then A else A.map (·.add (k*1)))=B
   cases B<;>simp [Builtin.clear_,run_underlying hE.sl]
  .rw [List.take_of_length_le om];exact ⟨hl,U⟩
 .rcases U with ⟨C,h0⟩|⟨g,cap,cur,C,hb,hg,hle,hmx,hcs,hcur⟩
  .omega
  .injection C with e1 e2 e3
   subst e1;subst e3;have O:¬ c=k:=om
   rw [if_neg O];have e4:(some (⟨g,0,none⟩:Addr)).map (·.add (k*1))=some ⟨g,k,none⟩:=by simp [Vo]
   rw [e4];have o:=run_storeCells_at (P:=P) g k e (List.replicate (n-k) z) 0 cur w hg (by simp;omega) (λv C=>by rw [List.eq_of_mem_replicate C];exact hz2);refine ⟨w.setRow g (cur.toList.take (k+0)++List.replicate (n-k) z++cur.toList.drop (k+0+(List.replicate (n-k) z).length)).toArray,?_,?_,Jjp w g _⟩
   .have J:∃ m,n-k=m+1:=⟨n-k-1,om⟩;obtain ⟨m,hm⟩:=J;have u:(Builtin.zeroCells z.cells (n-k)).toList=List.replicate (n-k) z:=by
     rw [hz1];simp only [Builtin.zeroCells];apply List.ext_getElem
     .simp
     .intro j h1 h2;simp [Nat.mod_one]
    rw [hm]at o u ⊢;have G:(zeroValue e).run P w=.ok z w:=by simp [zeroValue,typeInfo,hi,Z]
    simp only [Nat.add_zero,List.length_replicate,List.append_assoc]at o ⊢;simp [Builtin.clear_,run_underlying hE.sl,G,u,o]
   .simp only [Nat.add_zero,List.length_replicate];refine ⟨by rw [List.length_take];omega,.inr ⟨g,c,_,rfl,hb,setRow_heap w g cur _ e _ hg,om,hmx,?_,?_⟩⟩
    .simp;omega
    .simp only [Nat.mul_one]at hcur ⊢;rw [List.append_assoc,List.take_append_of_le_length (by simp;omega),<-hcur];conv=>rhs;rw [List.take_take]
     rw [List.take_take,Nat.min_self,Nat.min_eq_left (Nat.le_of_lt hlt)]
end Go.Proofs.YtebcagekopgdhaaGreatDoor
