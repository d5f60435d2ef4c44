/- Part 9 of the proof: Pdq4, Pdq5, Off. -/
import Derived.Test.YtefpailelagbkaaGreatDoorC08
set_option linter.unusedVariables false
set_option maxRecDepth 100000
set_option maxHeartbeats 40000000
namespace Go.Proofs.YtefpailelagbkaaGreatDoor
open Go.RowKit Pl Go.Wk
attribute [local irreducible] WC WL QX WD WDB WP
theorem Qcf{w:World}{base:Nat}{A:Option Addr}{n c:Nat}{fid:FuncId}{first cap:Array Value}{ps:List Pr}{ds:List Bool}(hD:Dat w base (.slice A n c) ps)(hn:ps.length=n)(hmx:n<=140737488355328)(hC:CF w (Value.slice A n c).ownBlock fid first cap ps ds){a b pv:Nat}{ai bi pvi:Int}(hai:ai=(a:Int))(hbi:bi=(b:Int))(hpvi:pvi=(pv:Int))(hab:a<b)(hb:b<=n)(hp0:a<=pv)(hp1:pv<b):
  Ret Tryz.prog 172 [.slice A n c,.int .i64 ai,.int .i64 bi,.int .i64 pvi,.func (.func fid) first cap] w λv w'=>∃ ps',DP w w' base A n c ps ps'/\∃ m:Nat,v=.int .i64 (m:Int)/\a<m/\m<=b:=by
 subst hai;subst hbi;subst hpvi;refine Jjc Tryz.func172 Tryz.ntmps172 rfl kr rfl ?_;refine ρ ?_;have H:=DP.start hD hn;have la:a<n:=om
 have lp:pv<n:=om
 refine drC 4 [0,1,2,3,4,5,8,9] [(0,6),(0,7),(0,10),(0,11),(0,12),(2,13),(2,14),(2,15)] kr ?_;have O:=H.drew;obtain ⟨s1,s2,s3,⟨u,s4⟩,s5,s6⟩:=O.swap la lp;refine ρp ?_;refine dix (pv) O.rd lp ?_;refine ρd ?_;refine dld (O.cell lp) ?_;refine ρd ?_;refine dix (a) O.rd la ?_;refine ρd ?_;refine dld (O.cell la) ?_;refine ρd ?_;refine dix (a) O.rd la ?_;refine ρd ?_;refine Jqz ?_;refine sto (O.cell la) s1 ?_ (hv:=O.one lp);refine ρ ?_;refine Jxt ?_;refine Jqz ?_;refine ix (pv) s2 lp ?_;refine ρ ?_;refine Jxt ?_;refine Jqz ?_;refine sto s4 s3 ?_ (hv:=O.one la);refine ρ ?_;refine Jzc (fun (i j:Nat) (q:List Pr)=>[(0,.slice A n c),(1,.int .i64 (a:Int)),(2,.int .i64 (b:Int)),(4,.func (.func fid) first cap),(11,.int .i64 (i:Int)),(12,.int .i64 (j:Int))]) (λi j q w'=>DP w w' base A n c ps q/\a<i/\i<=b/\a<=j/\j<b) (λi j _=>b+j-i) (a+1) (b-1) _ sO ⟨s5,om⟩ ?_;clear s1 s2 s3 s4 s5 s6 u O H
 rintro i0 j0 q w1 ⟨H,a6⟩;refine ρ ?_;refine Jqq (fun (i:Nat)=>[(0,.slice A n c),(1,.int .i64 (a:Int)),(2,.int .i64 (b:Int)),(4,.func (.func fid) first cap),(12,.int .i64 (j0:Int)),(11,.int .i64 (i:Int))]) (λi w'=>DP w w' base A n c ps q/\i0<=i/\a<i/\i<=b) (λi=>b-i) i0 sO ⟨H,om⟩ ?_;rintro i wS ⟨HS,a8⟩;refine ρ ?_;refine Jzg (fun (t:Bool)=>[(0,.slice A n c),(1,.int .i64 (a:Int)),(2,.int .i64 (b:Int)),(4,.func (.func fid) first cap),(12,.int .i64 (j0:Int)),(11,.int .i64 (i:Int)),(47,.bool t)]) (λt w'=>DP w w' base A n c ps q/\(t=true->i<=j0)) ?_ ?_
 .skip
  refine dr [(0,0),(0,1),(0,2),(0,3),(0,4),(0,5),(0,6),(0,7),(0,8),(0,9),(0,10),(0,11),(0,12),(1,13),(0,14),(0,15),(0,16)] kr ?_;have o:=HS.drew;refine ρd ?_;refine dki 34 (λh=>?_) (λh=>?_)
  .have hT:i<=j0:=by have:=oT h;omega
   have Z:a<n:=om
   have U:i<n:=om
   refine ρd ?_;refine dix (a) o.rd Z ?_;refine ρd ?_;refine dld (o.cell Z) ?_;refine ρd ?_;refine dix (i) o.rd U ?_;refine ρd ?_;refine dld (o.cell U) ?_;refine ρd ?_;refine Qqv (hC.call o Z U) ?_;rintro r a4 ⟨a5,rfl,G⟩;refine ⟨G,?_⟩;have HT:=o.ext G;refine ρd ?_;refine ρ ?_;exact Jjn _ sB ⟨HT,λ_=>hT⟩
  .refine ρd ?_;refine ρ ?_;exact Jjn false sB ⟨o,λe=>by cases e⟩
 rintro t a3 ⟨a2,J⟩;refine ci (λh=>?_) (λh=>?_)
 .have:=J h;refine ρ ?_;exact Jjv (i+1) sO ⟨a2,om⟩ om
 clear J HS h;refine ρ ?_;refine Jqq (fun (j:Nat)=>[(0,.slice A n c),(1,.int .i64 (a:Int)),(2,.int .i64 (b:Int)),(4,.func (.func fid) first cap),(11,.int .i64 (i:Int)),(12,.int .i64 (j:Int))]) (λj w'=>DP w w' base A n c ps q/\j<=j0/\a<=j/\j<b) (λj=>j) j0 sO ⟨a2,om⟩ ?_;rintro j wS ⟨HS,a7⟩;refine ρ ?_;refine Jzg (fun (t:Bool)=>[(0,.slice A n c),(1,.int .i64 (a:Int)),(2,.int .i64 (b:Int)),(4,.func (.func fid) first cap),(11,.int .i64 (i:Int)),(12,.int .i64 (j:Int)),(65,.bool t)]) (λt w'=>DP w w' base A n c ps q/\(t=true->i<=j)) ?_ ?_
 .skip
  refine dr [(0,0),(0,1),(0,2),(0,3),(0,4),(0,5),(0,6),(0,7),(0,8),(0,9),(0,10),(0,11),(0,12),(1,13),(0,14),(0,15)] kr ?_;have o:=HS.drew;refine ρd ?_;refine dki 53 (λh=>?_) (λh=>?_)
  .have hT:i<=j:=by have:=oT h;omega
   have Z:a<n:=om
   have U:j<n:=om
   refine ρd ?_;refine dix (a) o.rd Z ?_;refine ρd ?_;refine dld (o.cell Z) ?_;refine ρd ?_;refine dix (j) o.rd U ?_;refine ρd ?_;refine dld (o.cell U) ?_;refine ρd ?_;refine Qqv (hC.call o Z U) ?_;rintro r a4 ⟨a5,rfl,G⟩;refine ⟨G,?_⟩;have HT:=o.ext G;refine ρd ?_;refine ρ ?_;exact Jjn _ sB ⟨HT,λ_=>hT⟩
  .refine ρd ?_;refine ρ ?_;exact Jjn false sB ⟨o,λe=>by cases e⟩
 rintro t a3 ⟨a1,J⟩;refine ci (λh=>?_) (λh=>?_)
 .have:=J h;refine ρ ?_;exact Jjv (j-1) sO ⟨a1,om⟩ om
 clear J HS h;refine ρ ?_;refine ci (λh=>?_) (λh=>?_)
 .refine ρ ?_;exact Jjq ⟨q,a1,i,rfl,om,om⟩
 have hT:i<=j:=by have:=oF h;omega
 have li:i<n:=om
 have lj:j<n:=om
 refine ρ ?_;refine drC 4 [0,1,2,3,4,5,8,9] [(0,6),(0,7),(0,10),(0,11),(0,12),(2,13),(2,14),(2,15)] kr ?_;have C:=a1.drew;obtain ⟨s1,s2,s3,⟨u,s4⟩,s5,s6⟩:=C.swap li lj;refine ρp ?_;refine dix (j) C.rd lj ?_;refine ρd ?_;refine dld (C.cell lj) ?_;refine ρd ?_;refine dix (i) C.rd li ?_;refine ρd ?_;refine dld (C.cell li) ?_;refine ρd ?_;refine dix (i) C.rd li ?_;refine ρd ?_;refine Jqz ?_;refine sto (C.cell li) s1 ?_ (hv:=C.one lj);refine ρ ?_;refine Jxt ?_;refine Jqz ?_;refine ix (j) s2 lj ?_;refine ρ ?_;refine Jxt ?_;refine Jqz ?_;refine sto s4 s3 ?_ (hv:=C.one li);refine ρ ?_;exact Jqf (i+1) (j-1) _ sO ⟨s5,om⟩ om
theorem Qps{w:World}{base:Nat}{A:Option Addr}{n c:Nat}{fid:FuncId}{first cap:Array Value}{ps:List Pr}{ds:List Bool}(hD:Dat w base (.slice A n c) ps)(hn:ps.length=n)(hmx:n<=140737488355328)(hC:CF w (Value.slice A n c).ownBlock fid first cap ps ds){a b pv:Nat}{ai bi pvi:Int}(hai:ai=(a:Int))(hbi:bi=(b:Int))(hpvi:pvi=(pv:Int))(hab:a<b)(hb:b<=n)(hp0:a<=pv)(hp1:pv<b):
  Ret Tryz.prog 173 [.slice A n c,.int .i64 ai,.int .i64 bi,.int .i64 pvi,.func (.func fid) first cap] w λv w'=>∃ ps',DP w w' base A n c ps ps'/\∃ (m:Nat) (t:Bool),v=.tuple #[.int .i64 (m:Int),.bool t]/\a<=m/\m<b:=by
 subst hai;subst hbi;subst hpvi;refine Jjc Tryz.func173 Tryz.ntmps173 rfl kr rfl ?_;refine ρ ?_;have H:=DP.start hD hn;have la:a<n:=om
 have lp:pv<n:=om
 refine drC 4 [0,1,2,3,4,5,8,9] [(0,6),(0,7),(0,10),(0,11),(0,12),(2,13),(2,14),(2,15)] kr ?_;have Hd:=H.drew;obtain ⟨s1,s2,s3,⟨u,s4⟩,s5,s6⟩:=Hd.swap la lp;refine ρp ?_;refine dix (pv) Hd.rd lp ?_;refine ρd ?_;refine dld (Hd.cell lp) ?_;refine ρd ?_;refine dix (a) Hd.rd la ?_;refine ρd ?_;refine dld (Hd.cell la) ?_;refine ρd ?_;refine dix (a) Hd.rd la ?_;refine ρd ?_;refine Jqz ?_;refine sto (Hd.cell la) s1 ?_ (hv:=Hd.one lp);refine ρ ?_;refine Jxt ?_;refine Jqz ?_;refine ix (pv) s2 lp ?_;refine ρ ?_;refine Jxt ?_;refine Jqz ?_;refine sto s4 s3 ?_ (hv:=Hd.one la);refine ρ ?_;generalize hq:swp z0 ps a pv=q at s5
 have H5:=s5;clear s1 s2 s3 s4 s5 s6 u Hd H hq;obtain ⟨i0,a8⟩:∃ i0:Nat,i0=a+1:=⟨_,rfl⟩;obtain ⟨j0,a7⟩:∃ j0:Nat,j0=b-1:=⟨_,rfl⟩;refine Jqq (fun (i:Nat)=>[(0,.slice A n c),(1,.int .i64 (a:Int)),(2,.int .i64 (b:Int)),(4,.func (.func fid) first cap),(13,.int .i64 (j0:Int)),(12,.int .i64 (i:Int))]) (λi w'=>DP w w' base A n c ps q/\i0<=i/\a<i/\i<=b) (λi=>b-i) i0 sO ⟨H5,om⟩ ?_;rintro i wS ⟨HS,a6⟩;refine ρ ?_;refine Jzg (fun (t:Bool)=>[(0,.slice A n c),(1,.int .i64 (a:Int)),(2,.int .i64 (b:Int)),(4,.func (.func fid) first cap),(13,.int .i64 (j0:Int)),(12,.int .i64 (i:Int)),(47,.bool t)]) (λt w'=>DP w w' base A n c ps q/\(t=true->i<=j0)) ?_ ?_
 .skip
  refine dr [(0,0),(0,1),(0,2),(0,3),(0,4),(0,5),(0,6),(0,7),(0,8),(0,9),(0,10),(0,11),(0,12),(1,13),(0,14),(0,15)] kr ?_;have C:=HS.drew;refine ρd ?_;refine dki 35 (λh=>?_) (λh=>?_)
  .have hT:i<=j0:=by have:=oT h;omega
   have lx:i<n:=om
   have ly:a<n:=om
   refine ρd ?_;refine dix (i) C.rd lx ?_;refine ρd ?_;refine dld (C.cell lx) ?_;refine ρd ?_;refine dix (a) C.rd ly ?_;refine ρd ?_;refine dld (C.cell ly) ?_;refine ρd ?_;refine Qqv (hC.call C lx ly) ?_;rintro r a3 ⟨a4,rfl,G⟩;refine ⟨G,?_⟩;have HT:=C.ext G;refine ρd ?_;refine ρ ?_;exact Jjn _ sB ⟨HT,λ_=>hT⟩
  .refine ρd ?_;refine ρ ?_;exact Jjn false sB ⟨C,λe=>by cases e⟩
 rintro t a2 ⟨a1,U⟩;refine ci (λh=>?_) (λh=>?_)
 .have:=U h;refine ρ ?_;exact Jjv (i+1) sO ⟨a1,om⟩ om
 clear U HS h;refine ρ ?_;refine Jqq (fun (j:Nat)=>[(0,.slice A n c),(1,.int .i64 (a:Int)),(2,.int .i64 (b:Int)),(4,.func (.func fid) first cap),(12,.int .i64 (i:Int)),(13,.int .i64 (j:Int))]) (λj w'=>DP w w' base A n c ps q/\j<=j0/\a<=j/\j<b) (λj=>j) j0 sO ⟨a1,om⟩ ?_;rintro j wS ⟨HS,a5⟩;refine ρ ?_;refine Jzg (fun (t:Bool)=>[(0,.slice A n c),(1,.int .i64 (a:Int)),(2,.int .i64 (b:Int)),(4,.func (.func fid) first cap),(12,.int .i64 (i:Int)),(13,.int .i64 (j:Int)),(66,.bool t)]) (λt w'=>DP w w' base A n c ps q/\(t=true->i<=j)) ?_ ?_
 .skip
  refine dr [(0,0),(0,1),(0,2),(0,3),(0,4),(0,5),(0,6),(0,7),(0,8),(0,9),(0,10),(0,11),(0,12),(1,13),(0,14),(0,15),(0,16)] kr ?_;have C:=HS.drew;refine ρd ?_;refine dki 53 (λh=>?_) (λh=>?_)
  .have hT:i<=j:=by have:=oT h;omega
   have lx:j<n:=om
   have ly:a<n:=om
   refine ρd ?_;refine dix (j) C.rd lx ?_;refine ρd ?_;refine dld (C.cell lx) ?_;refine ρd ?_;refine dix (a) C.rd ly ?_;refine ρd ?_;refine dld (C.cell ly) ?_;refine ρd ?_;refine Qqv (hC.call C lx ly) ?_;rintro r a3 ⟨a4,rfl,G⟩;refine ⟨G,?_⟩;have HT:=C.ext G;refine ρd ?_;refine ρ ?_;exact Jjn _ sB ⟨HT,λ_=>hT⟩
  .refine ρd ?_;refine ρ ?_;exact Jjn false sB ⟨C,λe=>by cases e⟩
 rintro t a2 ⟨Z,U⟩;refine ci (λh=>?_) (λh=>?_)
 .have:=U h;refine ρ ?_;exact Jjv (j-1) sO ⟨Z,om⟩ om
 clear U HS h;refine ρ ?_;have J:a<n:=om
 have O:j<n:=om
 refine ci (λh=>?_) (λh=>?_)
 .refine ρ ?_;refine drC 4 [0,1,2,3,4,5,8,9] [(0,6),(0,7),(0,10),(0,11),(0,12),(2,13),(2,14),(2,15)] kr ?_;have o:=Z.drew;obtain ⟨s1,s2,s3,⟨u,s4⟩,s5,s6⟩:=o.swap O J;refine ρp ?_;refine dix (a) o.rd J ?_;refine ρd ?_;refine dld (o.cell J) ?_;refine ρd ?_;refine dix (j) o.rd O ?_;refine ρd ?_;refine dld (o.cell O) ?_;refine ρd ?_;refine dix (j) o.rd O ?_;refine ρd ?_;refine Jqz ?_;refine sto (o.cell O) s1 ?_ (hv:=o.one J);refine ρ ?_;refine Jxt ?_;refine Jqz ?_;refine ix (a) s2 J ?_;refine ρ ?_;refine Jxt ?_;refine Jqz ?_;refine sto s4 s3 ?_ (hv:=o.one O);refine ρ ?_;exact Qyg ⟨_,s5,j,true,rfl,om,om⟩
 have hT:i<=j:=by have:=oF h;omega
 have li:i<n:=om
 refine ρ ?_;refine drC 4 [0,1,2,3,4,5,8,9] [(0,6),(0,7),(0,10),(0,11),(0,12),(2,13),(2,14),(2,15)] kr ?_;have o:=Z.drew;obtain ⟨s1,s2,s3,⟨u,s4⟩,s5,s6⟩:=o.swap li O;refine ρp ?_;refine dix (j) o.rd O ?_;refine ρd ?_;refine dld (o.cell O) ?_;refine ρd ?_;refine dix (i) o.rd li ?_;refine ρd ?_;refine dld (o.cell li) ?_;refine ρd ?_;refine dix (i) o.rd li ?_;refine ρd ?_;refine Jqz ?_;refine sto (o.cell li) s1 ?_ (hv:=o.one O);refine ρ ?_;refine Jxt ?_;refine Jqz ?_;refine ix (j) s2 O ?_;refine ρ ?_;refine Jxt ?_;refine Jqz ?_;refine sto s4 s3 ?_ (hv:=o.one li);refine ρ ?_;refine Jzc (fun (i j:Nat) (q:List Pr)=>[(0,.slice A n c),(1,.int .i64 (a:Int)),(2,.int .i64 (b:Int)),(4,.func (.func fid) first cap),(12,.int .i64 (i:Int)),(13,.int .i64 (j:Int))]) (λi j q w'=>DP w w' base A n c ps q/\a<i/\i<=b/\a<=j/\j<b) (λi j _=>b+j-i) (i+1) (j-1) _ sO ⟨s5,om⟩ ?_;clear s1 s2 s3 s4 s5 s6 u o Z a1 a6 a5 a8 a7 J O li hT
 clear h q i0 j0 i j H5;rintro i0 j0 q w1 ⟨H,a9⟩;refine ρ ?_;refine Jqq (fun (i:Nat)=>[(0,.slice A n c),(1,.int .i64 (a:Int)),(2,.int .i64 (b:Int)),(4,.func (.func fid) first cap),(13,.int .i64 (j0:Int)),(12,.int .i64 (i:Int))]) (λi w'=>DP w w' base A n c ps q/\i0<=i/\a<i/\i<=b) (λi=>b-i) i0 sO ⟨H,om⟩ ?_;rintro i wS ⟨HS,a6⟩;refine ρ ?_;refine Jzg (fun (t:Bool)=>[(0,.slice A n c),(1,.int .i64 (a:Int)),(2,.int .i64 (b:Int)),(4,.func (.func fid) first cap),(13,.int .i64 (j0:Int)),(12,.int .i64 (i:Int)),(120,.bool t)]) (λt w'=>DP w w' base A n c ps q/\(t=true->i<=j0)) ?_ ?_
 .skip
  refine dr [(0,0),(0,1),(0,2),(0,3),(0,4),(0,5),(0,6),(0,7),(0,8),(0,9),(0,10),(0,11),(0,12),(1,13),(0,14),(0,15)] kr ?_;have C:=HS.drew;refine ρd ?_;refine dki 108 (λh=>?_) (λh=>?_)
  .have hT:i<=j0:=by have:=oT h;omega
   have lx:i<n:=om
   have ly:a<n:=om
   refine ρd ?_;refine dix (i) C.rd lx ?_;refine ρd ?_;refine dld (C.cell lx) ?_;refine ρd ?_;refine dix (a) C.rd ly ?_;refine ρd ?_;refine dld (C.cell ly) ?_;refine ρd ?_;refine Qqv (hC.call C lx ly) ?_;rintro r a3 ⟨a4,rfl,G⟩;refine ⟨G,?_⟩;have HT:=C.ext G;refine ρd ?_;refine ρ ?_;exact Jjn _ sB ⟨HT,λ_=>hT⟩
  .refine ρd ?_;refine ρ ?_;exact Jjn false sB ⟨C,λe=>by cases e⟩
 rintro t a2 ⟨a1,U⟩;refine ci (λh=>?_) (λh=>?_)
 .have:=U h;refine ρ ?_;exact Jjv (i+1) sO ⟨a1,om⟩ om
 clear U HS h;refine ρ ?_;refine Jqq (fun (j:Nat)=>[(0,.slice A n c),(1,.int .i64 (a:Int)),(2,.int .i64 (b:Int)),(4,.func (.func fid) first cap),(12,.int .i64 (i:Int)),(13,.int .i64 (j:Int))]) (λj w'=>DP w w' base A n c ps q/\j<=j0/\a<=j/\j<b) (λj=>j) j0 sO ⟨a1,om⟩ ?_;rintro j wS ⟨HS,a5⟩;refine ρ ?_;refine Jzg (fun (t:Bool)=>[(0,.slice A n c),(1,.int .i64 (a:Int)),(2,.int .i64 (b:Int)),(4,.func (.func fid) first cap),(12,.int .i64 (i:Int)),(13,.int .i64 (j:Int)),(139,.bool t)]) (λt w'=>DP w w' base A n c ps q/\(t=true->i<=j)) ?_ ?_
 .skip
  refine dr [(0,0),(0,1),(0,2),(0,3),(0,4),(0,5),(0,6),(0,7),(0,8),(0,9),(0,10),(0,11),(0,12),(1,13),(0,14),(0,15),(0,16)] kr ?_;have C:=HS.drew;refine ρd ?_;refine dki 126 (λh=>?_) (λh=>?_)
  .have hT:i<=j:=by have:=oT h;omega
   have lx:j<n:=om
   have ly:a<n:=om
   refine ρd ?_;refine dix (j) C.rd lx ?_;refine ρd ?_;refine dld (C.cell lx) ?_;refine ρd ?_;refine dix (a) C.rd ly ?_;refine ρd ?_;refine dld (C.cell ly) ?_;refine ρd ?_;refine Qqv (hC.call C lx ly) ?_;rintro r a3 ⟨a4,rfl,G⟩;refine ⟨G,?_⟩;have HT:=C.ext G;refine ρd ?_;refine ρ ?_;exact Jjn _ sB ⟨HT,λ_=>hT⟩
  .refine ρd ?_;refine ρ ?_;exact Jjn false sB ⟨C,λe=>by cases e⟩
 rintro t a2 ⟨Z,U⟩;refine ci (λh=>?_) (λh=>?_)
 .have:=U h;refine ρ ?_;exact Jjv (j-1) sO ⟨Z,om⟩ om
 clear U HS h;refine ρ ?_;have J:a<n:=om
 have O:j<n:=om
 refine ci (λh=>?_) (λh=>?_)
 .refine ρ ?_;refine drC 4 [0,1,2,3,4,5,8,9] [(0,6),(0,7),(0,10),(0,11),(0,12),(2,13),(2,14),(2,15)] kr ?_;have o:=Z.drew;obtain ⟨s1,s2,s3,⟨u,s4⟩,s5,s6⟩:=o.swap O J;refine ρp ?_;refine dix (a) o.rd J ?_;refine ρd ?_;refine dld (o.cell J) ?_;refine ρd ?_;refine dix (j) o.rd O ?_;refine ρd ?_;refine dld (o.cell O) ?_;refine ρd ?_;refine dix (j) o.rd O ?_;refine ρd ?_;refine Jqz ?_;refine sto (o.cell O) s1 ?_ (hv:=o.one J);refine ρ ?_;refine Jxt ?_;refine Jqz ?_;refine ix (a) s2 J ?_;refine ρ ?_;refine Jxt ?_;refine Jqz ?_;refine sto s4 s3 ?_ (hv:=o.one O);refine ρ ?_;exact Qyg ⟨_,s5,j,false,rfl,om,om⟩
 have hT:i<=j:=by have:=oF h;omega
 have li:i<n:=om
 refine ρ ?_;refine drC 4 [0,1,2,3,4,5,8,9] [(0,6),(0,7),(0,10),(0,11),(0,12),(2,13),(2,14),(2,15)] kr ?_;have o:=Z.drew;obtain ⟨s1,s2,s3,⟨u,s4⟩,s5,s6⟩:=o.swap li O;refine ρp ?_;refine dix (j) o.rd O ?_;refine ρd ?_;refine dld (o.cell O) ?_;refine ρd ?_;refine dix (i) o.rd li ?_;refine ρd ?_;refine dld (o.cell li) ?_;refine ρd ?_;refine dix (i) o.rd li ?_;refine ρd ?_;refine Jqz ?_;refine sto (o.cell li) s1 ?_ (hv:=o.one O);refine ρ ?_;refine Jxt ?_;refine Jqz ?_;refine ix (j) s2 O ?_;refine ρ ?_;refine Jxt ?_;refine Jqz ?_;refine sto s4 s3 ?_ (hv:=o.one li);refine ρ ?_;exact Jqf (i+1) (j-1) _ sO ⟨s5,om⟩ om
theorem Qzp{w:World}{base:Nat}{A:Option Addr}{n c:Nat}{fid:FuncId}{first cap:Array Value}{ps:List Pr}{ds:List Bool}(hD:Dat w base (.slice A n c) ps)(hn:ps.length=n)(hmx:n<=140737488355328)(hC:CF w (Value.slice A n c).ownBlock fid first cap ps ds){a b:Nat}{ai bi:Int}(hai:ai=(a:Int))(hbi:bi=(b:Int))(hab:a+1<b)(hb:b<=n):
  Ret Tryz.prog 171 [.slice A n c,.int .i64 ai,.int .i64 bi,.func (.func fid) first cap] w λv w'=>∃ ps',DP w w' base A n c ps ps'/\∃ t:Bool,v=.bool t:=by
 subst hai;subst hbi;refine Jjc Tryz.func171 Tryz.ntmps171 rfl kr rfl ?_;refine ρ ?_;refine Jzc (fun (k i:Nat) (q:List Pr)=>[(0,.slice A n c),(1,.int .i64 (a:Int)),(2,.int .i64 (b:Int)),(3,.func (.func fid) first cap),(9,.int .i64 (i:Int)),(10,.int .i64 (k:Int))]) (λk i q w'=>DP w w' base A n c ps q/\a<i/\i<=b/\k<=5) (λk _ _=>5-k) 0 (a+1) ps sO ⟨DP.start hD hn,om⟩ ?_;rintro k i0 q w1 ⟨H,a5⟩;refine ρ ?_;refine ci (λh=>?_) (λh=>?_);rotate_left
 .refine ρ ?_;exact Jjq ⟨q,H,false,rfl⟩
 have hk:k<5:=by have:=oT h;omega
 clear h;refine ρ ?_;refine Jqq (fun (i:Nat)=>[(0,.slice A n c),(1,.int .i64 (a:Int)),(2,.int .i64 (b:Int)),(3,.func (.func fid) first cap),(10,.int .i64 (k:Int)),(9,.int .i64 (i:Int))]) (λi w'=>DP w w' base A n c ps q/\i0<=i/\a<i/\i<=b) (λi=>b-i) i0 sO ⟨H,om⟩ ?_;rintro i wS ⟨HS,a7⟩;refine ρ ?_;refine Jzg (fun (t:Bool)=>[(0,.slice A n c),(1,.int .i64 (a:Int)),(2,.int .i64 (b:Int)),(3,.func (.func fid) first cap),(10,.int .i64 (k:Int)),(9,.int .i64 (i:Int)),(36,.bool t)]) (λt w'=>DP w w' base A n c ps q/\(t=true->i<b)) ?_ ?_
 .skip
  refine dr [(0,0),(0,1),(0,2),(0,3),(0,4),(0,5),(0,6),(0,7),(0,8),(0,9),(0,10),(0,11),(0,12),(0,13),(1,14),(0,15),(0,16),(0,17)] kr ?_;have J:=HS.drew;refine ρd ?_;refine dki 22 (λh=>?_) (λh=>?_)
  .have hT:i<b:=by have:=oT h;omega
   have Z:i<n:=om
   have ly:i-1<n:=om
   refine ρd ?_;refine dix (i) J.rd Z ?_;refine ρd ?_;refine dld (J.cell Z) ?_;refine ρd ?_;refine dix (i-1) J.rd ly ?_;refine ρd ?_;refine dld (J.cell ly) ?_;refine ρd ?_;refine Qqv (hC.call J Z ly) ?_;rintro r a1 ⟨a3,rfl,C⟩;refine ⟨C,?_⟩;have HT:=J.ext C;refine ρd ?_;refine ρ ?_;exact Jjn _ sB ⟨HT,λ_=>hT⟩
  .refine ρd ?_;refine ρ ?_;exact Jjn false sB ⟨J,λe=>by cases e⟩
 rintro t a4 ⟨U,a2⟩;refine ci (λh=>?_) (λh=>?_)
 .have:=a2 h;refine ρ ?_;exact Jjv (i+1) sO ⟨U,om⟩ om
 clear a2 HS h;refine ρ ?_;refine ci (λh=>?_) (λh=>?_)
 .refine ρ ?_;exact Jjq ⟨q,U,true,rfl⟩
 have a6:i<b:=by have:=Jqk h;omega
 clear h;refine ρ ?_;refine ci (λh=>?_) (λh=>?_)
 .refine ρ ?_;exact Jjq ⟨q,U,false,rfl⟩
 clear h;have Z:i<n:=om
 have ly:i-1<n:=om
 refine ρ ?_;refine drC 4 [0,1,2,3,4,5,6,7,10,11] [(0,8),(0,9),(0,12),(0,13),(0,14),(2,15),(2,16),(2,17)] kr ?_;have o:=U.drew;obtain ⟨s1,s2,s3,⟨u,s4⟩,s5,s6⟩:=o.swap Z ly;refine ρp ?_;refine dix (i-1) o.rd ly ?_;refine ρd ?_;refine dld (o.cell ly) ?_;refine ρd ?_;refine dix (i) o.rd Z ?_;refine ρd ?_;refine dld (o.cell Z) ?_;refine ρd ?_;refine dix (i) o.rd Z ?_;refine ρd ?_;refine Jqz ?_;refine sto (o.cell Z) s1 ?_ (hv:=o.one ly);refine ρ ?_;refine Jxt ?_;refine Jqz ?_;refine ix (i-1) s2 ly ?_;refine ρ ?_;refine Jxt ?_;refine Jqz ?_;refine sto s4 s3 ?_ (hv:=o.one Z);refine ρ ?_;have H5:=s5;clear s1 s2 s3 s4 s5 s6 u o U H;generalize swp z0 q i (i-1)=q5 at H5
 refine Jzg (fun (q:List Pr)=>[(0,.slice A n c),(1,.int .i64 (a:Int)),(2,.int .i64 (b:Int)),(3,.func (.func fid) first cap),(9,.int .i64 (i:Int)),(10,.int .i64 (k:Int))]) (λq w'=>DP w w' base A n c ps q) ?_ ?_
 .refine ci (λh=>?_) (λh=>?_);rotate_left
  .refine ρ ?_;exact Jjn _ sB H5
  refine ρ ?_;refine Jjt (fun (m:Nat) (q:List Pr)=>[(0,.slice A n c),(1,.int .i64 (a:Int)),(2,.int .i64 (b:Int)),(3,.func (.func fid) first cap),(9,.int .i64 (i:Int)),(10,.int .i64 (k:Int)),(11,.int .i64 (m:Int))]) (λm q w'=>DP w w' base A n c ps q/\m<n) (λm _=>m) (i-1) q5 sO ⟨H5,om⟩ ?_;rintro m q w2 ⟨H,hm⟩;refine ρ ?_;refine ci (λh=>?_) (λh=>?_);rotate_left
  .refine ρ ?_;exact Jjn _ sB H
  have h1:1<=m:=by have:=oT h;omega
  have G:m-1<n:=om
  refine ρ ?_;refine dr [(0,0),(0,1),(0,2),(0,3),(0,4),(0,5),(0,6),(0,7),(0,8),(0,9),(1,10),(0,11),(0,12)] kr ?_;have O:=H.drew;refine ρd ?_;refine ρd ?_;refine dix (m) O.rd hm ?_;refine ρd ?_;refine dld (O.cell hm) ?_;refine ρd ?_;refine dix (m-1) O.rd G ?_;refine ρd ?_;refine dld (O.cell G) ?_;refine ρd ?_;refine Qqv (hC.call O hm G) ?_;rintro r a1 ⟨a3,rfl,C⟩;refine ⟨C,?_⟩;have HT:=O.ext C;refine ρd ?_;refine ρ ?_;refine ci (λh=>?_) (λh=>?_)
  .refine ρ ?_;exact Jjn _ sB HT
  refine ρ ?_;refine drC 4 [0,1,2,3,4,5,6,7,10,11] [(0,8),(0,9),(0,12),(0,13),(0,14),(2,15),(2,16),(2,17)] kr ?_;have j:=HT.drew;obtain ⟨s1,s2,s3,⟨u,s4⟩,s5,s6⟩:=j.swap hm G;refine ρp ?_;refine dix (m-1) j.rd G ?_;refine ρd ?_;refine dld (j.cell G) ?_;refine ρd ?_;refine dix (m) j.rd hm ?_;refine ρd ?_;refine dld (j.cell hm) ?_;refine ρd ?_;refine dix (m) j.rd hm ?_;refine ρd ?_;refine Jqz ?_;refine sto (j.cell hm) s1 ?_ (hv:=j.one G);refine ρ ?_;refine Jxt ?_;refine Jqz ?_;refine ix (m-1) s2 G ?_;refine ρ ?_;refine Jxt ?_;refine Jqz ?_;refine sto s4 s3 ?_ (hv:=j.one hm);refine ρ ?_;exact Jjj (m-1) _ sO ⟨s5,om⟩ om
 clear H5 q5;rintro q5 w5 H5;refine ρ ?_;refine ci (λh=>?_) (λh=>?_);rotate_left
 .refine ρ ?_;exact Jqf (k+1) i q5 sO ⟨H5,om⟩ om
 refine ρ ?_;refine Jjt (fun (m:Nat) (q:List Pr)=>[(0,.slice A n c),(1,.int .i64 (a:Int)),(2,.int .i64 (b:Int)),(3,.func (.func fid) first cap),(9,.int .i64 (i:Int)),(10,.int .i64 (k:Int)),(12,.int .i64 (m:Int))]) (λm q w'=>DP w w' base A n c ps q/\0<m/\m<=b) (λm _=>b-m) (i+1) q5 sO ⟨H5,om⟩ ?_;rintro m q w2 ⟨H,hm⟩;refine ρ ?_;refine ci (λh=>?_) (λh=>?_);rotate_left
 .refine ρ ?_;exact Jqf (k+1) i q sO ⟨H,om⟩ om
 have h1:m<n:=by have:=oT h;omega
 have h2:m<b:=by have:=oT h;omega
 have G:m-1<n:=om
 refine ρ ?_;refine dr [(0,0),(0,1),(0,2),(0,3),(0,4),(0,5),(0,6),(0,7),(0,8),(0,9),(1,10),(0,11),(0,12)] kr ?_;have O:=H.drew;refine ρd ?_;refine ρd ?_;refine dix (m) O.rd h1 ?_;refine ρd ?_;refine dld (O.cell h1) ?_;refine ρd ?_;refine dix (m-1) O.rd G ?_;refine ρd ?_;refine dld (O.cell G) ?_;refine ρd ?_;refine Qqv (hC.call O h1 G) ?_;rintro r a1 ⟨a3,rfl,C⟩;refine ⟨C,?_⟩;have HT:=O.ext C;refine ρd ?_;refine ρ ?_;refine ci (λh=>?_) (λh=>?_)
 .refine ρ ?_;exact Jqf (k+1) i q sO ⟨HT,om⟩ om
 refine ρ ?_;refine drC 4 [0,1,2,3,4,5,6,7,10,11] [(0,8),(0,9),(0,12),(0,13),(0,14),(2,15),(2,16),(2,17)] kr ?_;have j:=HT.drew;obtain ⟨s1,s2,s3,⟨u,s4⟩,s5,s6⟩:=j.swap h1 G;refine ρp ?_;refine dix (m-1) j.rd G ?_;refine ρd ?_;refine dld (j.cell G) ?_;refine ρd ?_;refine dix (m) j.rd h1 ?_;refine ρd ?_;refine dld (j.cell h1) ?_;refine ρd ?_;refine dix (m) j.rd h1 ?_;refine ρd ?_;refine Jqz ?_;refine sto (j.cell h1) s1 ?_ (hv:=j.one G);refine ρ ?_;refine Jxt ?_;refine Jqz ?_;refine ix (m-1) s2 G ?_;refine ρ ?_;refine Jxt ?_;refine Jqz ?_;refine sto s4 s3 ?_ (hv:=j.one h1);refine ρ ?_;exact Jjj (m+1) _ sO ⟨s5,om⟩ om
open Go.RowKit Pl Go.Wk
theorem DP.same{w0 w w':World}{base:Nat}{A:Option Addr}{n c:Nat}{ps q:List Pr}(h:DP w0 w base A n c ps q)(k:DP w w' base A n c q q): DP w0 w' base A n c ps q:=h.after k
theorem DP.ins{w0 w w':World}{base:Nat}{A:Option Addr}{n c a b:Nat}{ps q q':List Pr}(h:DP w0 w base A n c ps q)(k1:Dat w' base (.slice A n c) q')(k2:Seg z0 a b q q')(k3:w.grownBy w' (Value.slice A n c).ownBlock): DP w0 w' base A n c ps q' :=
 ⟨k1,k2.perm.trans h.p,Jjw h.g k3,by rw [k2.len];exact h.l⟩
theorem Xxf: ∀ (m:Nat) {w:World} {base:Nat} {A:Option Addr} {n c:Nat} {fid:FuncId} {first cap:Array Value} {ps:List Pr} {ds:List Bool} (hD:Dat w base (.slice A n c) ps) (hn:ps.length=n) (hmx:n<=140737488355328) (hC:CF w (Value.slice A n c).ownBlock fid first cap ps ds) {a b:Nat} {ai bi lim:Int} (hai:ai=(a:Int)) (hbi:bi=(b:Int)) (hab:a<=b) (hb:b<=n) (hl:0<=lim/\lim<=64) (hm:b-a<=m),
  Ret Tryz.prog 150 [.slice A n c,.int .i64 ai,.int .i64 bi,.int .i64 lim,.func (.func fid) first cap] w λv w'=>∃ ps',DP w w' base A n c ps ps':=by
 intro m;induction m using Nat.strongRecOn with
 | ind m ih=>
 intro w base A n c fid first cap ps ds hD hn hmx hC a b ai bi lim hai hbi hab hb hl hm
 subst hai;subst hbi;refine Jjc Tryz.func150 Tryz.ntmps150 rfl kr rfl ?_;refine ρ ?_;refine Jpb (fun (ab:Nat×Nat) (lt:Int×Bool) (wp:Bool) (q:List Pr)=>[(0,.slice A n c),(1,.int .i64 (ab.1:Int)),(2,.int .i64 (ab.2:Int)),(3,.int .i64 lt.1),(4,.func (.func fid) first cap),(10,.bool lt.2),(11,.bool wp)])
  (λab lt wp q w'=>DP w w' base A n c ps q/\ab.1<=ab.2/\ab.2<=n/\ab.2-ab.1<=m/\0<=lt.1/\lt.1<=64) (λab _ _ _=>ab.2-ab.1) (a,b) (lim,true) true ps sB ⟨DP.start hD hn,om,om,om,om,om⟩ ?_
 clear hD hab hb hm;rintro ⟨a,b⟩ ⟨lim,wb⟩ C q w1 ⟨H,hab,hb,hm,Z,U⟩;simp only at hab hb hm Z U;refine ρ ?_;refine ci (λh=>?_) (λh=>?_)
 .refine ρ ?_;refine cl (Jdj (ai:=(a:Int)) (bi:=(b:Int)) H.d H.l rfl rfl hb om hmx (hC.step H).pack) ?_;rintro v w2 ⟨G,k1,k2,k3,k4⟩;refine ρ ?_;exact Xkg ⟨G,H.ins k1 k2 k4⟩
 have a2:a+12<b:=by have:=oF h;omega
 clear h;refine ρ ?_;refine ci (λh=>?_) (λh=>?_)
 .refine ρ ?_;refine cl (Qqp (a:=a) (b:=b) H.d H.l hmx (hC.step H) rfl rfl om hb) ?_;rintro v w2 ⟨G,o⟩;refine ρ ?_;exact Xkg ⟨G,H.after o⟩
 have a6:lim≠0:=Jqk h;clear h;refine ρ ?_;refine Jhn (fun (lim:Int) (q:List Pr)=>[(0,.slice A n c),(1,.int .i64 (a:Int)),(2,.int .i64 (b:Int)),(3,.int .i64 lim),(4,.func (.func fid) first cap),(10,.bool wb),(11,.bool C),(12,.int .i64 ((b:Int)-(a:Int)))]) (λlim q w'=>DP w w' base A n c ps q/\0<=lim/\lim<=64) ?_ ?_
 .refine ci (λh=>?_) (λh=>?_)
  .refine ρ ?_;refine cl (Qmt (a:=a) (b:=b) H.d H.l hmx (hC.step H) rfl rfl a2 hb) ?_;rintro v w2 ⟨G,o⟩;refine ρ ?_;exact Jzz (lim-1) G sB ⟨H.after o,om,om⟩
  .refine ρ ?_;exact Jzz lim q sB ⟨H,om,om⟩
 clear H Z U a6 lim q;rintro lim q w2 ⟨H,Z,U⟩;refine ρ ?_;refine cl (Qdq (a:=a) (b:=b) H.d H.l hmx (hC.step H) rfl rfl a2 hb) ?_;rintro v w3 ⟨pv,i,rfl,O,J,o⟩;have u:=H.same o;clear H o;refine ρ ?_;refine Qsw (fun (pv:Nat) (i:Int) (q:List Pr)=>[(0,.slice A n c),(1,.int .i64 (a:Int)),(2,.int .i64 (b:Int)),(3,.int .i64 lim),(4,.func (.func fid) first cap),(10,.bool wb),(11,.bool C),(12,.int .i64 ((b:Int)-(a:Int))),(13,.int .i64 (pv:Int)),(14,.int .i64 i)]) (λpv i q w'=>DP w w' base A n c ps q/\a<=pv/\pv<b) ?_ ?_
 .refine ci (λh=>?_) (λh=>?_)
  .refine ρ ?_;refine cl (Qzl (a:=a) (b:=b) u.d u.l hmx (hC.step u) rfl rfl om hb) ?_;rintro v w2 ⟨G,o⟩;refine ρ ?_;exact Qvc (b-1-(pv-a)) 1 G sO ⟨u.after o,om,om⟩
  .refine ρ ?_;exact Qvc pv i q sB ⟨u,O,J⟩
 clear u O J pv i q;rintro pv i q w3 ⟨H,O,J⟩;refine ρ ?_;refine Jzn (fun (t:Bool)=>[(0,.slice A n c),(1,.int .i64 (a:Int)),(2,.int .i64 (b:Int)),(3,.int .i64 lim),(4,.func (.func fid) first cap),(10,.bool wb),(11,.bool C),(12,.int .i64 ((b:Int)-(a:Int))),(13,.int .i64 (pv:Int)),(75,.bool t)]) (λt w'=>DP w w' base A n c ps q) ?_ ?_
 .refine ki 69 (λh=>?_) (λh=>?_)
  .refine ρ ?_;refine ki 72 (λh=>?_) (λh=>?_)
   .refine ρ ?_;exact Jjn _ sB H
   .refine ρ ?_;exact Jjn _ sB H
  .refine ρ ?_;exact Jjn _ sB H
 clear H;rintro t w4 H;refine Jzg (fun (q:List Pr)=>[(0,.slice A n c),(1,.int .i64 (a:Int)),(2,.int .i64 (b:Int)),(3,.int .i64 lim),(4,.func (.func fid) first cap),(10,.bool wb),(11,.bool C),(12,.int .i64 ((b:Int)-(a:Int))),(13,.int .i64 (pv:Int))]) (λq w'=>DP w w' base A n c ps q) ?_ ?_
 .refine ci (λh=>?_) (λh=>?_)
  .refine ρ ?_;refine cl (Qzp (a:=a) (b:=b) H.d H.l hmx (hC.step H) rfl rfl om hb) ?_;rintro v w2 ⟨G,o,t2,rfl⟩;refine ρ ?_;refine ci (λh=>?_) (λh=>?_)
   .refine ρ ?_;exact Xkg ⟨G,H.after o⟩
   .refine ρ ?_;exact Jjn _ sB (H.after o)
  .refine ρ ?_;exact Jjn _ sB H
 clear H q;rintro q w5 H;refine ρ ?_;refine Jzg (fun (t:Bool)=>[(0,.slice A n c),(1,.int .i64 (a:Int)),(2,.int .i64 (b:Int)),(3,.int .i64 lim),(4,.func (.func fid) first cap),(10,.bool wb),(11,.bool C),(12,.int .i64 ((b:Int)-(a:Int))),(13,.int .i64 (pv:Int)),(97,.bool t)]) (λt w'=>DP w w' base A n c ps q) ?_ ?_
 .skip
  refine dr [(0,0),(0,1),(0,2),(0,3),(0,4),(0,5),(0,6),(0,7),(0,8),(0,9),(0,10),(0,11),(0,12),(1,13),(0,14),(0,15),(0,16)] kr ?_;have Hd:=H.drew;refine ρd ?_;refine dki 83 (λh=>?_) (λh=>?_)
  .have hT:0<a:=by have:=oT h;omega
   have lx:a-1<n:=om
   have ly:pv<n:=om
   refine ρd ?_;refine dix (a-1) Hd.rd lx ?_;refine ρd ?_;refine dld (Hd.cell lx) ?_;refine ρd ?_;refine dix (pv) Hd.rd ly ?_;refine ρd ?_;refine dld (Hd.cell ly) ?_;refine ρd ?_;refine Qqv (hC.call Hd lx ly) ?_;rintro r a7 ⟨a8,rfl,a1⟩;refine ⟨a1,?_⟩;have HT:=Hd.ext a1;refine ρd ?_;refine ρ ?_;exact Jjn _ sB HT
  .refine ρd ?_;refine ρ ?_;exact Jjn false sB Hd
 clear H;rintro t2 w6 H;refine ci (λh=>?_) (λh=>?_)
 .refine ρ ?_;refine cl (Qcf (a:=a) (b:=b) (pv:=pv) H.d H.l hmx (hC.step H) rfl rfl rfl om hb O J) ?_;rintro v w2 ⟨G,o,j,rfl,a5,a4⟩;refine ρ ?_;exact Jvt (j,b) (lim,wb) C G sB ⟨H.after o,by simp only;omega,by simp only;omega,by simp only;omega,by simp only;omega,by simp only;omega⟩ (by simp only;omega)
 refine ρ ?_;refine cl (Qps (a:=a) (b:=b) (pv:=pv) H.d H.l hmx (hC.step H) rfl rfl rfl om hb O J) ?_;rintro v w7 ⟨G,o,j,a3,rfl,a5,a4⟩;have u:=H.after o;clear H o;refine ρ ?_;refine qn (b-a) 8 ?_;refine ρ ?_;refine ci (λh=>?_) (λh=>?_)
 .refine ρ ?_;refine cl (ih (j-a) om u.d u.l hmx (hC.step u) (a:=a) (b:=j) rfl rfl om om ⟨Z,U⟩ (Nat.le_refl _)) ?_;rintro v w8 ⟨q3,H4⟩;refine ρ ?_;exact Jvt (j+1,b) (lim,_) a3 q3 sO ⟨u.after H4,by simp only;omega,by simp only;omega,by simp only;omega,by simp only;omega,by simp only;omega⟩ (by simp only;omega)
 .refine ρ ?_;refine cl (ih (b-(j+1)) om u.d u.l hmx (hC.step u) (a:=j+1) (b:=b) (ai:=(j:Int)+1) om rfl om om ⟨Z,U⟩ (Nat.le_refl _)) ?_;rintro v w8 ⟨q3,H4⟩;refine ρ ?_;exact Jvt (a,j) (lim,_) a3 q3 sO ⟨u.after H4,by simp only;omega,by simp only;omega,by simp only;omega,by simp only;omega,by simp only;omega⟩ (by simp only;omega)
end Go.Proofs.YtefpailelagbkaaGreatDoor
namespace Go.Wk
open Go.RowKit
structure GrN(N:Nat->Prop)(w w':World): Prop where
 os:w'.os=w.os
 tape:w'.tape=w.tape
 output:w'.output=w.output
 size:w.heap.size<=w'.heap.size
 block:∀ k,k<w.heap.size->¬ N k->w'.heap[k]?=w.heap[k]?
theorem GrN.refl(N:Nat->Prop)(w:World): GrN N w w:=⟨rfl,rfl,rfl,Nat.le_refl _,λ_ _ _=>rfl⟩
theorem GrN.ext{N:Nat->Prop}{w w':World}(h:Ext w w'): GrN N w w':=⟨h.os,h.tape,h.output,h.size,λk i _=>h.block k i⟩
theorem GrN.trans{N:Nat->Prop}{a b c:World}(h:GrN N a b)(k:GrN N b c): GrN N a c :=
 ⟨k.os.trans h.os,k.tape.trans h.tape,k.output.trans h.output,Nat.le_trans h.size k.size,λj i hn=>(k.block j (nM i h.size) hn).trans (h.block j i hn)⟩
theorem GrN.by{N:Nat->Prop}{w w':World}{g:Option Nat}(h:w.grownBy w' g)(hg:∀ k,g=some k->N k): GrN N w w':=⟨h.os,h.tape,h.output,h.size,λk i hn=>h.block k i (λe=>hn (hg k e.symm))⟩
theorem GrN.set{N:Nat->Prop}{w:World}{p:Addr}(u:Value)(hp:N p.block): GrN N w (w.setCell p u):=by
 refine ⟨rfl,rfl,rfl,by simp [World.setCell],λk i hn=>Below.heap_setCell w p u k ?_⟩;intro e;subst e;exact hn hp
theorem GrN.mono{N N':Nat->Prop}{w w':World}(h:GrN N w w')(hN:∀ k,k<w.heap.size->N k->N' k): GrN N' w w':=⟨h.os,h.tape,h.output,h.size,λk i hn=>h.block k i (λe=>hn (hN k i e))⟩
theorem GrN.old{N:Nat->Prop}{a w w':World}(h:GrN N w w')(hx:Ext a w)(hN:∀ k,N k->a.heap.size<=k): Ext a w' :=
 ⟨h.os.trans hx.os,h.tape.trans hx.tape,h.output.trans hx.output,Nat.le_trans hx.size h.size,λk i=>(h.block k (nM i hx.size) (λe=>by have:=hN k e;omega)).trans (hx.block k i)⟩
theorem GrN.toExt{w w':World}(h:GrN (λ_=>False) w w'): Ext w w':=⟨h.os,h.tape,h.output,h.size,λk i=>h.block k i (λe=>e)⟩
def Off(N:Nat->Prop)(w:World)(Φ:World->Prop): Prop:=∀ w',GrN N w w'->Φ w'
section
variable {N N':Nat->Prop} {w w':World} {Φ Ψ:World->Prop}
theorem Off.here(h:Off N w Φ): Φ w:=h w (GrN.refl N w)
theorem Off.gr(h:Off N w Φ)(hg:GrN N w w'): Off N w' Φ:=λi j=>h i (hg.trans j)
theorem Off.ext(h:Off N w Φ)(hx:Ext w w'): Off N w' Φ:=h.gr (GrN.ext hx)
theorem Off.mono(h:Off N w Φ)(hN:∀ k,k<w.heap.size->N' k->N k): Off N' w Φ:=λw' i=>h w' (i.mono hN)
theorem Off.imp(h:Off N w Φ)(hi:∀ u,Φ u->Ψ u): Off N w Ψ:=λw' i=>hi w' (h w' i)
theorem Off.and(h:Off N w Φ)(k:Off N w Ψ): Off N w (λu=>Φ u/\Ψ u):=λw' i=>⟨h w' i,k w' i⟩
theorem Off.grown{g:Option Nat}(h:Off N w Φ)(hg:w.grownBy w' g)(hN:∀ k,g=some k->N k): Off N w' Φ:=h.gr (GrN.by hg hN)
theorem Off.old{a:World}(hΦ:∀ u,Ext a u->Φ u)(hx:Ext a w)(hN:∀ k,N k->a.heap.size<=k): Off N w Φ:=λw' i=>hΦ w' (i.old hx hN)
theorem Qxm{sz n:Nat}{A:Option Addr}{cs:List Value}(h:Rd w sz A n cs)(hg:GrN N w w')(hA:0<cs.length->∀ ad,A=some ad->¬ N ad.block): Rd w' sz A n cs :=
 ⟨h.1,λh0=>by
  obtain ⟨ad,e,i,C⟩:=h.2 h0;refine ⟨ad,e,Nat.lt_of_lt_of_le i hg.size,λj u o=>?_⟩;rw [<-C j u o];exact World.cell?_of_block (by rw [Jxw];exact hg.block _ i (hA h0 ad e))⟩
theorem Xwx{sz n:Nat}{A:Option Addr}{cs:List Value}(h:Rd w sz A n cs)(hA:0<cs.length->∀ ad,A=some ad->¬ N ad.block): Off N w (λu=>Rd u sz A n cs):=λw' i=>Qxm h i hA
theorem Jqb{g:Nat}{t:TypeId}{cs:List Value}(h:Blk w g t cs)(hg:GrN N w w')(hn:¬ N g): Blk w' g t cs:=(hg.block g h.lt hn).trans h
theorem Jjr{base e sz:Nat}{v:Value}{m:Nat}{xs:List Value}(h:w.ownsRow base e sz v m xs)(hg:GrN N w w')(hn:∀ g,v.ownBlock=some g->¬ N g): w'.ownsRow base e sz v m xs:=by
 rcases h with ⟨C,⟨rfl,rfl⟩|⟨g,u,cur,rfl,O,o,j,G,J,ht⟩⟩
 .exact ⟨C,.inl ⟨rfl,rfl⟩⟩
 .refine ⟨C,.inr ⟨g,u,cur,rfl,O,?_,j,G,J,ht⟩⟩;have i:g<w.heap.size:=by
   rcases Nat.lt_or_ge g w.heap.size with h'|h'
   .exact h'
   .rw [Array.getElem?_eq_none h']at o;cases o
  rw [hg.block g i (hn g rfl)];exact o
theorem Jfj{base e sz:Nat}{v:Value}{m:Nat}{xs:List Value}(h:w.ownsRow base e sz v m xs)(hn:∀ g,v.ownBlock=some g->¬ N g): Off N w (λu=>u.ownsRow base e sz v m xs):=λw' i=>Jjr h i hn
end
theorem Jyb{P:Program}{n:Nat}{al:AL}{w:World}{tt:TT}[h:Tab P tt]{fn:Func}{Φ:Value->World->Prop}{c t t1 b:Nat}{k:TK}{cs:List Value}{x:Value}(hb:Blk w b t cs)(hp:Φ (.tuple #[.agg cs.toArray,x]) w)(hr:fn.results = #[.cell c t,.tmp t1]:=by rfl)(ht:tk tt t=some k:=by rfl)(hk:k.desc=.invalid:=by rfl)(hs:k.size=cs.length:=by rfl)(hc:lk al c=some (.pointer (some ⟨b,0,none⟩)):=by rfl)(h1:lk al t1=some x:=by rfl):
  QX n (Qwg P fn Φ) .ret al w :=
 Qdh (rs:=[.cell c t,.tmp t1]) (vs:=[.agg cs.toArray,x]) hr ⟨⟨_,hc,Jwk h.ok ht hk hs (λj u i=>hb.at i)⟩,h1,trivial⟩ rfl hp
end Go.Wk
