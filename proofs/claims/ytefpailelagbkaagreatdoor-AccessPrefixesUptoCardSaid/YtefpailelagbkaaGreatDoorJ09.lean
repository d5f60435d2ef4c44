/- Part 9 of the proof: Pdq4, Pdq5. -/
import Derived.Test.YtefpailelagbkaaGreatDoorJ08
set_option linter.unusedVariables false
set_option maxRecDepth 100000
set_option maxHeartbeats 40000000
namespace Go.Proofs.YtefpailelagbkaaGreatDoor
open Go.RowKit Pl Go.Wk
attribute [local irreducible] WC WL QX WD WDB WP
theorem Qcx{w:World}{base:Nat}{A:Option Addr}{n c:Nat}{fid:FuncId}{first cap:Array Value}{ps:List Pr}{ds:List Bool}(hD:Dat w base (.slice A n c) ps)(hn:ps.length=n)(hmx:n<=140737488355328)(hC:CF w (Value.slice A n c).ownBlock fid first cap ps ds){a b pv:Nat}{ai bi pvi:Int}(hai:ai=(a:Int))(hbi:bi=(b:Int))(hpvi:pvi=(pv:Int))(hab:a<b)(hb:b<=n)(hp0:a<=pv)(hp1:pv<b):
  Ret Tryz.prog 172 [.slice A n c,.int .i64 ai,.int .i64 bi,.int .i64 pvi,.func (.func fid) first cap] w λv w'=>∃ ps',DP w w' base A n c ps ps'/\∃ m:Nat,v=.int .i64 (m:Int)/\a<m/\m<=b:=by
 subst hai;subst hbi;subst hpvi;refine Jjb Tryz.func172 Tryz.ntmps172 rfl (by kernel_rfl) rfl ?_;refine ρ ?_;have H:=DP.start hD hn;have la:a<n:=by omega
 have lp:pv<n:=by omega
 refine drC 4 [0,1,2,3,4,5,8,9] [(0,6),(0,7),(0,10),(0,11),(0,12),(2,13),(2,14),(2,15)] (by kernel_rfl) ?_;have Hd:=H.drew;obtain ⟨s1,s2,s3,⟨u,s4⟩,s5,s6⟩:=Hd.swap la lp;refine ρp ?_;refine dix (pv) Hd.rd lp ?_;refine ρd ?_;refine dld (Hd.cell lp) ?_;refine ρd ?_;refine dix (a) Hd.rd la ?_;refine ρd ?_;refine dld (Hd.cell la) ?_;refine ρd ?_;refine dix (a) Hd.rd la ?_;refine ρd ?_;refine Jqz ?_;refine sto (Hd.cell la) s1 ?_ (hv:=Hd.one lp);refine ρ ?_;refine Jxx ?_;refine Jqz ?_;refine ix (pv) s2 lp ?_;refine ρ ?_;refine Jxx ?_;refine Jqz ?_;refine sto s4 s3 ?_ (hv:=Hd.one la);refine ρ ?_;refine Jzk (fun (i j:Nat) (q:List Pr)=>[(0,.slice A n c),(1,.int .i64 (a:Int)),(2,.int .i64 (b:Int)),(4,.func (.func fid) first cap),(11,.int .i64 (i:Int)),(12,.int .i64 (j:Int))]) (λi j q w'=>DP w w' base A n c ps q/\a<i/\i<=b/\a<=j/\j<b) (λi j _=>b+j-i) (a+1) (b-1) _ sO ⟨s5,by omega⟩ ?_;clear s1 s2 s3 s4 s5 s6 u Hd H
 rintro i0 j0 q w1 ⟨H,hij⟩;refine ρ ?_;refine Jqn (fun (i:Nat)=>[(0,.slice A n c),(1,.int .i64 (a:Int)),(2,.int .i64 (b:Int)),(4,.func (.func fid) first cap),(12,.int .i64 (j0:Int)),(11,.int .i64 (i:Int))]) (λi w'=>DP w w' base A n c ps q/\i0<=i/\a<i/\i<=b) (λi=>b-i) i0 sO ⟨H,by omega⟩ ?_;rintro i wS ⟨HS,hA1⟩;refine ρ ?_;refine Jzl (fun (t:Bool)=>[(0,.slice A n c),(1,.int .i64 (a:Int)),(2,.int .i64 (b:Int)),(4,.func (.func fid) first cap),(12,.int .i64 (j0:Int)),(11,.int .i64 (i:Int)),(47,.bool t)]) (λt w'=>DP w w' base A n c ps q/\(t=true->i<=j0)) ?_ ?_
 ·skip
  refine dr [(0,0),(0,1),(0,2),(0,3),(0,4),(0,5),(0,6),(0,7),(0,8),(0,9),(0,10),(0,11),(0,12),(1,13),(0,14),(0,15),(0,16)] (by kernel_rfl) ?_;have HSd:=HS.drew;refine ρd ?_;refine dki 34 (λh=>?_) (λh=>?_)
  ·have hT:i<=j0:=by have:=of_decide_eq_true h;omega
   have lx:a<n:=by omega
   have ly:i<n:=by omega
   refine ρd ?_;refine dix (a) HSd.rd lx ?_;refine ρd ?_;refine dld (HSd.cell lx) ?_;refine ρd ?_;refine dix (i) HSd.rd ly ?_;refine ρd ?_;refine dld (HSd.cell ly) ?_;refine ρd ?_;refine Qxr (hC.call HSd lx ly) ?_;rintro r wHT ⟨bHT,rfl,hxHT⟩;refine ⟨hxHT,?_⟩;have HT:=HSd.ext hxHT;refine ρd ?_;refine ρ ?_;exact Jjn _ sB ⟨HT,λ_=>hT⟩
  ·refine ρd ?_;refine ρ ?_;exact Jjn false sB ⟨HSd,λe=>by cases e⟩
 rintro t wS2 ⟨HA1,hS2⟩;refine ci (λh=>?_) (λh=>?_)
 ·have:=hS2 h;refine ρ ?_;exact Jjt (i+1) sO ⟨HA1,by omega⟩ (by omega)
 clear hS2 HS h;refine ρ ?_;refine Jqn (fun (j:Nat)=>[(0,.slice A n c),(1,.int .i64 (a:Int)),(2,.int .i64 (b:Int)),(4,.func (.func fid) first cap),(11,.int .i64 (i:Int)),(12,.int .i64 (j:Int))]) (λj w'=>DP w w' base A n c ps q/\j<=j0/\a<=j/\j<b) (λj=>j) j0 sO ⟨HA1,by omega⟩ ?_;rintro j wS ⟨HS,hA2⟩;refine ρ ?_;refine Jzl (fun (t:Bool)=>[(0,.slice A n c),(1,.int .i64 (a:Int)),(2,.int .i64 (b:Int)),(4,.func (.func fid) first cap),(11,.int .i64 (i:Int)),(12,.int .i64 (j:Int)),(65,.bool t)]) (λt w'=>DP w w' base A n c ps q/\(t=true->i<=j)) ?_ ?_
 ·skip
  refine dr [(0,0),(0,1),(0,2),(0,3),(0,4),(0,5),(0,6),(0,7),(0,8),(0,9),(0,10),(0,11),(0,12),(1,13),(0,14),(0,15)] (by kernel_rfl) ?_;have HSd:=HS.drew;refine ρd ?_;refine dki 53 (λh=>?_) (λh=>?_)
  ·have hT:i<=j:=by have:=of_decide_eq_true h;omega
   have lx:a<n:=by omega
   have ly:j<n:=by omega
   refine ρd ?_;refine dix (a) HSd.rd lx ?_;refine ρd ?_;refine dld (HSd.cell lx) ?_;refine ρd ?_;refine dix (j) HSd.rd ly ?_;refine ρd ?_;refine dld (HSd.cell ly) ?_;refine ρd ?_;refine Qxr (hC.call HSd lx ly) ?_;rintro r wHT ⟨bHT,rfl,hxHT⟩;refine ⟨hxHT,?_⟩;have HT:=HSd.ext hxHT;refine ρd ?_;refine ρ ?_;exact Jjn _ sB ⟨HT,λ_=>hT⟩
  ·refine ρd ?_;refine ρ ?_;exact Jjn false sB ⟨HSd,λe=>by cases e⟩
 rintro t wS2 ⟨HA2,hS2⟩;refine ci (λh=>?_) (λh=>?_)
 ·have:=hS2 h;refine ρ ?_;exact Jjt (j-1) sO ⟨HA2,by omega⟩ (by omega)
 clear hS2 HS h;refine ρ ?_;refine ci (λh=>?_) (λh=>?_)
 ·refine ρ ?_;exact Jjq ⟨q,HA2,i,rfl,by omega,by omega⟩
 have hT:i<=j:=by have:=of_decide_eq_false h;omega
 have li:i<n:=by omega
 have lj:j<n:=by omega
 refine ρ ?_;refine drC 4 [0,1,2,3,4,5,8,9] [(0,6),(0,7),(0,10),(0,11),(0,12),(2,13),(2,14),(2,15)] (by kernel_rfl) ?_;have HA2d:=HA2.drew;obtain ⟨s1,s2,s3,⟨u,s4⟩,s5,s6⟩:=HA2d.swap li lj;refine ρp ?_;refine dix (j) HA2d.rd lj ?_;refine ρd ?_;refine dld (HA2d.cell lj) ?_;refine ρd ?_;refine dix (i) HA2d.rd li ?_;refine ρd ?_;refine dld (HA2d.cell li) ?_;refine ρd ?_;refine dix (i) HA2d.rd li ?_;refine ρd ?_;refine Jqz ?_;refine sto (HA2d.cell li) s1 ?_ (hv:=HA2d.one lj);refine ρ ?_;refine Jxx ?_;refine Jqz ?_;refine ix (j) s2 lj ?_;refine ρ ?_;refine Jxx ?_;refine Jqz ?_;refine sto s4 s3 ?_ (hv:=HA2d.one li);refine ρ ?_;exact Jqf (i+1) (j-1) _ sO ⟨s5,by omega⟩ (by omega)
theorem Qrn{w:World}{base:Nat}{A:Option Addr}{n c:Nat}{fid:FuncId}{first cap:Array Value}{ps:List Pr}{ds:List Bool}(hD:Dat w base (.slice A n c) ps)(hn:ps.length=n)(hmx:n<=140737488355328)(hC:CF w (Value.slice A n c).ownBlock fid first cap ps ds){a b pv:Nat}{ai bi pvi:Int}(hai:ai=(a:Int))(hbi:bi=(b:Int))(hpvi:pvi=(pv:Int))(hab:a<b)(hb:b<=n)(hp0:a<=pv)(hp1:pv<b):
  Ret Tryz.prog 173 [.slice A n c,.int .i64 ai,.int .i64 bi,.int .i64 pvi,.func (.func fid) first cap] w λv w'=>∃ ps',DP w w' base A n c ps ps'/\∃ (m:Nat) (t:Bool),v=.tuple #[.int .i64 (m:Int),.bool t]/\a<=m/\m<b:=by
 subst hai;subst hbi;subst hpvi;refine Jjb Tryz.func173 Tryz.ntmps173 rfl (by kernel_rfl) rfl ?_;refine ρ ?_;have H:=DP.start hD hn;have la:a<n:=by omega
 have lp:pv<n:=by omega
 refine drC 4 [0,1,2,3,4,5,8,9] [(0,6),(0,7),(0,10),(0,11),(0,12),(2,13),(2,14),(2,15)] (by kernel_rfl) ?_;have Hd:=H.drew;obtain ⟨s1,s2,s3,⟨u,s4⟩,s5,s6⟩:=Hd.swap la lp;refine ρp ?_;refine dix (pv) Hd.rd lp ?_;refine ρd ?_;refine dld (Hd.cell lp) ?_;refine ρd ?_;refine dix (a) Hd.rd la ?_;refine ρd ?_;refine dld (Hd.cell la) ?_;refine ρd ?_;refine dix (a) Hd.rd la ?_;refine ρd ?_;refine Jqz ?_;refine sto (Hd.cell la) s1 ?_ (hv:=Hd.one lp);refine ρ ?_;refine Jxx ?_;refine Jqz ?_;refine ix (pv) s2 lp ?_;refine ρ ?_;refine Jxx ?_;refine Jqz ?_;refine sto s4 s3 ?_ (hv:=Hd.one la);refine ρ ?_;generalize hq:swp z0 ps a pv=q at s5
 have H5:=s5;clear s1 s2 s3 s4 s5 s6 u Hd H hq;obtain ⟨i0,hi0⟩:∃ i0:Nat,i0=a+1:=⟨_,rfl⟩;obtain ⟨j0,hj0⟩:∃ j0:Nat,j0=b-1:=⟨_,rfl⟩;refine Jqn (fun (i:Nat)=>[(0,.slice A n c),(1,.int .i64 (a:Int)),(2,.int .i64 (b:Int)),(4,.func (.func fid) first cap),(13,.int .i64 (j0:Int)),(12,.int .i64 (i:Int))]) (λi w'=>DP w w' base A n c ps q/\i0<=i/\a<i/\i<=b) (λi=>b-i) i0 sO ⟨H5,by omega⟩ ?_;rintro i wS ⟨HS,hA1⟩;refine ρ ?_;refine Jzl (fun (t:Bool)=>[(0,.slice A n c),(1,.int .i64 (a:Int)),(2,.int .i64 (b:Int)),(4,.func (.func fid) first cap),(13,.int .i64 (j0:Int)),(12,.int .i64 (i:Int)),(47,.bool t)]) (λt w'=>DP w w' base A n c ps q/\(t=true->i<=j0)) ?_ ?_
 ·skip
  refine dr [(0,0),(0,1),(0,2),(0,3),(0,4),(0,5),(0,6),(0,7),(0,8),(0,9),(0,10),(0,11),(0,12),(1,13),(0,14),(0,15)] (by kernel_rfl) ?_;have HSd:=HS.drew;refine ρd ?_;refine dki 35 (λh=>?_) (λh=>?_)
  ·have hT:i<=j0:=by have:=of_decide_eq_true h;omega
   have lx:i<n:=by omega
   have ly:a<n:=by omega
   refine ρd ?_;refine dix (i) HSd.rd lx ?_;refine ρd ?_;refine dld (HSd.cell lx) ?_;refine ρd ?_;refine dix (a) HSd.rd ly ?_;refine ρd ?_;refine dld (HSd.cell ly) ?_;refine ρd ?_;refine Qxr (hC.call HSd lx ly) ?_;rintro r wHT ⟨bHT,rfl,hxHT⟩;refine ⟨hxHT,?_⟩;have HT:=HSd.ext hxHT;refine ρd ?_;refine ρ ?_;exact Jjn _ sB ⟨HT,λ_=>hT⟩
  ·refine ρd ?_;refine ρ ?_;exact Jjn false sB ⟨HSd,λe=>by cases e⟩
 rintro t wS2 ⟨HA1,hS2⟩;refine ci (λh=>?_) (λh=>?_)
 ·have:=hS2 h;refine ρ ?_;exact Jjt (i+1) sO ⟨HA1,by omega⟩ (by omega)
 clear hS2 HS h;refine ρ ?_;refine Jqn (fun (j:Nat)=>[(0,.slice A n c),(1,.int .i64 (a:Int)),(2,.int .i64 (b:Int)),(4,.func (.func fid) first cap),(12,.int .i64 (i:Int)),(13,.int .i64 (j:Int))]) (λj w'=>DP w w' base A n c ps q/\j<=j0/\a<=j/\j<b) (λj=>j) j0 sO ⟨HA1,by omega⟩ ?_;rintro j wS ⟨HS,hA2⟩;refine ρ ?_;refine Jzl (fun (t:Bool)=>[(0,.slice A n c),(1,.int .i64 (a:Int)),(2,.int .i64 (b:Int)),(4,.func (.func fid) first cap),(12,.int .i64 (i:Int)),(13,.int .i64 (j:Int)),(66,.bool t)]) (λt w'=>DP w w' base A n c ps q/\(t=true->i<=j)) ?_ ?_
 ·skip
  refine dr [(0,0),(0,1),(0,2),(0,3),(0,4),(0,5),(0,6),(0,7),(0,8),(0,9),(0,10),(0,11),(0,12),(1,13),(0,14),(0,15),(0,16)] (by kernel_rfl) ?_;have HSd:=HS.drew;refine ρd ?_;refine dki 53 (λh=>?_) (λh=>?_)
  ·have hT:i<=j:=by have:=of_decide_eq_true h;omega
   have lx:j<n:=by omega
   have ly:a<n:=by omega
   refine ρd ?_;refine dix (j) HSd.rd lx ?_;refine ρd ?_;refine dld (HSd.cell lx) ?_;refine ρd ?_;refine dix (a) HSd.rd ly ?_;refine ρd ?_;refine dld (HSd.cell ly) ?_;refine ρd ?_;refine Qxr (hC.call HSd lx ly) ?_;rintro r wHT ⟨bHT,rfl,hxHT⟩;refine ⟨hxHT,?_⟩;have HT:=HSd.ext hxHT;refine ρd ?_;refine ρ ?_;exact Jjn _ sB ⟨HT,λ_=>hT⟩
  ·refine ρd ?_;refine ρ ?_;exact Jjn false sB ⟨HSd,λe=>by cases e⟩
 rintro t wS2 ⟨HA2,hS2⟩;refine ci (λh=>?_) (λh=>?_)
 ·have:=hS2 h;refine ρ ?_;exact Jjt (j-1) sO ⟨HA2,by omega⟩ (by omega)
 clear hS2 HS h;refine ρ ?_;have li2:a<n:=by omega
 have lj:j<n:=by omega
 refine ci (λh=>?_) (λh=>?_)
 ·refine ρ ?_;refine drC 4 [0,1,2,3,4,5,8,9] [(0,6),(0,7),(0,10),(0,11),(0,12),(2,13),(2,14),(2,15)] (by kernel_rfl) ?_;have HA2d:=HA2.drew;obtain ⟨s1,s2,s3,⟨u,s4⟩,s5,s6⟩:=HA2d.swap lj li2;refine ρp ?_;refine dix (a) HA2d.rd li2 ?_;refine ρd ?_;refine dld (HA2d.cell li2) ?_;refine ρd ?_;refine dix (j) HA2d.rd lj ?_;refine ρd ?_;refine dld (HA2d.cell lj) ?_;refine ρd ?_;refine dix (j) HA2d.rd lj ?_;refine ρd ?_;refine Jqz ?_;refine sto (HA2d.cell lj) s1 ?_ (hv:=HA2d.one li2);refine ρ ?_;refine Jxx ?_;refine Jqz ?_;refine ix (a) s2 li2 ?_;refine ρ ?_;refine Jxx ?_;refine Jqz ?_;refine sto s4 s3 ?_ (hv:=HA2d.one lj);refine ρ ?_;exact Qjk ⟨_,s5,j,true,rfl,by omega,by omega⟩
 have hT:i<=j:=by have:=of_decide_eq_false h;omega
 have li:i<n:=by omega
 refine ρ ?_;refine drC 4 [0,1,2,3,4,5,8,9] [(0,6),(0,7),(0,10),(0,11),(0,12),(2,13),(2,14),(2,15)] (by kernel_rfl) ?_;have HA2d:=HA2.drew;obtain ⟨s1,s2,s3,⟨u,s4⟩,s5,s6⟩:=HA2d.swap li lj;refine ρp ?_;refine dix (j) HA2d.rd lj ?_;refine ρd ?_;refine dld (HA2d.cell lj) ?_;refine ρd ?_;refine dix (i) HA2d.rd li ?_;refine ρd ?_;refine dld (HA2d.cell li) ?_;refine ρd ?_;refine dix (i) HA2d.rd li ?_;refine ρd ?_;refine Jqz ?_;refine sto (HA2d.cell li) s1 ?_ (hv:=HA2d.one lj);refine ρ ?_;refine Jxx ?_;refine Jqz ?_;refine ix (j) s2 lj ?_;refine ρ ?_;refine Jxx ?_;refine Jqz ?_;refine sto s4 s3 ?_ (hv:=HA2d.one li);refine ρ ?_;refine Jzk (fun (i j:Nat) (q:List Pr)=>[(0,.slice A n c),(1,.int .i64 (a:Int)),(2,.int .i64 (b:Int)),(4,.func (.func fid) first cap),(12,.int .i64 (i:Int)),(13,.int .i64 (j:Int))]) (λi j q w'=>DP w w' base A n c ps q/\a<i/\i<=b/\a<=j/\j<b) (λi j _=>b+j-i) (i+1) (j-1) _ sO ⟨s5,by omega⟩ ?_
 clear s1 s2 s3 s4 s5 s6 u HA2d HA2 HA1 hA1 hA2 hi0 hj0 li2 lj li hT;clear h q i0 j0 i j H5;rintro i0 j0 q w1 ⟨H,hij⟩;refine ρ ?_;refine Jqn (fun (i:Nat)=>[(0,.slice A n c),(1,.int .i64 (a:Int)),(2,.int .i64 (b:Int)),(4,.func (.func fid) first cap),(13,.int .i64 (j0:Int)),(12,.int .i64 (i:Int))]) (λi w'=>DP w w' base A n c ps q/\i0<=i/\a<i/\i<=b) (λi=>b-i) i0 sO ⟨H,by omega⟩ ?_;rintro i wS ⟨HS,hA1⟩;refine ρ ?_;refine Jzl (fun (t:Bool)=>[(0,.slice A n c),(1,.int .i64 (a:Int)),(2,.int .i64 (b:Int)),(4,.func (.func fid) first cap),(13,.int .i64 (j0:Int)),(12,.int .i64 (i:Int)),(120,.bool t)]) (λt w'=>DP w w' base A n c ps q/\(t=true->i<=j0)) ?_ ?_
 ·skip
  refine dr [(0,0),(0,1),(0,2),(0,3),(0,4),(0,5),(0,6),(0,7),(0,8),(0,9),(0,10),(0,11),(0,12),(1,13),(0,14),(0,15)] (by kernel_rfl) ?_;have HSd:=HS.drew;refine ρd ?_;refine dki 108 (λh=>?_) (λh=>?_)
  ·have hT:i<=j0:=by have:=of_decide_eq_true h;omega
   have lx:i<n:=by omega
   have ly:a<n:=by omega
   refine ρd ?_;refine dix (i) HSd.rd lx ?_;refine ρd ?_;refine dld (HSd.cell lx) ?_;refine ρd ?_;refine dix (a) HSd.rd ly ?_;refine ρd ?_;refine dld (HSd.cell ly) ?_;refine ρd ?_;refine Qxr (hC.call HSd lx ly) ?_;rintro r wHT ⟨bHT,rfl,hxHT⟩;refine ⟨hxHT,?_⟩;have HT:=HSd.ext hxHT;refine ρd ?_;refine ρ ?_;exact Jjn _ sB ⟨HT,λ_=>hT⟩
  ·refine ρd ?_;refine ρ ?_;exact Jjn false sB ⟨HSd,λe=>by cases e⟩
 rintro t wS2 ⟨HA1,hS2⟩;refine ci (λh=>?_) (λh=>?_)
 ·have:=hS2 h;refine ρ ?_;exact Jjt (i+1) sO ⟨HA1,by omega⟩ (by omega)
 clear hS2 HS h;refine ρ ?_;refine Jqn (fun (j:Nat)=>[(0,.slice A n c),(1,.int .i64 (a:Int)),(2,.int .i64 (b:Int)),(4,.func (.func fid) first cap),(12,.int .i64 (i:Int)),(13,.int .i64 (j:Int))]) (λj w'=>DP w w' base A n c ps q/\j<=j0/\a<=j/\j<b) (λj=>j) j0 sO ⟨HA1,by omega⟩ ?_;rintro j wS ⟨HS,hA2⟩;refine ρ ?_;refine Jzl (fun (t:Bool)=>[(0,.slice A n c),(1,.int .i64 (a:Int)),(2,.int .i64 (b:Int)),(4,.func (.func fid) first cap),(12,.int .i64 (i:Int)),(13,.int .i64 (j:Int)),(139,.bool t)]) (λt w'=>DP w w' base A n c ps q/\(t=true->i<=j)) ?_ ?_
 ·skip
  refine dr [(0,0),(0,1),(0,2),(0,3),(0,4),(0,5),(0,6),(0,7),(0,8),(0,9),(0,10),(0,11),(0,12),(1,13),(0,14),(0,15),(0,16)] (by kernel_rfl) ?_;have HSd:=HS.drew;refine ρd ?_;refine dki 126 (λh=>?_) (λh=>?_)
  ·have hT:i<=j:=by have:=of_decide_eq_true h;omega
   have lx:j<n:=by omega
   have ly:a<n:=by omega
   refine ρd ?_;refine dix (j) HSd.rd lx ?_;refine ρd ?_;refine dld (HSd.cell lx) ?_;refine ρd ?_;refine dix (a) HSd.rd ly ?_;refine ρd ?_;refine dld (HSd.cell ly) ?_;refine ρd ?_;refine Qxr (hC.call HSd lx ly) ?_;rintro r wHT ⟨bHT,rfl,hxHT⟩;refine ⟨hxHT,?_⟩;have HT:=HSd.ext hxHT;refine ρd ?_;refine ρ ?_;exact Jjn _ sB ⟨HT,λ_=>hT⟩
  ·refine ρd ?_;refine ρ ?_;exact Jjn false sB ⟨HSd,λe=>by cases e⟩
 rintro t wS2 ⟨HA2,hS2⟩;refine ci (λh=>?_) (λh=>?_)
 ·have:=hS2 h;refine ρ ?_;exact Jjt (j-1) sO ⟨HA2,by omega⟩ (by omega)
 clear hS2 HS h;refine ρ ?_;have li2:a<n:=by omega
 have lj:j<n:=by omega
 refine ci (λh=>?_) (λh=>?_)
 ·refine ρ ?_;refine drC 4 [0,1,2,3,4,5,8,9] [(0,6),(0,7),(0,10),(0,11),(0,12),(2,13),(2,14),(2,15)] (by kernel_rfl) ?_;have HA2d:=HA2.drew;obtain ⟨s1,s2,s3,⟨u,s4⟩,s5,s6⟩:=HA2d.swap lj li2;refine ρp ?_;refine dix (a) HA2d.rd li2 ?_;refine ρd ?_;refine dld (HA2d.cell li2) ?_;refine ρd ?_;refine dix (j) HA2d.rd lj ?_;refine ρd ?_;refine dld (HA2d.cell lj) ?_;refine ρd ?_;refine dix (j) HA2d.rd lj ?_;refine ρd ?_;refine Jqz ?_;refine sto (HA2d.cell lj) s1 ?_ (hv:=HA2d.one li2);refine ρ ?_;refine Jxx ?_;refine Jqz ?_;refine ix (a) s2 li2 ?_;refine ρ ?_;refine Jxx ?_;refine Jqz ?_;refine sto s4 s3 ?_ (hv:=HA2d.one lj);refine ρ ?_;exact Qjk ⟨_,s5,j,false,rfl,by omega,by omega⟩
 have hT:i<=j:=by have:=of_decide_eq_false h;omega
 have li:i<n:=by omega
 refine ρ ?_;refine drC 4 [0,1,2,3,4,5,8,9] [(0,6),(0,7),(0,10),(0,11),(0,12),(2,13),(2,14),(2,15)] (by kernel_rfl) ?_;have HA2d:=HA2.drew;obtain ⟨s1,s2,s3,⟨u,s4⟩,s5,s6⟩:=HA2d.swap li lj;refine ρp ?_;refine dix (j) HA2d.rd lj ?_;refine ρd ?_;refine dld (HA2d.cell lj) ?_;refine ρd ?_;refine dix (i) HA2d.rd li ?_;refine ρd ?_;refine dld (HA2d.cell li) ?_;refine ρd ?_;refine dix (i) HA2d.rd li ?_;refine ρd ?_;refine Jqz ?_;refine sto (HA2d.cell li) s1 ?_ (hv:=HA2d.one lj);refine ρ ?_;refine Jxx ?_;refine Jqz ?_;refine ix (j) s2 lj ?_;refine ρ ?_;refine Jxx ?_;refine Jqz ?_;refine sto s4 s3 ?_ (hv:=HA2d.one li);refine ρ ?_;exact Jqf (i+1) (j-1) _ sO ⟨s5,by omega⟩ (by omega)
theorem Qkl{w:World}{base:Nat}{A:Option Addr}{n c:Nat}{fid:FuncId}{first cap:Array Value}{ps:List Pr}{ds:List Bool}(hD:Dat w base (.slice A n c) ps)(hn:ps.length=n)(hmx:n<=140737488355328)(hC:CF w (Value.slice A n c).ownBlock fid first cap ps ds){a b:Nat}{ai bi:Int}(hai:ai=(a:Int))(hbi:bi=(b:Int))(hab:a+1<b)(hb:b<=n):
  Ret Tryz.prog 171 [.slice A n c,.int .i64 ai,.int .i64 bi,.func (.func fid) first cap] w λv w'=>∃ ps',DP w w' base A n c ps ps'/\∃ t:Bool,v=.bool t:=by
 subst hai;subst hbi;refine Jjb Tryz.func171 Tryz.ntmps171 rfl (by kernel_rfl) rfl ?_;refine ρ ?_;refine Jzk (fun (k i:Nat) (q:List Pr)=>[(0,.slice A n c),(1,.int .i64 (a:Int)),(2,.int .i64 (b:Int)),(3,.func (.func fid) first cap),(9,.int .i64 (i:Int)),(10,.int .i64 (k:Int))]) (λk i q w'=>DP w w' base A n c ps q/\a<i/\i<=b/\k<=5) (λk _ _=>5-k) 0 (a+1) ps sO ⟨DP.start hD hn,by omega⟩ ?_;rintro k i0 q w1 ⟨H,hij⟩;refine ρ ?_;refine ci (λh=>?_) (λh=>?_);rotate_left
 ·refine ρ ?_;exact Jjq ⟨q,H,false,rfl⟩
 have hk:k<5:=by have:=of_decide_eq_true h;omega
 clear h;refine ρ ?_;refine Jqn (fun (i:Nat)=>[(0,.slice A n c),(1,.int .i64 (a:Int)),(2,.int .i64 (b:Int)),(3,.func (.func fid) first cap),(10,.int .i64 (k:Int)),(9,.int .i64 (i:Int))]) (λi w'=>DP w w' base A n c ps q/\i0<=i/\a<i/\i<=b) (λi=>b-i) i0 sO ⟨H,by omega⟩ ?_;rintro i wS ⟨HS,hA1⟩;refine ρ ?_;refine Jzl (fun (t:Bool)=>[(0,.slice A n c),(1,.int .i64 (a:Int)),(2,.int .i64 (b:Int)),(3,.func (.func fid) first cap),(10,.int .i64 (k:Int)),(9,.int .i64 (i:Int)),(36,.bool t)]) (λt w'=>DP w w' base A n c ps q/\(t=true->i<b)) ?_ ?_
 ·skip
  refine dr [(0,0),(0,1),(0,2),(0,3),(0,4),(0,5),(0,6),(0,7),(0,8),(0,9),(0,10),(0,11),(0,12),(0,13),(1,14),(0,15),(0,16),(0,17)] (by kernel_rfl) ?_;have HSd:=HS.drew;refine ρd ?_;refine dki 22 (λh=>?_) (λh=>?_)
  ·have hT:i<b:=by have:=of_decide_eq_true h;omega
   have lx:i<n:=by omega
   have ly:i-1<n:=by omega
   refine ρd ?_;refine dix (i) HSd.rd lx ?_;refine ρd ?_;refine dld (HSd.cell lx) ?_;refine ρd ?_;refine dix (i-1) HSd.rd ly ?_;refine ρd ?_;refine dld (HSd.cell ly) ?_;refine ρd ?_;refine Qxr (hC.call HSd lx ly) ?_;rintro r wHT ⟨bHT,rfl,hxHT⟩;refine ⟨hxHT,?_⟩;have HT:=HSd.ext hxHT;refine ρd ?_;refine ρ ?_;exact Jjn _ sB ⟨HT,λ_=>hT⟩
  ·refine ρd ?_;refine ρ ?_;exact Jjn false sB ⟨HSd,λe=>by cases e⟩
 rintro t wS2 ⟨HA1,hS2⟩;refine ci (λh=>?_) (λh=>?_)
 ·have:=hS2 h;refine ρ ?_;exact Jjt (i+1) sO ⟨HA1,by omega⟩ (by omega)
 clear hS2 HS h;refine ρ ?_;refine ci (λh=>?_) (λh=>?_)
 ·refine ρ ?_;exact Jjq ⟨q,HA1,true,rfl⟩
 have hib:i<b:=by have:=Jqh h;omega
 clear h;refine ρ ?_;refine ci (λh=>?_) (λh=>?_)
 ·refine ρ ?_;exact Jjq ⟨q,HA1,false,rfl⟩
 clear h;have lx:i<n:=by omega
 have ly:i-1<n:=by omega
 refine ρ ?_;refine drC 4 [0,1,2,3,4,5,6,7,10,11] [(0,8),(0,9),(0,12),(0,13),(0,14),(2,15),(2,16),(2,17)] (by kernel_rfl) ?_;have HA1d:=HA1.drew;obtain ⟨s1,s2,s3,⟨u,s4⟩,s5,s6⟩:=HA1d.swap lx ly;refine ρp ?_;refine dix (i-1) HA1d.rd ly ?_;refine ρd ?_;refine dld (HA1d.cell ly) ?_;refine ρd ?_;refine dix (i) HA1d.rd lx ?_;refine ρd ?_;refine dld (HA1d.cell lx) ?_;refine ρd ?_;refine dix (i) HA1d.rd lx ?_;refine ρd ?_;refine Jqz ?_;refine sto (HA1d.cell lx) s1 ?_ (hv:=HA1d.one ly);refine ρ ?_;refine Jxx ?_;refine Jqz ?_;refine ix (i-1) s2 ly ?_;refine ρ ?_;refine Jxx ?_;refine Jqz ?_;refine sto s4 s3 ?_ (hv:=HA1d.one lx);refine ρ ?_;have H5:=s5;clear s1 s2 s3 s4 s5 s6 u HA1d HA1 H;generalize swp z0 q i (i-1)=q5 at H5
 refine Jzl (fun (q:List Pr)=>[(0,.slice A n c),(1,.int .i64 (a:Int)),(2,.int .i64 (b:Int)),(3,.func (.func fid) first cap),(9,.int .i64 (i:Int)),(10,.int .i64 (k:Int))]) (λq w'=>DP w w' base A n c ps q) ?_ ?_
 ·refine ci (λh=>?_) (λh=>?_);rotate_left
  ·refine ρ ?_;exact Jjn _ sB H5
  refine ρ ?_;refine Jjv (fun (m:Nat) (q:List Pr)=>[(0,.slice A n c),(1,.int .i64 (a:Int)),(2,.int .i64 (b:Int)),(3,.func (.func fid) first cap),(9,.int .i64 (i:Int)),(10,.int .i64 (k:Int)),(11,.int .i64 (m:Int))]) (λm q w'=>DP w w' base A n c ps q/\m<n) (λm _=>m) (i-1) q5 sO ⟨H5,by omega⟩ ?_;rintro m q w2 ⟨H,hm⟩;refine ρ ?_;refine ci (λh=>?_) (λh=>?_);rotate_left
  ·refine ρ ?_;exact Jjn _ sB H
  have h1:1<=m:=by have:=of_decide_eq_true h;omega
  have lm:m-1<n:=by omega
  refine ρ ?_;refine dr [(0,0),(0,1),(0,2),(0,3),(0,4),(0,5),(0,6),(0,7),(0,8),(0,9),(1,10),(0,11),(0,12)] (by kernel_rfl) ?_;have Hd:=H.drew;refine ρd ?_;refine ρd ?_;refine dix (m) Hd.rd hm ?_;refine ρd ?_;refine dld (Hd.cell hm) ?_;refine ρd ?_;refine dix (m-1) Hd.rd lm ?_;refine ρd ?_;refine dld (Hd.cell lm) ?_;refine ρd ?_;refine Qxr (hC.call Hd hm lm) ?_;rintro r wHT ⟨bHT,rfl,hxHT⟩;refine ⟨hxHT,?_⟩;have HT:=Hd.ext hxHT;refine ρd ?_;refine ρ ?_;refine ci (λh=>?_) (λh=>?_)
  ·refine ρ ?_;exact Jjn _ sB HT
  refine ρ ?_;refine drC 4 [0,1,2,3,4,5,6,7,10,11] [(0,8),(0,9),(0,12),(0,13),(0,14),(2,15),(2,16),(2,17)] (by kernel_rfl) ?_;have HTd:=HT.drew;obtain ⟨s1,s2,s3,⟨u,s4⟩,s5,s6⟩:=HTd.swap hm lm;refine ρp ?_;refine dix (m-1) HTd.rd lm ?_;refine ρd ?_;refine dld (HTd.cell lm) ?_;refine ρd ?_;refine dix (m) HTd.rd hm ?_;refine ρd ?_;refine dld (HTd.cell hm) ?_;refine ρd ?_;refine dix (m) HTd.rd hm ?_;refine ρd ?_;refine Jqz ?_;refine sto (HTd.cell hm) s1 ?_ (hv:=HTd.one lm);refine ρ ?_;refine Jxx ?_;refine Jqz ?_;refine ix (m-1) s2 lm ?_;refine ρ ?_;refine Jxx ?_;refine Jqz ?_;refine sto s4 s3 ?_ (hv:=HTd.one hm);refine ρ ?_;exact Jjj (m-1) _ sO ⟨s5,by omega⟩ (by omega)
 clear H5 q5;rintro q5 w5 H5;refine ρ ?_;refine ci (λh=>?_) (λh=>?_);rotate_left
 ·refine ρ ?_;exact Jqf (k+1) i q5 sO ⟨H5,by omega⟩ (by omega)
 refine ρ ?_;refine Jjv (fun (m:Nat) (q:List Pr)=>[(0,.slice A n c),(1,.int .i64 (a:Int)),(2,.int .i64 (b:Int)),(3,.func (.func fid) first cap),(9,.int .i64 (i:Int)),(10,.int .i64 (k:Int)),(12,.int .i64 (m:Int))]) (λm q w'=>DP w w' base A n c ps q/\0<m/\m<=b) (λm _=>b-m) (i+1) q5 sO ⟨H5,by omega⟩ ?_;rintro m q w2 ⟨H,hm⟩;refine ρ ?_;refine ci (λh=>?_) (λh=>?_);rotate_left
 ·refine ρ ?_;exact Jqf (k+1) i q sO ⟨H,by omega⟩ (by omega)
 have h1:m<n:=by have:=of_decide_eq_true h;omega
 have h2:m<b:=by have:=of_decide_eq_true h;omega
 have lm:m-1<n:=by omega
 refine ρ ?_;refine dr [(0,0),(0,1),(0,2),(0,3),(0,4),(0,5),(0,6),(0,7),(0,8),(0,9),(1,10),(0,11),(0,12)] (by kernel_rfl) ?_;have Hd:=H.drew;refine ρd ?_;refine ρd ?_;refine dix (m) Hd.rd h1 ?_;refine ρd ?_;refine dld (Hd.cell h1) ?_;refine ρd ?_;refine dix (m-1) Hd.rd lm ?_;refine ρd ?_;refine dld (Hd.cell lm) ?_;refine ρd ?_;refine Qxr (hC.call Hd h1 lm) ?_;rintro r wHT ⟨bHT,rfl,hxHT⟩;refine ⟨hxHT,?_⟩;have HT:=Hd.ext hxHT;refine ρd ?_;refine ρ ?_;refine ci (λh=>?_) (λh=>?_)
 ·refine ρ ?_;exact Jqf (k+1) i q sO ⟨HT,by omega⟩ (by omega)
 refine ρ ?_;refine drC 4 [0,1,2,3,4,5,6,7,10,11] [(0,8),(0,9),(0,12),(0,13),(0,14),(2,15),(2,16),(2,17)] (by kernel_rfl) ?_;have HTd:=HT.drew;obtain ⟨s1,s2,s3,⟨u,s4⟩,s5,s6⟩:=HTd.swap h1 lm;refine ρp ?_;refine dix (m-1) HTd.rd lm ?_;refine ρd ?_;refine dld (HTd.cell lm) ?_;refine ρd ?_;refine dix (m) HTd.rd h1 ?_;refine ρd ?_;refine dld (HTd.cell h1) ?_;refine ρd ?_;refine dix (m) HTd.rd h1 ?_;refine ρd ?_;refine Jqz ?_;refine sto (HTd.cell h1) s1 ?_ (hv:=HTd.one lm);refine ρ ?_;refine Jxx ?_;refine Jqz ?_;refine ix (m-1) s2 lm ?_;refine ρ ?_;refine Jxx ?_;refine Jqz ?_;refine sto s4 s3 ?_ (hv:=HTd.one h1);refine ρ ?_;exact Jjj (m+1) _ sO ⟨s5,by omega⟩ (by omega)
open Go.RowKit Pl Go.Wk
theorem DP.same{w0 w w':World}{base:Nat}{A:Option Addr}{n c:Nat}{ps q:List Pr}(h:DP w0 w base A n c ps q)(k:DP w w' base A n c q q): DP w0 w' base A n c ps q:=h.after k
theorem DP.ins{w0 w w':World}{base:Nat}{A:Option Addr}{n c a b:Nat}{ps q q':List Pr}(h:DP w0 w base A n c ps q)(k1:Dat w' base (.slice A n c) q')(k2:Seg z0 a b q q')(k3:w.grownBy w' (Value.slice A n c).ownBlock): DP w0 w' base A n c ps q' :=
 ⟨k1,k2.perm.trans h.p,Jjw h.g k3,by rw [k2.len];exact h.l⟩
theorem Xzb: ∀ (m:Nat) {w:World} {base:Nat} {A:Option Addr} {n c:Nat} {fid:FuncId} {first cap:Array Value} {ps:List Pr} {ds:List Bool} (hD:Dat w base (.slice A n c) ps) (hn:ps.length=n) (hmx:n<=140737488355328) (hC:CF w (Value.slice A n c).ownBlock fid first cap ps ds) {a b:Nat} {ai bi lim:Int} (hai:ai=(a:Int)) (hbi:bi=(b:Int)) (hab:a<=b) (hb:b<=n) (hl:0<=lim/\lim<=64) (hm:b-a<=m),
  Ret Tryz.prog 150 [.slice A n c,.int .i64 ai,.int .i64 bi,.int .i64 lim,.func (.func fid) first cap] w λv w'=>∃ ps',DP w w' base A n c ps ps':=by
 intro m;induction m using Nat.strongRecOn with
 | ind m ih=>
 intro w base A n c fid first cap ps ds hD hn hmx hC a b ai bi lim hai hbi hab hb hl hm
 subst hai;subst hbi;refine Jjb Tryz.func150 Tryz.ntmps150 rfl (by kernel_rfl) rfl ?_;refine ρ ?_;refine Jpn (fun (ab:Nat×Nat) (lt:Int×Bool) (wp:Bool) (q:List Pr)=>[(0,.slice A n c),(1,.int .i64 (ab.1:Int)),(2,.int .i64 (ab.2:Int)),(3,.int .i64 lt.1),(4,.func (.func fid) first cap),(10,.bool lt.2),(11,.bool wp)])
  (λab lt wp q w'=>DP w w' base A n c ps q/\ab.1<=ab.2/\ab.2<=n/\ab.2-ab.1<=m/\0<=lt.1/\lt.1<=64) (λab _ _ _=>ab.2-ab.1) (a,b) (lim,true) true ps sB ⟨DP.start hD hn,by omega,by omega,by omega,by omega,by omega⟩ ?_
 clear hD hab hb hm;rintro ⟨a,b⟩ ⟨lim,wb⟩ wpt q w1 ⟨H,hab,hb,hm,hl0,hl1⟩;simp only at hab hb hm hl0 hl1;refine ρ ?_;refine ci (λh=>?_) (λh=>?_)
 ·refine ρ ?_;refine cl (Jds (ai:=(a:Int)) (bi:=(b:Int)) H.d H.l rfl rfl hb (by omega) hmx (hC.step H).pack) ?_;rintro v w2 ⟨q2,k1,k2,k3,k4⟩;refine ρ ?_;exact Xwm ⟨q2,H.ins k1 k2 k4⟩
 have hlen:a+12<b:=by have:=of_decide_eq_false h;omega
 clear h;refine ρ ?_;refine ci (λh=>?_) (λh=>?_)
 ·refine ρ ?_;refine cl (Qxl (a:=a) (b:=b) H.d H.l hmx (hC.step H) rfl rfl (by omega) hb) ?_;rintro v w2 ⟨q2,H2⟩;refine ρ ?_;exact Xwm ⟨q2,H.after H2⟩
 have hl2:lim≠0:=Jqh h;clear h;refine ρ ?_;refine Jlc (fun (lim:Int) (q:List Pr)=>[(0,.slice A n c),(1,.int .i64 (a:Int)),(2,.int .i64 (b:Int)),(3,.int .i64 lim),(4,.func (.func fid) first cap),(10,.bool wb),(11,.bool wpt),(12,.int .i64 ((b:Int)-(a:Int)))]) (λlim q w'=>DP w w' base A n c ps q/\0<=lim/\lim<=64) ?_ ?_
 ·refine ci (λh=>?_) (λh=>?_)
  ·refine ρ ?_;refine cl (Qnl (a:=a) (b:=b) H.d H.l hmx (hC.step H) rfl rfl hlen hb) ?_;rintro v w2 ⟨q2,H2⟩;refine ρ ?_;exact Jkd (lim-1) q2 sB ⟨H.after H2,by omega,by omega⟩
  ·refine ρ ?_;exact Jkd lim q sB ⟨H,by omega,by omega⟩
 clear H hl0 hl1 hl2 lim q;rintro lim q w2 ⟨H,hl0,hl1⟩;refine ρ ?_;refine cl (Qfj (a:=a) (b:=b) H.d H.l hmx (hC.step H) rfl rfl hlen hb) ?_;rintro v w3 ⟨pv,hint,rfl,hp0,hp1,H2⟩;have H3:=H.same H2;clear H H2;refine ρ ?_;refine Qts (fun (pv:Nat) (hint:Int) (q:List Pr)=>[(0,.slice A n c),(1,.int .i64 (a:Int)),(2,.int .i64 (b:Int)),(3,.int .i64 lim),(4,.func (.func fid) first cap),(10,.bool wb),(11,.bool wpt),(12,.int .i64 ((b:Int)-(a:Int))),(13,.int .i64 (pv:Int)),(14,.int .i64 hint)]) (λpv hint q w'=>DP w w' base A n c ps q/\a<=pv/\pv<b) ?_ ?_
 ·refine ci (λh=>?_) (λh=>?_)
  ·refine ρ ?_;refine cl (Qkh (a:=a) (b:=b) H3.d H3.l hmx (hC.step H3) rfl rfl (by omega) hb) ?_;rintro v w2 ⟨q2,H2⟩;refine ρ ?_;exact Qvx (b-1-(pv-a)) 1 q2 sO ⟨H3.after H2,by omega,by omega⟩
  ·refine ρ ?_;exact Qvx pv hint q sB ⟨H3,hp0,hp1⟩
 clear H3 hp0 hp1 pv hint q;rintro pv hint q w3 ⟨H,hp0,hp1⟩;refine ρ ?_;refine Jzm (fun (t:Bool)=>[(0,.slice A n c),(1,.int .i64 (a:Int)),(2,.int .i64 (b:Int)),(3,.int .i64 lim),(4,.func (.func fid) first cap),(10,.bool wb),(11,.bool wpt),(12,.int .i64 ((b:Int)-(a:Int))),(13,.int .i64 (pv:Int)),(75,.bool t)]) (λt w'=>DP w w' base A n c ps q) ?_ ?_
 ·refine ki 69 (λh=>?_) (λh=>?_)
  ·refine ρ ?_;refine ki 72 (λh=>?_) (λh=>?_)
   ·refine ρ ?_;exact Jjn _ sB H
   ·refine ρ ?_;exact Jjn _ sB H
  ·refine ρ ?_;exact Jjn _ sB H
 clear H;rintro t w4 H;refine Jzl (fun (q:List Pr)=>[(0,.slice A n c),(1,.int .i64 (a:Int)),(2,.int .i64 (b:Int)),(3,.int .i64 lim),(4,.func (.func fid) first cap),(10,.bool wb),(11,.bool wpt),(12,.int .i64 ((b:Int)-(a:Int))),(13,.int .i64 (pv:Int))]) (λq w'=>DP w w' base A n c ps q) ?_ ?_
 ·refine ci (λh=>?_) (λh=>?_)
  ·refine ρ ?_;refine cl (Qkl (a:=a) (b:=b) H.d H.l hmx (hC.step H) rfl rfl (by omega) hb) ?_;rintro v w2 ⟨q2,H2,t2,rfl⟩;refine ρ ?_;refine ci (λh=>?_) (λh=>?_)
   ·refine ρ ?_;exact Xwm ⟨q2,H.after H2⟩
   ·refine ρ ?_;exact Jjn _ sB (H.after H2)
  ·refine ρ ?_;exact Jjn _ sB H
 clear H q;rintro q w5 H;refine ρ ?_;refine Jzl (fun (t:Bool)=>[(0,.slice A n c),(1,.int .i64 (a:Int)),(2,.int .i64 (b:Int)),(3,.int .i64 lim),(4,.func (.func fid) first cap),(10,.bool wb),(11,.bool wpt),(12,.int .i64 ((b:Int)-(a:Int))),(13,.int .i64 (pv:Int)),(97,.bool t)]) (λt w'=>DP w w' base A n c ps q) ?_ ?_
 ·skip
  refine dr [(0,0),(0,1),(0,2),(0,3),(0,4),(0,5),(0,6),(0,7),(0,8),(0,9),(0,10),(0,11),(0,12),(1,13),(0,14),(0,15),(0,16)] (by kernel_rfl) ?_;have Hd:=H.drew;refine ρd ?_;refine dki 83 (λh=>?_) (λh=>?_)
  ·have hT:0<a:=by have:=of_decide_eq_true h;omega
   have lx:a-1<n:=by omega
   have ly:pv<n:=by omega
   refine ρd ?_;refine dix (a-1) Hd.rd lx ?_;refine ρd ?_;refine dld (Hd.cell lx) ?_;refine ρd ?_;refine dix (pv) Hd.rd ly ?_;refine ρd ?_;refine dld (Hd.cell ly) ?_;refine ρd ?_;refine Qxr (hC.call Hd lx ly) ?_;rintro r wHT ⟨bHT,rfl,hxHT⟩;refine ⟨hxHT,?_⟩;have HT:=Hd.ext hxHT;refine ρd ?_;refine ρ ?_;exact Jjn _ sB HT
  ·refine ρd ?_;refine ρ ?_;exact Jjn false sB Hd
 clear H;rintro t2 w6 H;refine ci (λh=>?_) (λh=>?_)
 ·refine ρ ?_;refine cl (Qcx (a:=a) (b:=b) (pv:=pv) H.d H.l hmx (hC.step H) rfl rfl rfl (by omega) hb hp0 hp1) ?_;rintro v w2 ⟨q2,H2,mid,rfl,hm0,hm1⟩;refine ρ ?_;exact Jvx (mid,b) (lim,wb) wpt q2 sB ⟨H.after H2,by simp only;omega,by simp only;omega,by simp only;omega,by simp only;omega,by simp only;omega⟩ (by simp only;omega)
 refine ρ ?_;refine cl (Qrn (a:=a) (b:=b) (pv:=pv) H.d H.l hmx (hC.step H) rfl rfl rfl (by omega) hb hp0 hp1) ?_;rintro v w7 ⟨q2,H2,mid,al2,rfl,hm0,hm1⟩;have H3:=H.after H2;clear H H2;refine ρ ?_;refine qn (b-a) 8 ?_;refine ρ ?_;refine ci (λh=>?_) (λh=>?_)
 ·refine ρ ?_;refine cl (ih (mid-a) (by omega) H3.d H3.l hmx (hC.step H3) (a:=a) (b:=mid) rfl rfl (by omega) (by omega) ⟨hl0,hl1⟩ (Nat.le_refl _)) ?_;rintro v w8 ⟨q3,H4⟩;refine ρ ?_;exact Jvx (mid+1,b) (lim,_) al2 q3 sO ⟨H3.after H4,by simp only;omega,by simp only;omega,by simp only;omega,by simp only;omega,by simp only;omega⟩ (by simp only;omega)
 ·refine ρ ?_;refine cl (ih (b-(mid+1)) (by omega) H3.d H3.l hmx (hC.step H3) (a:=mid+1) (b:=b) (ai:=(mid:Int)+1) (by omega) rfl (by omega) (by omega) ⟨hl0,hl1⟩ (Nat.le_refl _)) ?_;rintro v w8 ⟨q3,H4⟩;refine ρ ?_;exact Jvx (a,mid) (lim,_) al2 q3 sO ⟨H3.after H4,by simp only;omega,by simp only;omega,by simp only;omega,by simp only;omega,by simp only;omega⟩ (by simp only;omega)
end Go.Proofs.YtefpailelagbkaaGreatDoor
