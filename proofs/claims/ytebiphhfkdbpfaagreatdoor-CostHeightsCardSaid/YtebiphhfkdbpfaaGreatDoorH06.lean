/- Part 6. -/
import Derived.Test.YtebiphhfkdbpfaaGreatDoorH05
import Derived.ProofKit
import Derived.OpenShut
import Derived.ShutString
import Derived.ChangeOld
import Derived.Deep.Slices
import Derived.Deep.Fields
import Derived.Test.YtebiphhfkdbpfaaGreatDoorRows
import Derived.LaidSub
import Derived.Lib.LaidTab
set_option linter.unusedVariables false
set_option maxRecDepth 100000
set_option maxHeartbeats 40000000
namespace Go.Wk
open Go.RowKit
variable {d n ty v:Nat}
theorem sl32q{P:Program}{al:AL}{w:World}{Q:Exit->Act->World->Prop}{ops:Array Oper}{rest:List Oper}{pos:String}{aft:Array Edge}{y:Operand}{t yt:TypeId}{k2:IntKind}(hv:v<32)(kk:WL P n ops Q rest ((d,.int .u32 ((2^v:Nat):Int))::al) w)(hy:ev al y=some (.int k2 (v:Int)):=by rfl)(hd:Nat.blt d n=true:=by rfl):
  WL P n ops Q (⟨some d,.binOp .shl t (.const (.int .u32 1)) y yt,ty,pos,aft,none⟩::rest) al w:=by
 rw[<-Jqx hv]at kk;exact wop hd (λa i=>Jjf (x:=.const (.int .u32 1)) rfl hy om i (some d) w) kk
end Go.Wk
namespace Go.Proofs.YtebiphhfkdbpfaaGreatDoor
open Go.RowKit Pl Go.Wk Bl
attribute [local irreducible] WC WL QX WD WDB WP WN WG WH
theorem Jht: ∀(q r:Nat),r<32->Jj (2^(32*q+r))=List.replicate q 0++[UInt32.ofNat (2^r)]
 | 0,r,hr=>by
  have h1:2^r<4294967296:=nM (Nat.pow_lt_pow_right (by decide) hr) (by decide);rw[Nat.mul_zero,Nat.zero_add,Jyb (Nat.pos_iff_ne_zero.1 (Nat.two_pow_pos r)) h1];rfl
 | q+1,r,hr=>by
  have e:2^(32*(q+1)+r)=4294967296*2^(32*q+r):=by
   rw[show 32*(q+1)+r=32+(32*q+r) by omega,Nat.pow_add]
  have ih:=Jht q r hr;have h0:=Nat.two_pow_pos (32*q+r);rw[e];have:=Jhs (c:=0) (m:=2^(32*q+r)) (by show 0+4294967296*_≠0;omega);rw[show(0:UInt32).toNat+4294967296*2^(32*q+r)=4294967296*2^(32*q+r) by show 0+_=_;omega]at this;rw[this,ih];rfl
theorem Qfm{i:Nat}(hi:i<=31000)(w:World): Ret Tryz.prog 112 [.int .i64 (i:Int)] w λu w'=>NatV w' u (2^i)/\Ext w w':=by
 refine Jz Tryz.func112 Tryz.ntmps112 rfl kr rfl ?_;have eq:IntKind.i64.wrap ((i:Int).tdiv 32)=((i / 32:Nat):Int):=by
  rw[show(i:Int).tdiv 32=((i / 32:Nat):Int) from rfl,Zl om]
 have er:(i:Int).tmod 32=((i % 32:Nat):Int):=rfl;refine ρ ?_;refine Kk rfl rfl (by decide) rfl ?_;rw[eq];refine ρ ?_;refine mkn EN (i / 32+1) om (by unfold maxLen;omega) ?_;intro w1 O G a1 hO;have j:Xk w1 w.heap.size (.slice O (i / 32+1) (i / 32+1)) (List.replicate (i / 32+1) 0):=by
  have e:(madeCells (Value.int .u32 0).cells ((i / 32+1)*1)).toList=Nc (List.replicate (i / 32+1) 0):=by rw[Nat.mul_one,<-Jkl];exact Yv _ _
  grind
 refine ρ ?_;refine Kk rfl rfl (by decide) rfl ?_;rw[eq];refine ρ ?_;refine wrem rfl rfl (by decide) rfl ?_;rw[er];refine sl32q (v:=i % 32) (Nat.mod_lt _ (by decide)) ?_;refine ρ ?_;rw[Xk,List.length_replicate]at j;refine ix (i / 32) (Rd.own j) om ?_;refine ρ ?_;obtain⟨s1,Z,D,U,s5⟩:=Zk j (q:=i / 32) om (.int .u32 ((UInt32.ofNat (2^(i % 32))).toNat:Int));have hp:2^(i % 32)<4294967296:=nM (Nat.pow_lt_pow_right (by decide) (Nat.mod_lt i (by decide:32 > 0))) (by decide);have ep:((UInt32.ofNat (2^(i % 32))).toNat:Int)=((2^(i % 32):Nat):Int):=by rw[UInt32.toNat_ofNat',Nat.mod_eq_of_lt (show 2^(i % 32)<2^32 from hp)]
 refine Go.Wk.kv 13 (u:=.int .u32 ((UInt32.ofNat (2^(i % 32))).toNat:Int)) (congrArg (Value.int .u32) ep.symm) ?_;refine sto (s1.trans (Qh (by simp))) Z ?_;rw[Kj]at D;have B:Jj (2^i)=(List.replicate (i / 32+1) 0).set (i / 32) (UInt32.ofNat (2^(i % 32))):=by
  have J:=Jht (i / 32) (i % 32) (Nat.mod_lt _ (by decide));rw[Nat.div_add_mod]at J;rw[J,List.replicate_succ',List.set_append_right _ _ (by simp)];simp
 have y:(Jj (2^i)).length=i / 32+1:=by rw[B];simp
 rw[<-B,<-y]at D;refine ρ ?_;refine Jq ⟨⟨O,i / 32+1,by rw[y],om,om,?_⟩,G.setCell U _⟩;rw[<-y]at *;exact Rd.own D
open Go.RowKit Pl Go.Wk Bl Nw
def Jqh(K:Nat): Prop:=∀ {v u:Value} {a b:Nat} {w:World},NatV w v a->NatV w u b->a<2^K->b<2^K->0<b->Ret Tryz.prog 102 [v,u] w λr w'=>(∃ x y,r=.tuple #[x,y,.int .i64 0]/\NatX (Ol w) w' x (a / b)/\NatX (Ol w) w' y (a % b))/\Ext w w'
theorem Jmv: Jqh 32:=λi j y u h0=>Ks i j (Vw y (by decide)) h0 u
theorem Qzz{v:Value}{p n K:Nat}{w:World}(hv:NatV w v p)(hn:2<=n)(hn64:n<=64)(hp:1<p)(hK:K<=29000)(hK6:7<=K)(hpK:p<2^K)(hx0:(2^((Jk p+n-1) / n))^(n-1)<2^K)(hdiv:Jqh K): Ret Tryz.prog 111 [v,.int .i64 (n:Int)] w λu w'=>(∃ r,NatV w' u r/\Ib p n r)/\Ext w w':=by
 have av:Jk p<=K:=Jhv hpK;have b2:1<=Jk p:=(Ua (x:=p) om).1;have ba:(Jk p+n-1) / n<=K:=by
  refine nL (Nat.div_le_of_le_mul (m:=Jk p+n-1) (k:=n) (n:=Jk p) ?_) av;obtain⟨l,hl⟩:∃ l,Jk p=l+1:=⟨Jk p-1,om⟩;rw[hl,Nat.mul_succ];have:l<=n*l:=Nat.le_mul_of_pos_left l om;omega
 have aj:p<(2^((Jk p+n-1) / n))^n:=by
  refine nM Yy ?_;rw[<-Nat.pow_mul];refine Nat.pow_le_pow_right (by decide) ?_;have:=Nat.div_add_mod (Jk p+n-1) n;have h2:=Nat.mod_lt (Jk p+n-1) (show n > 0 by omega);rw[Nat.mul_comm];omega
 generalize O:(Jk p+n-1) / n=c at *
 refine Jz Tryz.func111 Tryz.ntmps111 rfl kr rfl ?_;refine ρ ?_;refine cl (Vm hv (Vw hpK om)) ?_;rintro _ w1 ⟨rfl,rfl⟩;have eq:IntKind.i64.wrap (((Jk p:Int)+(n:Int)-1).tdiv (n:Int))=(c:Int):=by
  rw[show(Jk p:Int)+(n:Int)-1=((Jk p+n-1:Nat):Int) by omega,show(((Jk p+n-1:Nat):Int)).tdiv (n:Int)=(((Jk p+n-1) / n:Nat):Int) from rfl,O,Zl om]
 refine ρ ?_;refine Kk rfl rfl om rfl ?_;rw[eq];refine ρ ?_;refine cl (Qfm (i:=c) om _) ?_;rintro x0 w2 ⟨ay,ai⟩;have b9:=Vw hpK om;refine ρ ?_;refine Qq (fun (x:Nat) (xv:Value)=>[(0,v),(1,.int .i64 (n:Int)),(5,xv)]) (λx xv w'=>Ext w1 w'/\NatV w' xv x/\0<x/\x<=2^c/\p<(x+1)^n) (λx _=>x) (2^c) x0 sB ⟨ai,ay,Nat.two_pow_pos c,Nat.le_refl _,Nat.lt_of_lt_of_le aj (Nat.pow_le_pow_left (Nat.le_succ _) n)⟩ ?_;rintro x xv w3 ⟨ah,hX,U,af,ap⟩;have a4:∀ k,k<=n-1->x^k<2^K:=λk hk=>nN (nL (Nat.pow_le_pow_left af k) (Nat.pow_le_pow_right (Nat.two_pow_pos c) hk)) hx0;have a6:x<2^K:=by have:=a4 1 om;rwa [Nat.pow_one]at this
 have ac:=Vw a6 om;refine ρ ?_;refine cl (Xb 1 (by decide) _) ?_;rintro o w4 ⟨ho,a1⟩;have a8:=ah.trans a1;have aa:((n:Int)-1)=((n-1:Nat):Int):=om
 refine ρ ?_;rw[aa];refine Qq (fun (i:Nat) (bv:Value)=>[(0,v),(1,.int .i64 (n:Int)),(5,xv),(6,bv),(24,.int .i64 ((n-1:Nat):Int)),(25,.int .i64 (i:Int))]) (λi bv w'=>i<=n-1/\Ext w4 w'/\NatV w' bv (x^i)) (λi _=>n-1-i) 0 o sB ⟨Nat.zero_le _,Ext.refl _,by rw[Nat.pow_zero];exact ho.1⟩ ?_;rintro i bv w5 ⟨hi,D,hb⟩;refine ρ ?_;refine ci (λO=>?_) (λO=>?_)
 .have ad:i<n-1:=by have:=oT O;omega
  clear O;refine ρ ?_;refine cl (Za hb (hX.ext (a1.trans D)) (Vw (a4 i hi) om) ac) ?_;rintro b6 w6 ⟨ae,_,y⟩;rw[<-Nat.pow_succ]at ae;refine ρ ?_;exact Ja (i+1) b6 sO ⟨om,D.trans y,ae⟩ om
 have aw:i=n-1:=by have:=oF O;omega
 subst aw;clear O hi;have G:=a8.trans D;refine ρ ?_;refine cl (hdiv (hv.ext G) hb hpK (a4 _ (Nat.le_refl _)) (Nat.pow_pos U)) ?_;rintro _ w6 ⟨⟨qv,rv,rfl,hq,hr⟩,y⟩;have bb:n-1<64:=om
 have an:(n-1)*x<2^(K+6):=by
  rw[Nat.pow_add,Nat.mul_comm];exact nN (Nat.mul_le_mul_left x (show n-1<=2^6 by omega)) (Nat.mul_lt_mul_of_pos_right a6 (by decide))
 have ao:p / x^(n-1)<2^K:=nN (Nat.div_le_self _ _) hpK;have am:(n-1)*x+p / x^(n-1)<2^(K+7):=by
  have:2^(K+7)=2^(K+6)+2^(K+6):=by rw[show K+7=K+6+1 by omega,Nat.pow_succ];omega
  have h2:2^K<=2^(K+6):=Nat.pow_le_pow_right (by decide) om;omega
 refine ρ ?_;rw[aa,Vo (z:=((n-1:Nat):Int)) om];refine cl (Xb (n-1) om _) ?_;rintro m7 w7 ⟨au,Z⟩;have az:=G.trans (y.trans Z);refine ρ ?_;refine cl (Za au.1 (hX.ext (a1.trans (D.trans (y.trans Z)))) (by have:=Qk (n:=n-1) om;omega) ac) ?_;rintro m8 w8 ⟨ar,_,a7⟩;refine ρ ?_;refine cl (Qkm ar ((hq.ext Z).ext a7).1 (Vw an om) (Vw ao om)) ?_;rintro m9 w9 ⟨aq,ag⟩;refine ρ ?_;rw[Vo (z:=(n:Int)) om];refine cl (Xb n om _) ?_;rintro b8 b5 ⟨ab,a2⟩;refine ρ ?_;refine cl (Ks (aq.ext a2) ab.1 (Vw am om) om om) ?_;rintro _ b4 ⟨⟨nv,b7,rfl,a5,b1⟩,a9⟩;have B:=Z.trans (a7.trans (ag.trans (a2.trans a9)));have J:=G.trans (y.trans B);have a3:=hX.ext (a1.trans (D.trans (y.trans B)));have ak:((n-1)*x+p / x^(n-1)) / n=Nw.step p n x:=rfl;rw[ak]at a5;refine ρ ?_;refine cl (Jzb a5.1 a3) ?_
 rintro _ b3 ⟨rfl,j⟩;refine ρ ?_;refine ci (λO=>?_) (λO=>?_)
 .have ax:x<=Nw.step p n x:=by
   have:=oT O;unfold Vc at this;split at this
   .omega
   omega
  refine ρ ?_;exact Jq ⟨⟨x,a3.ext j,Jtn om U ax,ap⟩,J.trans j⟩
 have ad:Nw.step p n x<x:=by
  have:=oF O;unfold Vc at this;split at this
  .assumption
  split at this<;>omega
 refine ρ ?_;exact Ja (Nw.step p n x) nv sB ⟨J.trans j,(a5.ext j).1,Jtp om om U,om,Jdk om U⟩ ad
open Go.RowKit Pl Go.Wk Bl Nw
variable {K n p sc:Nat}{P1 Q1 Q2 SA:Option Addr}{v vW:Value}{w:World}
theorem Qjt(hv:NatV w v p)(hn:1<=n)(hn64:n<=64)(hK:K<=29000)(hK6:7<=K)(hL:Jk p+n<=K)(hdiv:Jqh K): Ret Tryz.prog 58 [v,.int .i64 (n:Int)] w λu w'=>(∃ r,NatV w' u r/\Ib p n r)/\Ext w w':=by
 have D:p<2^K:=nM Yy (Nat.pow_le_pow_right (by decide) om);have y:=Vw D om;have O:=Yy (x:=p);refine Jz Tryz.func58 Tryz.ntmps58 rfl kr rfl ?_;refine ρ ?_;refine cl (Vm hv y) ?_;rintro _ w1 ⟨rfl,rfl⟩;refine ρ ?_;by_cases h1:Jk p<=1
 .have a1:p<=1:=by
   have:2^Jk p<=2^1:=Nat.pow_le_pow_right (by decide) h1;omega
  refine kt 14 ?_ ?_
  .exact decide_eq_true om
  refine ρ ?_;refine cl (Jhb hv y) ?_;rintro u w2 ⟨B,i⟩;refine ρ ?_;refine Jq ⟨⟨p,B,?_⟩,i⟩;rcases(show p=0∨p=1 by omega) with rfl|rfl
  .exact⟨by rw[Nat.zero_pow om];exact Nat.le_refl _,by rw[Nat.zero_add,Nat.one_pow];decide⟩
  exact⟨by rw[Nat.one_pow];exact Nat.le_refl _,Nat.lt_of_lt_of_le (show 1<(1+1)^1 by decide) (Nat.pow_le_pow_right (by decide) hn)⟩
 refine kf 14 ?_ ?_
 .exact dF om
 refine ρ ?_;refine ci (λj=>?_) (λj=>?_)
 .have J:n=1:=by have:=eq_of_beq j;omega
  subst J;refine ρ ?_;refine cl (Jhb hv y) ?_;rintro u w2 ⟨B,i⟩;refine ρ ?_;exact Jq ⟨⟨p,B,by rw[Nat.pow_one];exact Nat.le_refl _,by rw[Nat.pow_one];omega⟩,i⟩
 have a2:n≠1:=λe=>by rw[e]at j;revert j;decide
 have Z:2<=p:=by
  rcases(show p=0∨p=1∨2<=p by omega) with rfl|rfl|h
  .exact absurd (show Jk 0<=1 by decide) h1
  .exact absurd (show Jk 1<=1 by decide) h1
  exact h
 clear j;refine ρ ?_;refine ci (λj=>?_) (λj=>?_)
 .have G:Jk p<=n:=by have:=oT j;omega
  refine ρ ?_;refine cl (Xb 1 (by decide) _) ?_;rintro o w2 ⟨ho,i⟩;refine ρ ?_;exact Jq ⟨⟨1,ho.1,by rw[Nat.one_pow];omega,Nat.lt_of_lt_of_le O (Nat.pow_le_pow_right (by decide) G)⟩,i⟩
 clear j;refine ρ ?_;refine ci (λj=>?_) (λj=>?_)
 .refine ρ ?_;refine cl (Qzz hv om hn64 om hK hK6 D ?_ hdiv) ?_
  .rw[<-Nat.pow_mul];refine Nat.pow_lt_pow_right (by decide) ?_;have h3:=Nat.div_mul_le_self (Jk p+n-1) n;have h4:(Jk p+n-1) / n*(n-1)<=(Jk p+n-1) / n*n:=Nat.mul_le_mul_left _ om;omega
  rintro u w2 ⟨⟨r,B,U⟩,i⟩;refine ρ ?_;exact Jq ⟨⟨r,B,U⟩,i⟩
 exfalso
 have:=oF j;omega
theorem Qdq{b:Bool}{P2 P3 m1 c1 m2 c2 K2:Nat}{ws:List PR}{sizes:List Nat}(hW:GX 3 RtC Nn w vW ws)(hS:Rd w 1 SA sizes.length (Jl (nz sizes)))(hn:∀ q∈ws,0<=q.sign/\q.num<18446744073709551616)(hd:∀ i,i<=ws.length->dnK ws i<4294967296)(hq:∀ q∈ws,q.num<18446744073709551616/\q.den<4294967296/\0<q.norm.den/\q.norm.den<4294967296)(hd1:1<=dnm ws)(hd64:dnm ws<=64)(ho:PrOk ws sizes (dnm ws) K)(hK:K2<=29000)(hK6:7<=K2)(hL:Jk (Yx ws sizes (dnm ws))+dnm ws<=K2)(hdiv:Jqh K2):
  Ret Tryz.prog 24 [.agg #[vW,.slice P1 P2 P3,.bool b,.slice Q1 m1 c1,.slice Q2 m2 c2],.slice SA sizes.length sc] w λu w'=>(∃ v r,u=.tuple #[v,.int .i64 0]/\NatV w' v r/\Ib (Yx ws sizes (dnm ws)) (dnm ws) r)/\Ext w w':=by
 obtain⟨W1,W2,_,rfl,_,a4,a6,_,a7⟩:=id hW.el;refine Jz Tryz.func24 Tryz.ntmps24 rfl kr rfl ?_;refine ρ ?_;refine bx (cs:=[.slice W1 ws.length W2,.slice P1 P2 P3,.bool b,.slice Q1 m1 c1,.slice Q2 m2 c2]) ?_;intro w1 b1 G a5 J;refine ρ ?_;refine lds (cs:=[.slice W1 ws.length W2,.slice P1 P2 P3,.bool b,.slice Q1 m1 c1,.slice Q2 m2 c2]) (λj u hu=>J.at hu) ?_;refine ρ ?_;refine cl (Qdg (hW.ext RtC.sta (by decide) G) (hS.ext G) ho.len hn) ?_;rintro _ w2 ⟨rfl,D⟩;refine ρ ?_;refine ld ((J.ext D).at (i:=0) rfl) ?_;have B:=G.trans D;refine ρ ?_;refine cl (Qbp (hW.ext RtC.sta (by decide) B) hd hq) ?_;rintro dv w3 ⟨U,O⟩;refine ρ ?_;refine cl (Jmk U.1 om) ?_;rintro _ w4 ⟨rfl,rfl⟩;refine ρ ?_;refine ld (((J.ext D).ext O).at (i:=0) rfl) ?_;have y:=B.trans O;refine ρ ?_;refine cl (Qqs (hW.ext RtC.sta (by decide) y) U (hS.ext y) ho) ?_;rintro _ w5 ⟨⟨pv,rfl,a2⟩,a1⟩
 refine ρ ?_;refine cl (Qjt a2.1 hd1 hd64 hK hK6 hL hdiv) ?_;rintro rv w6 ⟨⟨r,hr,a3⟩,Z⟩;refine ρ ?_;exact Qs ⟨⟨_,r,rfl,hr,a3⟩,y.trans (a1.trans Z)⟩
open Go.RowKit Pl Go.Wk Bl Nw
abbrev hlf: PR:=⟨false,1,2⟩
theorem Jst: cvr 216 3 [3,6,5] 7=some ⟨[hlf,hlf,hlf],[hlf,hlf,hlf],⟨false,3,2⟩⟩:=by decide +kernel
theorem Io: dnm [hlf,hlf,hlf]=2:=by decide +kernel
theorem Jdd: Yx [hlf,hlf,hlf] [4,4,4] 2=64:=by decide +kernel
theorem Jdf: Covd 3 [3,6,5] 7:=by
 intro v i _;rcases(show v=0∨v=1∨v=2 by omega) with rfl|rfl|rfl
 .exact⟨0,by decide,by decide⟩
 .exact⟨0,by decide,by decide⟩
 exact⟨1,by decide,by decide⟩
theorem Qvj: EOk hlf 2:=⟨by decide,by decide,by decide,by decide +kernel,by decide +kernel,by decide +kernel,by decide +kernel,by decide +kernel,by decide +kernel⟩
theorem Jss: PrOk [hlf,hlf,hlf] [4,4,4] 2 32:=by
 refine⟨by decide,rfl,λq u=>?_,λs j=>?_,λi hi=>?_,λi y B=>?_⟩
 .simp only[List.mem_cons,List.not_mem_nil,or_false,or_self]at u;rw[u];exact Qvj
 .simp only[List.mem_cons,List.not_mem_nil,or_false,or_self]at j;rw[j];decide
 .have hi:i<=3:=hi;rcases(show i=0∨i=1∨i=2∨i=3 by omega) with rfl|rfl|rfl|rfl<;>decide +kernel
 have y:i<3:=y;have e:4^Yo hlf 2<2^32:=by decide +kernel
 rcases(show i=0∨i=1∨i=2 by omega) with rfl|rfl|rfl<;>exact e
open Go.RowKit Pl Go.Wk Bl Nw
variable {ad:Addr}{pr:Int->Bool}{zs:List Int}{cs us:List Value}{b base c e k m n t:Nat}{r:Nat->Nat}{A B SA W:Option Addr}{fv u v:Value}{w w' w0:World}
def Jbt(w:World)(fv:Value)(pr:Int->Bool): Prop:=∃ fid first cap,fv=.func (.func fid) first cap /\
 ∀ w',Ext w w'->∀ x,Ret Tryz.prog fid (first.toList++[.int .i64 x]++cap.toList) w' λr w''=>r=.bool (pr x)/\Ext w' w''
theorem Qvc(h:IntsV w v zs)(hT:Jbt w fv pr):
  Ret Tryz.prog 87 [v,fv] w λx w'=>(∃ k:Int,x=.int .i64 k/\(0<=k↔zs.any pr=true))/\Ext w w':=by
 obtain⟨A,c,rfl,hc,hl,O⟩:=h;obtain⟨G,first,J,rfl,hT⟩:=hT;refine Jz Tryz.func87 Tryz.ntmps87 rfl kr rfl ?_;refine ρ ?_;refine Jp (fun (k:Nat)=>[(0,.slice A zs.length c),(1,.func (.func G) first J),(7,.int .i64 (zs.length:Int)),(8,.int .i64 (k:Int))])
  (λk w'=>k<=zs.length/\(∀ j,j<k->pr (zs.getD j 0)=false)/\Ext w w') (λk=>zs.length-k) 0 sB ⟨Nat.zero_le _,λj hj=>om,Ext.refl w⟩ ?_
 rintro k w1 ⟨hk,U,u⟩;refine ρ ?_;refine ci (λh=>?_) (λh=>?_)
 .have y:k<zs.length:=by have:=oT h;omega
  refine ρ ?_;refine ix k (O.ext u) y ?_;refine ρ ?_;refine ld ((O.ext u).cell (Ze y)) ?_;refine ρ ?_;refine clv (hT _ u (zs.getD k 0)) ?_;rintro r w2 ⟨rfl,B⟩;refine ρ ?_;refine ci (λh=>?_) (λh=>?_)
  .refine ρ ?_;refine Jq ⟨⟨k,rfl,?_⟩,u.trans B⟩;refine⟨λ_=>List.any_eq_true.2 ⟨_,getD_mem' 0 zs y,h⟩,λ_=>om⟩
  refine ρ ?_;refine Jh (k+1) sB ⟨om,λj hj=>?_,u.trans B⟩ om;by_cases e:j=k
  .rw[e];exact h
  exact U j om
 have a1:k=zs.length:=by have:=oF h;omega
 refine ρ ?_;refine Jq ⟨⟨-1,rfl,?_⟩,u⟩;refine⟨λh=>om,λh=>?_⟩;obtain⟨x,Z,D⟩:=List.any_eq_true.1 h;obtain⟨i,hi,rfl⟩:=List.getElem_of_mem Z;have:=U i om;rw[List.getD,List.getElem?_eq_getElem hi,Option.getD_some,D]at this;cases this
theorem Qcf(h:IntsV w v zs)(hT:Jbt w fv pr):
  Ret Tryz.prog 47 [v,fv] w λx w'=>x=.bool (zs.any pr)/\Ext w w':=by
 refine Jz Tryz.func47 Tryz.ntmps47 rfl kr rfl ?_;refine ρ ?_;refine cl (Qvc h hT) ?_;rintro x w1 ⟨⟨k,rfl,j⟩,i⟩;refine ρ ?_;refine Jq ⟨?_,i⟩;rw[show decide (0<=k)=zs.any pr by rw[Bool.eq_iff_iff,decide_eq_true_iff,j]]
theorem Qkd(z:Int)(w:World): Ret Tryz.prog 48 [.int .i64 z] w λu w'=>u=.bool (decide (z<0))/\Ext w w':=by
 refine Jz Tryz.func48 Tryz.ntmps48 rfl kr rfl ?_;refine ρ ?_;exact Jq ⟨rfl,Ext.refl _⟩
theorem Qkf(w:World): Jbt w (.func (.func 48) #[] #[]) λz=>decide (z<0):=⟨_,_,_,rfl,λw' _ x=>Qkd x w'⟩
structure BagB(n:Nat)(es sizes:List Nat)(set r:Nat): Prop where
 lt:set<2^n
 ne:set≠0
 cov:Covd n es set
 bnd:∃ fuel pc K K2,((Jv n set).length+(Jd es set es.length).length)^(Jd es set es.length).length<=fuel/\cvr fuel n es set=some pc/\(∀ q∈pc.ws,0<q.den)/\(∀ q∈pc.ws,0<=q.sign/\q.num<18446744073709551616)/\(∀ i,i<=pc.ws.length->dnK pc.ws i<4294967296) /\
  (∀ q∈pc.ws,q.num<18446744073709551616/\q.den<4294967296/\0<q.norm.den/\q.norm.den<4294967296)/\1<=dnm pc.ws/\dnm pc.ws<=64/\PrOk pc.ws sizes (dnm pc.ws) K/\K2<=29000/\7<=K2/\Jk (Yx pc.ws sizes (dnm pc.ws))+dnm pc.ws<=K2/\Jqh K2/\∀ x,Ib (Yx pc.ws sizes (dnm pc.ws)) (dnm pc.ws) x->x=r
theorem Qxw(h:w.ownsRow base e 1 (.slice A n n) n us)(hg:(Value.slice A n n).ownBlock=some ad.block)(hc:w.cell? ad=some u): u∈us:=by
 rcases h.2 with⟨i,_⟩|⟨g,cap,cur,i,_,hh,_,_,hs,ht⟩
 .injection i with e1 _ _
  subst e1;cases hg
 injection i with e1 _ e3
 subst e1;subst e3;have j:g=ad.block:=by injection hg
 unfold World.cell? at hc;rw[<-j,hh]at hc;simp only at hc;split at hc
 .cases hc
 rw[List.take_of_length_le (by simp[hs])]at ht;rw[<-ht];rw[<-Array.getElem?_toList]at hc;exact List.mem_of_getElem? hc
theorem Jgx(h:w.ownsRow base e 1 (.slice A n n) n us)(hs:∀ u∈us,∃ B m c,u=.slice B m c)(hv:NatV w v m): NatX (λk=>(Value.slice A n n).ownBlock=some k) w v m:=by
 refine⟨hv,λh0 ad O c e j=>?_⟩;obtain⟨A',c',rfl,h2,Z,D⟩:=hv;injection e with e1 e2 e3
 subst e1;have i:Jj m≠[]:=λe=>by rw[Kt h0]at e;cases e
 have U:=List.length_pos_iff.2 i;have y:=D.cell (Qh (l:=Jj m) (k:=0) om);obtain⟨B,J,c2,G⟩:=hs _ (Qxw h (ad:=adr (some ad) 0) j y);cases G
theorem ENat: ElT Tryz.prog 38 40 1 24 (.slice none 0 0):=⟨Tryz.underlying38,info_parts kr,rfl,by decide⟩
theorem NatV.slc(h:NatV w v m): ∃ A n c,v=.slice A n c:=by
 obtain⟨A,c,rfl,_⟩:=h;exact⟨_,_,_,rfl⟩
theorem Jbp(hB:Blk w b t cs)(he:ad.block=b)(hc:w.cell? ad=some u): cs[ad.off]?=some u:=by
 unfold World.cell? at hc;rw[he]at hc;rw[show w.heap[b]?=_ from hB]at hc;simp only at hc;split at hc
 .cases hc
 simpa using hc
theorem Jxz(hB:Blk w b t cs)(hcs:∀ u∈cs,∀ x,u≠.int .u32 x)(hv:NatV w v m): NatX (λk=>k=b) w v m:=by
 refine⟨hv,λh0 ad D c e j=>?_⟩;obtain⟨Z,U,rfl,O,J,B⟩:=hv;injection e with e1 e2 e3
 subst e1;have i:Jj m≠[]:=λe=>by rw[Kt h0]at e;cases e
 have G:=List.length_pos_iff.2 i;have y:=B.cell (Qh (l:=Jj m) (k:=0) om);exact hcs _ (List.mem_of_getElem? (Jbp hB (ad:=adr (some ad) 0) j y)) _ rfl
theorem Qbw{ws:List PR}(h:GX 3 RtC Nn w (.slice W ws.length c) ws)(hB:Blk w b t [.slice none 0 0,.slice none 0 0,.bool false,.slice none 0 0,.slice none 0 0])(hd:∀ q∈ws,0<q.den): GX 3 RtC (λk=>k=b) w (.slice W ws.length c) ws:=by
 have i:∀ u∈([.slice none 0 0,.slice none 0 0,.bool false,.slice none 0 0,.slice none 0 0]:List Value),∀ x,u≠.int .u32 x:=λu hu x=>by
  simp only[List.mem_cons,List.not_mem_nil,or_false]at hu;rcases hu with rfl|rfl|rfl|rfl|rfl<;>exactλe=>by cases e
 obtain⟨⟨ps,A,c',e,ev,e2,e3,G,J⟩,_⟩:=h;refine⟨⟨ps,A,c',e,ev,e2,e3,G,λp hm=>⟨(J p hm).1,?_⟩⟩,λh0 ad m cc j hk=>?_⟩
 .obtain⟨x,y,O,hx,D⟩:=(J p hm).2;exact⟨x,y,O,Jxz hB i hx.1,Jxz hB i D.1⟩
 rw[ev]at j;injection j with j _ _
 subst j;cases ps with
 | nil=>exact h0 e
 | cons p ps'=>
  obtain⟨_,x,y,O,hx,D⟩:=J p (mC ..);have hq:0<p.2.den:=hd _ (by rw[e];simp);have hf:Jc (p::ps')=[.bool p.2.neg,x,y]++Jc ps':=by simp[Jc,O]
  have c0:=G.cell (k:=0) (u:=.bool p.2.neg) (by rw[hf];rfl);have c2:=G.cell (k:=2) (u:=y) (by rw[hf];rfl);have Z:=Jbp hB (ad:=adr (some ad) 0) hk c0;have U:=Jbp hB (ad:=adr (some ad) 2) hk c2;have o0:(adr (some ad) 0).off=ad.off:=rfl;have o2:(adr (some ad) 2).off=ad.off+2:=rfl;rw[o0]at Z;rw[o2]at U;have ho:ad.off=2:=by
   generalize ad.off=o at Z
   rcases o with _|_|_|_|_|o<;>simp at Z ⊢
  rw[ho]at U;obtain⟨B,d,rfl,_⟩:=D.1;simp at U;have:=limbs_pos' (n:=p.2.den) om;omega
def BndsO(w0 w:World)(A:Option Addr)(n k:Nat)(r:Nat->Nat)(us:List Value): Prop:=us.length=n/\w.ownsRow w0.heap.size 40 1 (.slice A n n) n us/\(∀ u∈us,∃ B m c,u=.slice B m c)/\∀ j,j<k->∃ u,us[j]?=some u/\NatV w u (r j)
theorem BndsO.ext{w0 w w':World}{A:Option Addr}{n k:Nat}{r:Nat->Nat}{us:List Value}(h:BndsO w0 w A n k r us)(hx:Ext w w'): BndsO w0 w' A n k r us :=
 ⟨h.1,Ju h.2.1 hx,h.2.2.1,λj y=>by obtain⟨u,e,i⟩:=h.2.2.2 j y;exact⟨u,e,i.ext hx⟩⟩
theorem BndsO.put(h:BndsO w0 w A n k r us)(hk:k<n)(hv:NatV w v (r k))(ho:w'.ownsRow w0.heap.size 40 1 (.slice A n n) n (us.set k v))(hg:w.grownBy w' (Value.slice A n n).ownBlock): BndsO w0 w' A n (k+1) r (us.set k v):=by
 obtain⟨J,D,B,G⟩:=h;have y:GrN (λq=>(Value.slice A n n).ownBlock=some q) w w':=GrN.by hg λq e=>e
 refine⟨by simp[J],ho,λu i=>?_,λj Z=>?_⟩
 .rcases List.mem_or_eq_of_mem_set i with i|rfl
  .exact B u i
  exact hv.slc
 by_cases e:j=k
 .subst e;exact⟨v,by rw[List.getElem?_set_self om],((Jgx D B hv).gr y).1⟩
 obtain⟨u,O,i⟩:=G j om;exact⟨u,by rw[List.getElem?_set_ne (λU=>e U.symm)];exact O,((Jgx D B i).gr y).1⟩
def SF.bxz(s:Nat): SF:=⟨λv w=>∃ b,v=.pointer (some ⟨b,0,none⟩)/\Blk w b 60 [.slice none 0 0,.slice none 0 0,.bool false,.slice none 0 0,.slice none 0 0]/\s<=b,λ⟨b,e,h,hs⟩ hx=>⟨b,e,h.ext hx,hs⟩⟩
def CovC(ws:List PR)(w:World)(cs:List Value): Prop:=∃ W W3 P1 P2 P3 b Q1 m1 c1 Q2 m2 c2,cs=[.slice W ws.length W3,.slice P1 P2 P3,.bool b,.slice Q1 m1 c1,.slice Q2 m2 c2]/\GX 3 RtC Nn w (.slice W ws.length W3) ws
theorem CovC.ext{ws:List PR}{w w':World}{cs:List Value}(h:CovC ws w cs)(hx:Ext w w'): CovC ws w' cs:=by
 obtain⟨W,B,O,J,G,b,D,j,y,Q2,i,u,e,h⟩:=h;exact⟨W,B,O,J,G,b,D,j,y,Q2,i,u,e,h.ext RtC.sta (by decide) hx⟩
def SF.cov(ws:List PR): SF:=⟨λv w=>∃ cs:List Value,v=.tuple #[.agg cs.toArray,.int .i64 0]/\CovC ws w cs,λh hx=>h.elim λcs h=>⟨cs,h.1,h.2.ext hx⟩⟩
def SF.cv(ws:List PR): SF:=⟨λv w=>∃ cs:List Value,v=.agg cs.toArray/\CovC ws w cs,λh hx=>h.elim λcs h=>⟨cs,h.1,h.2.ext hx⟩⟩
theorem Qcc{cb sc:Nat}{es sizes:List Nat}{kf:Nat->Nat}{pf:Nat->Int}(hG:GrV w A c n es)(hB:Rd w 3 B n (Qg n (Zp kf pf)))(hk:∀ v,v<n->kf v<4294967296)(hS:Rd w 1 SA sizes.length (Jl (nz sizes)))(hsc:sizes.length<=sc)(hsl:sizes.length=es.length)(hm:es.length<=5)(hb:∀ v,v<n->BagB n es sizes (kf v ||| 2^v) (r v)):
  Ret Tryz.prog 20 [.agg (grC A c n es).toArray,.slice B n cb,.slice SA sizes.length sc] w λu w'=>∃ O us,u=.tuple #[.slice O n n,.int .i64 0]/\BndsO w w' O n n r us/\Ext w w':=by
 have c0:=hG.n32;have bw:IntsV w (.slice SA sizes.length sc) (nz sizes):=⟨SA,sc,by rw[nzl],by rw[nzl];exact hsc,by rw[nzl];omega,by rw[nzl];exact hS⟩;refine Jz Tryz.func20 Tryz.ntmps20 rfl kr rfl ?_;refine ρ ?_;refine bx (cs:=grC A c n es) ?_;intro w1 b3 ap c9 ba;refine ρ ?_;refine lds (cs:=grC A c n es) (λj u hu=>ba.at hu) ?_;refine ρ ?_;refine cl (Jzk (hG.ext ap)) ?_;rintro u w2 ⟨rfl,ao⟩;have aa:=ba.ext ao;have a8:=ap.trans ao;refine ρ ?_;refine ld (aa.at (i:=1) rfl) ?_;refine ρ ?_;refine Go.Wk.kf 25 ?_ ?_
 .simp[hsl]
 refine ρ ?_;refine cl (Qcf (bw.ext a8) (Qkf w2)) ?_;rintro u w3 ⟨rfl,ab⟩;have b4:((nz sizes).any λz=>decide (z<0))=false:=by
  rw[List.any_eq_false];intro z hz;obtain⟨m,_,rfl⟩:=List.mem_map.1 hz;simp
 rw[b4];refine ρ ?_;have a1:=a8.trans ab;refine ρ ?_;refine mkn ENat n om (by unfold maxLen;omega) ?_;intro w4 O am aq hO;have bz:=a1.trans am;have e0:(madeCells (Value.slice none 0 0).cells (n*1)).toList=List.replicate n (.slice none 0 0):=by rw[Nat.mul_one];exact Yv _ _
 rw[e0]at aq;refine ρ ?_;refine Qq (fun (k:Nat) (_:List Value)=>[(2,.slice SA sizes.length sc),(3,.pointer (some ⟨b3,0,none⟩)),(9,.slice O n n),(32,.slice B n cb),(33,.int .i64 (n:Int)),(34,.int .i64 (k:Int))])
  (λk us w'=>k<=n/\Ext w3 w'/\BndsO w3 w' O n k r us) (λk _=>n-k) 0 (List.replicate n (.slice none 0 0)) sB
  ⟨Nat.zero_le _,am,by simp,aq,λu hu=>⟨none,0,0,List.eq_of_mem_replicate hu⟩,λj hj=>absurd hj (Nat.not_lt_zero j)⟩ ?_
 rintro k us w5 ⟨c7,Z,a6⟩;have U:=a1.trans Z;refine ρ ?_;refine ci (λh=>?_) (λh=>?_)
 .have lk:k<n:=by have:=oT h;omega
  clear h;have b7:=hB.ext U;have ae:∀ j u,(Zp kf pf k)[j]?=some u->w5.cell? ((adr B (k*3)).add j)=some u:=λj u hu=>by
   have hj:j<3:=by grind [Nat.lt_or_ge,List.getElem?_eq_none,Zp]
   rw[Gu];exact b7.cell ((Jlv (sz:=3) (λ_ _=>rfl) lk hj).trans hu)
  obtain⟨az,ay,af,c4,pc,K,K2,ad,bl,aw,bi,bp,bh,bq,ax,bj,hK,bu,bt,av,ac⟩:=hb k lk;refine ρ ?_;refine ixq 3 k b7 lk ?_;refine ρ ?_;refine lds (cs:=Zp kf pf k) ae ?_;refine ρ ?_;refine alc zBag ?_;intro w6 cc bf b2 bc;refine ρ ?_;refine stb (cs':=Zp kf pf k) bc ?_ Jgs;intro w7 ai hg7 be;have ak:Ext w5 w7:=be w5 bf b2;have G:Ext w5 w7.drew:=ak.trans (Ext.refl w7).drew;have ah:=ai.ext (Ext.refl w7).drew;have b8:=((aa.ext ab).ext Z).ext G;have an:=ab.trans (Z.trans G);refine ρ ?_;have c8:=an;refine drH (λi=>Nat.ble 8 i) ?_;refine hcut 2 (lst 10 8) (fun (y:List Value×Nat)=>[(44,.agg y.1.toArray),(45,.int .i64 0),(12,.pointer (some ⟨y.2,0,none⟩)),(2,.slice SA sizes.length sc),(3,.pointer (some ⟨b3,0,none⟩)),(9,.slice O n n),(10,.int .i64 (k:Int)),(32,.slice B n cb),(33,.int .i64 (n:Int)),(34,.int .i64 (k:Int))])
   (λy W=>Ext w7.drew W/\CovC pc.ws W y.1/\Blk W y.2 60 [.slice none 0 0,.slice none 0 0,.bool false,.slice none 0 0,.slice none 0 0]/\w7.drew.heap.size<=y.2) ?_ ?_
  rotate_left
  .intro rest;refine Jlh 11 6 2 _ (lst 10 8) [0,1,2,3,4,5,6,7] [40,41,42,43,39,44,45,12] [SF.eq (.agg (grC A c n es).toArray),SF.eq (.agg (Zp kf pf k).toArray),SF.eq (.int .u32 ((kf k ||| 2^k:Nat):Int)),SF.cov pc.ws,SF.cov pc.ws,SF.cv pc.ws,SF.eq (.int .i64 0),SF.bxz w7.drew.heap.size] kr (by rfl) ?_ ?_ ?_
   .refine gsc (λvs w9 D hd=>?_) ?_
    .simp only[slM];refine lds (cs:=grC A c n es) (λj u hu=>(b8.ext D).at hu) ?_;refine ρ ?_;exact Qr (Ext.refl _) rfl
    refine gsc (λvs w9 D hd=>?_) ?_
    .simp only[slM];refine lds (cs:=Zp kf pf k) (λj u hu=>(ah.ext D).at hu) ?_;refine ρ ?_;exact Qr (Ext.refl _) rfl
    refine gsc (λvs w9 D hd=>?_) ?_
    .have e1:vs 1=_:=hd 1;simp only[slM,e1];refine cl (Qyq om (hk k lk) _) ?_;rintro u W ⟨rfl,hy⟩;exact Jr (Qr hy rfl)
    refine gsc (λvs w9 D hd=>?_) ?_
    .have e0:vs 0=_:=hd 0;have e2:vs 2=_:=hd 2;simp only[slM,e0,e2];refine cl (Qbv (hG.ext ((U.trans G).trans D)) az ay hm af ad bl) ?_;rintro u W ⟨W0,P0,q1,q2,rfl,hW,hP,bo,bn,hy⟩;obtain⟨W1,W3,_,rfl,_⟩:=id hW.el;obtain⟨P1,P3,_,rfl,_⟩:=id hP.el;obtain⟨Q1,m1,c1,rfl⟩:=bo.1.slc;obtain⟨Q2,m2,c2,rfl⟩:=bn.1.slc;exact Jr (Qr hy ⟨_,rfl,W1,W3,P1,_,P3,_,Q1,m1,c1,Q2,m2,c2,rfl,hW⟩)
    refine gsc (λvs w9 D hd=>?_) ?_
    .obtain⟨cs,e3,J⟩:=hd 3;simp only[slM,e3];refine ρ ?_;exact Qr (Ext.refl _) ⟨cs,rfl,J⟩
    refine gsc (λvs w9 D hd=>?_) ?_
    .obtain⟨cs,e4,J⟩:=hd 4;simp only[slM,e4];refine ρ ?_;exact Qr (Ext.refl _) ⟨cs,rfl,J⟩
    refine gsc (λvs w9 D hd=>?_) ?_
    .obtain⟨cs,e4,J⟩:=hd 4;simp only[slM,e4];refine ρ ?_;exact Qr (Ext.refl _) rfl
    refine gsc (λvs w9 D hd=>?_) gse
    simp only[slM];refine alc Kx ?_;intro W b9 hy br a7;exact Jr (Qr hy ⟨b9,rfl,a7,Nat.le_trans D.size br⟩)
   .intro vs W hy hf;obtain⟨b9,e7,a7,h9⟩:=hf 7;obtain⟨cs,e5,J⟩:=hf 5;have e6:vs 6=_:=hf 6;simp only[slM,e7,e6,e5];exact rest (cs,b9) _ _ ⟨hy,J,a7,h9⟩ sB
   intro _ vs W hy hf;obtain⟨b9,e7,a7,h9⟩:=hf 7;obtain⟨cs,e5,J⟩:=hf 5;obtain⟨ca,e4,_⟩:=hf 4;simp only[slM,e7,e5,e4];refine hpur (fuel':=2) 6 kr kr rfl rfl ?_;refine ρp ?_;refine ρd ?_;refine Zw ?_;refine Ye (listed':=lst 10 8) kr ?_;exact rest (cs,b9) _ _ ⟨hy,J,a7,h9⟩ sB
  rintro⟨cs,b9⟩ W ⟨bd,⟨WA,W3,P1,P2,P3,bb,Q1,m1,c1,Q2,m2,c2,e,bs⟩,ag,b1⟩;simp only at e ag b1;subst e;refine Vy (fuel':=0) 11 [(2,8),(2,9)] (lst 10 10) kr kr rfl ?_;refine Jy ?_;refine stW ag ?_;intro W2 b6 au a2;refine Jr (Jo ?_);refine Jy ?_;refine ρ ?_;refine Jo ?_;refine dnil (Zw ?_);refine Xn kr ?_;have aj:Ext w7.drew W2:=a2 w7.drew bd b1;have a3:=G.trans aj;have b5:=(Qbw bs ag aw).gr RtC.sta (by decide) (GrN.by (N:=λq=>q=b9) au λq e=>by injection e with e;exact e.symm);have a2:=U.trans a3;refine ρ ?_;refine lds (cs:=[.slice WA pc.ws.length W3,.slice P1 P2 P3,.bool bb,.slice Q1 m1 c1,.slice Q2 m2 c2]) (λj u hu=>b6.at hu) ?_;refine ρ ?_;refine cl (Qdq (sizes:=sizes) (b5.old RtC.sta (by decide) λk hk=>hk.elim) (hS.ext a2) bi bp bh bq ax bj hK bu bt av) ?_;rintro u c5 ⟨⟨v,r',rfl,hv,hr⟩,a9⟩;rw[ac r' hr]at hv;obtain⟨VA,vn,vc,rfl⟩:=hv.slc
  have a5:=a6.ext (a3.trans a9);obtain⟨c6,a4,_,_⟩:=id a5;obtain⟨_,_,_,_,bm⟩:=Jf a4;obtain⟨s1,s2,s3,s4,s5⟩:=Zk a4 (q:=k) om (.slice VA vn vc);have bg:us[k]?=some (us.getD k (.slice none 0 0)):=by grind
  refine ρ ?_;refine ix k (Rd.own a4) lk ?_;refine ρ ?_;refine sto (s1.trans bg) s2 ?_;refine ρ ?_;exact Ja (k+1) (us.set k (.slice VA vn vc)) sO ⟨lk,Jt (Z.trans (a3.trans a9)) s5 λg hg=>(bm g hg).1,a5.put lk hv s3 s5⟩ om
 have ar:k=n:=by have:=oF h;omega
 subst ar;refine ρ ?_;exact Qs ⟨O,us,rfl,⟨a6.1,Jvj a6.2.1 a1.size,a6.2.2.1,a6.2.2.2⟩,U⟩
open Go.RowKit Pl Go.Wk Bl Nw
variable {t x:Int}{w:World}
theorem Qvf{A:Option Addr}{n c:Nat}{zs:List Int}(hR:Rd w 1 A n (Jl zs))(hn:zs.length=n)(hm:n<=1100000): Ret Tryz.prog 82 [.slice A n c,.int .i64 t] w λu w'=>w'=w/\((u=.int .i64 (-1)/\t ∉ zs)∨∃ k:Nat,u=.int .i64 k/\k<n/\zs.getD k 0=t):=by
 refine Jz Tryz.func82 Tryz.ntmps82 rfl kr rfl ?_;refine ρ ?_;refine Jp (fun (k:Nat)=>[(0,.slice A n c),(1,.int .i64 t),(7,.int .i64 (n:Int)),(8,.int .i64 (k:Int))]) (λk w'=>w'=w/\k<=n/\t ∉ zs.take k) (λk=>n-k) 0 sB ⟨rfl,Nat.zero_le _,by simp⟩ ?_;rintro k w' ⟨rfl,j,y⟩;refine ρ ?_;refine ci (λh=>?_) (λh=>?_)
 .have lk:k<n:=by have:=oT h;omega
  have i:k<zs.length:=om
  refine ρ ?_;refine ix k hR lk ?_;refine ρ ?_;refine ld (hR.cell (Ze i)) ?_;refine ρ ?_;refine ci (λh=>?_) (λh=>?_)
  .refine ρ ?_;exact Jq ⟨rfl,.inr ⟨k,rfl,lk,by grind⟩⟩
  refine ρ ?_;refine Jh (k+1) sO ⟨rfl,om,?_⟩ om;rw[Xj 0 i,List.mem_append,List.mem_singleton];grind
 refine ρ ?_;refine Jq ⟨rfl,.inl ⟨rfl,?_⟩⟩;grind
def Uo(d:Atm->Nat)(x:Int)(e:Int)(a:Atm): Int:=if x∈a.vars then(if e<0∨(d a:Int)<e then(d a:Int) else e) else e
def Qc(d:Atm->Nat)(x:Int)(ats:List Atm): Int:=ats.foldl (Uo d x) (-1)
theorem Jmh(d:Atm->Nat)(x:Int)(l:List Atm)(a:Atm): Qc d x (l++[a])=Uo d x (Qc d x l) a:=by simp[Qc]
structure CntA(d:Atm->Nat)(x:Int)(a:Atm): Prop where
 asc:Iv a.vars
 ar:a.vars.length=a.ar
 len:∀ r∈a.rows,r.length=a.ar
 few:a.rows.length<=12
 cnt:∀(col:Nat) (m:List Row),col<a.vars.length->a.vars.getD col 0=x->Va [] (a.rows.map (pmR [col])) m->m.length=d a
theorem Qyg{d:Atm->Nat}{v:Value}{inp:Inp}(h:InV w v inp)(hA:∀ a∈inp.ats,CntA d x a):
  Ret Tryz.prog 43 [v,.int .i64 x] w λu w'=>u=.int .i64 (max (Qc d x inp.ats) 0)/\Ext w w':=by
 obtain⟨cs,rfl,vd,vp,va,rfl,hD,hP,J,A,c,aa,rfl,bo,bn,hR,bd⟩:=h;obtain⟨DA,dc,rfl,_⟩:=id hD;obtain⟨PA,pc,rfl,_⟩:=id hP;have ah:inp.ats.length=J.length:=by rw[aa,List.length_map]
 refine Jz Tryz.func43 Tryz.ntmps43 rfl kr rfl ?_;refine ρ ?_;refine bx ?_;intro w1 b2 b3 br bh;refine ρ ?_;refine ld (bh.at (i:=4) rfl) ?_;refine ρ ?_;refine Jp (fun (k:Nat)=>[(1,.int .i64 x),(2,.pointer (some ⟨b2,0,none⟩)),(5,.int .i64 (Qc d x (inp.ats.take k))),(12,.slice A J.length c),(13,.int .i64 (J.length:Int)),(14,.int .i64 (k:Int))])
  (λk w'=>k<=J.length/\Ext w w') (λk=>J.length-k) 0 sB ⟨Nat.zero_le _,b3⟩ ?_
 rintro k w2 ⟨hk,G⟩;refine ρ ?_;refine ci (λh=>?_) (λh=>?_)
 .have lk:k<J.length:=by have:=oT h;omega
  clear h;have hp:=bd _ (Jkw rfl lk);have aj:∀ j u,(J.getD k ta0).1.cells[j]?=some u->w2.cell? ((adr A (k*3)).add j)=some u:=λj u hu=>Jbr (hR.ext G) rfl lk hu;have a3:inp.ats.take (k+1)=inp.ats.take k++[(J.getD k ta0).2]:=by
   rw[aa,<-List.map_take,<-List.map_take,Xj ta0 lk,List.map_append];rfl
  have D:=hA (J.getD k ta0).2 (by rw[aa];exact List.mem_map_of_mem (Jkw rfl lk));generalize hq:J.getD k ta0=q at hp aj a3 D
  obtain⟨⟨t1,t2,t3⟩,a⟩:=q;simp only at D a3;have ae:=hp.ext G;obtain⟨⟨QA,qc,ap,bm,b5,b4⟩,ao,a4⟩:=id ae;simp only at ap ao;obtain⟨a1,PG,a2,bs,an,_⟩:=id a4;simp only at an;subst ap;subst ao;subst an;refine ρ ?_;refine ixq 3 k (hR.ext G) lk ?_;refine ρ ?_;refine lds (cs:=[.slice QA a.vars.length qc,.int .i64 (a.ar:Int),.slice PG a1.length a2]) aj ?_;refine ρ ?_;refine alc Jkn ?_;intro w3 b7 b1 bc bg;refine ρ ?_;refine stb (cs':=[.slice QA a.vars.length qc,.int .i64 (a.ar:Int),.slice PG a1.length a2]) bg ?_ (one3 rfl);intro w4 a7 bq az;have O:Ext w2 w4:=az w2 b1 bc;refine ρ ?_;refine ld (a7.at (i:=0) rfl) ?_;refine ρ ?_;refine cl (Qvf (b4.ext O) rfl b5) ?_;rintro u w5 ⟨rfl,⟨rfl,b6⟩|⟨aq,rfl,a9,ai⟩⟩
  .have e:Qc d x (inp.ats.take (k+1))=Qc d x (inp.ats.take k):=by rw[a3,Jmh,Uo,if_neg b6]
   refine ρ ?_;rw[<-e];exact Jh (k+1) sO ⟨lk,G.trans O⟩ om
  have ag:x∈a.vars:=by
   rw[<-ai];exact getD_mem' 0 _ a9
  refine ρ ?_;refine lds (cs:=[.int .i64 (a.ar:Int),.slice PG a1.length a2]) (a7.sub2 (i:=1) rfl rfl) ?_;refine ρ ?_;refine bsl (Jqc _) ?_;intro w6 bi ay bj am;have a6:=O.trans ay;have ak:RelV w6 (.agg #[.int .i64 (a.ar:Int),.slice PG a1.length a2]) a.ar a.rows:=(ae.ext a6).rel;have ba:IntsV w6 (.slice (some ⟨bi,0,none⟩) 1 1) (nz [aq]):=⟨_,1,rfl,Nat.le_refl _,by simp[nz],am.rd (n:=1) rfl⟩;refine ρ ?_;refine cl (Qjx ak ba D.len (λc hc=>by rw[List.mem_singleton.1 hc,<-D.ar];exact a9) (by simp) (by have:=D.few;omega)) ?_;rintro u w7 ⟨ax,rv,rfl,⟨z,RB,rm,rd,rfl⟩,m,af,_,_,ad⟩;have U:=D.cnt aq m a9 ai (ad (.inl D.few));refine ρ ?_;refine alc Ux ?_;intro w8 b9 aw bb bf;refine ρ ?_;refine stb (cs':=[.int .i64 z,.slice RB rm rd]) bf ?_ (λu hu=>by
   simp only[List.mem_cons,List.not_mem_nil,or_false]at hu;rcases hu with rfl|rfl<;>rfl)
  intro w9 Z bp av;have a5:Ext w7 w9:=av w7 aw bb;have ab:=a6.trans (ax.trans a5);have hM:=af.here.ext a5;have a8:=G.trans ab;have es:∀ e:Int,(if e<0∨(d a:Int)<e then(d a:Int) else e)=Uo d x e a:=λe=>by rw[Uo,if_pos ag]
  have B:=es (Qc d x (inp.ats.take k));rw[<-Jmh,<-a3]at B;refine ρ ?_;refine ρ ?_;refine ki 37 (λh=>?_) (λh=>?_)
  .have h:=oT h;refine ρ ?_;refine lds (cs:=[.int .i64 z,.slice RB rm rd]) (λj u hu=>Z.at hu) ?_;refine ρ ?_;refine cl (Jxg hM) ?_;rintro u au ⟨rfl,y⟩;rw[U];refine ρ ?_;rw[if_pos (.inl h)]at B;rw[B];exact Jh (k+1) sO ⟨lk,a8.trans y⟩ om
  have h:=oF h;refine ρ ?_;refine lds (cs:=[.int .i64 z,.slice RB rm rd]) (λj u hu=>Z.at hu) ?_;refine ρ ?_;refine cl (Jxg hM) ?_;rintro u au ⟨rfl,y⟩;rw[U];have be:=hM.ext y;refine ρ ?_;refine ci (λh2=>?_) (λh2=>?_)
  .have h2:=oT h2;refine ρ ?_;refine lds (cs:=[.int .i64 z,.slice RB rm rd]) (λj u hu=>(Z.ext y).at hu) ?_;refine ρ ?_;refine cl (Jxg be) ?_;rintro u bl ⟨rfl,ac⟩;rw[U];refine ρ ?_;rw[if_pos (.inr h2)]at B;rw[B];exact Jh (k+1) sO ⟨lk,a8.trans (y.trans ac)⟩ om
  have h2:=oF h2;refine ρ ?_;rw[if_neg (λh'=>h'.elim h h2)]at B;rw[B];exact Jh (k+1) sO ⟨lk,a8.trans y⟩ om
 have b8:k=J.length:=by have:=oF h;omega
 subst b8;rw[<-ah,List.take_length];refine ρ ?_;refine Jq ⟨?_,G⟩;exact congrArg (Value.int .i64) (by split<;>omega)
open Go.RowKit Pl Go.Wk Bl Nw
variable {perm sizes:List Nat}{r:Nat->Nat}{w w' w0:World}
theorem zEst: Qm Tryz.prog 42=some (.agg #[.int .i64 0,.int .i64 0,.slice none 0 0,.slice none 0 0]):=kr
theorem Qfb(a b:Int)(A B:Option Addr)(n c m d:Nat)(w:World): (Instr.build 42 #[(0,.int .i64 a),(1,.int .i64 b),(2,.slice A n c),(3,.slice B m d)]).run Tryz.prog w=.ok (.agg #[.int .i64 a,.int .i64 b,.slice A n c,.slice B m d]) w:=kr
theorem EIs: ElT Tryz.prog 28 22 1 24 (.slice none 0 0):=⟨Tryz.underlying28,info_parts kr,rfl,by decide⟩
theorem bs0Is(w:World): (Instr.buildSlice 28 0 #[]).run Tryz.prog w=.ok (.slice (some ⟨w.heap.size,0,none⟩) 0 0) (w.alloc (.cells ([]:List Value).toArray 22)):=kr
theorem bs0I(w:World): (Instr.buildSlice 22 0 #[]).run Tryz.prog w=.ok (.slice (some ⟨w.heap.size,0,none⟩) 0 0) (w.alloc (.cells ([]:List Value).toArray 3)):=kr
theorem bs1Is(A:Option Addr)(n c:Nat)(w:World): (Instr.buildSlice 28 1 #[(0,.slice A n c)]).run Tryz.prog w=.ok (.slice (some ⟨w.heap.size,0,none⟩) 1 1) (w.alloc (.cells [.slice A n c].toArray 22)):=kr
theorem BndsO.box{A:Option Addr}{n k b t:Nat}{us cs:List Value}(h:BndsO w0 w A n k r us)(hB:Blk w b t cs)(hcs:∀ u∈cs,∀ x,u≠.int .u32 x)(hne:Nat.beq 40 t=false)(hg:GrN (λq=>q=b) w w'): BndsO w0 w' A n k r us :=
 ⟨h.1,Qn h.2.1 hg λg i e=>by rw[e]at i;exact hB.ne_own h.2.1 hne i.symm,h.2.2.1,λj B=>by
  obtain⟨u,e,y⟩:=h.2.2.2 j B;exact⟨u,e,((Jxz hB hcs y).gr hg).1⟩⟩
structure CostI(n f:Nat)(perm:List Nat)(vss:List (List Nat))(sizes:List Nat)(d:Nat->Atm->Nat)(r:Nat->Nat)(inp:Inp): Prop where
 chk:Yu inp
 en:inp.n=(n:Int)
 ef:inp.free=(f:Int)
 ep:inp.perm=nz perm
 ev:inp.ats.map (·.vars)=vss.map nz
 es:inp.ats.map (λa=>a.rows.length)=sizes
 five:inp.ats.length<=5
 pok:PermOk n f perm
 n32:n<=32
 vlt:∀ vs∈vss,∀ x∈vs,x<n
 cnt:∀ x,x<f->∀ a∈inp.ats,CntA (d x) (x:Int) a
 bag:∀ kf pf,Jqj n (vss.map Zq) (Vl perm f) kf pf->∀ v,v<n->BagB n (vss.map Zq) sizes (kf v ||| 2^v) (r v)
 sumN:Nb (((List.range n).map r).foldl (· + ·) 0)
 subN:∀ i,i<=n->Nb ((((List.range n).map r).take i).foldl (· + ·) 0)
 oneN:∀ x∈(List.range n).map r,Nb x
def Jwd(f:Nat)(d:Nat->Atm->Nat)(inp:Inp): Nat:=hgS ((List.range f).map λx:Nat=>max (Qc (d x) (x:Int) inp.ats) 0)
theorem Qbx{B0 n f:Nat}{vss:List (List Nat)}{d:Nat->Atm->Nat}{v:Value}{inp:Inp}(hT:FB B0 w)(hC:CostI n f perm vss sizes d r inp)(h:InV w v inp):
  Ret Tryz.prog 17 [v] w λu w'=>∃ O us VS vn vc,u=.tuple #[.agg #[.int .i64 (Jwd f d inp:Int),.int .i64 (Jwd f d inp:Int),.slice O n n,.slice VS vn vc],.int .i64 0]/\BndsO w w' O n n r us/\NatV w' (.slice VS vn vc) (((List.range n).map r).foldl (· + ·) 0)/\Ext w w':=by
 have bf:=h;obtain⟨cs,rfl,vd,vp,va,rfl,hD,hP,df⟩:=h;obtain⟨ts,A,c,c7,rfl,f8,f7,hR,e7⟩:=id df;obtain⟨DA,dc,rfl,_⟩:=id hD;obtain⟨PA,pc,rfl,f6,f5,du⟩:=id hP;have cw:=hC.n32;have fd:=hC.pok.fn;have cy:inp.ats.length=ts.length:=by rw[c7,List.length_map]
 have bt:vss.length=ts.length:=by have:=congrArg List.length hC.ev;simp only[List.length_map]at this;omega
 have dz:sizes.length=ts.length:=by rw[<-hC.es,List.length_map,cy]
 have h5:ts.length<=5:=by have:=hC.five;omega
 refine Jz Tryz.func17 Tryz.ntmps17 rfl kr rfl ?_;refine ρ ?_;refine bx ?_;intro w1 b1 cn fe em;refine ρ ?_;refine alc zEst ?_;intro w2 b2 ck e6 ek;have ao:=em.ext ck;have b4:=cn.trans ck;refine ρ ?_;refine ldW ao ?_;refine ρ ?_;refine cl (Jlg (bf.ext b4) (by rw[hC.en];omega) (by rw[hC.ef];omega)) ?_;rintro u w3 ⟨ax,e,rfl,he⟩;obtain rfl:e=0:=he.2 hC.chk;have a5:=b4.trans ax;refine ρ ?_;refine bsl bs0Is ?_;intro w4 dk bq d6 dd;refine ρ ?_;refine bsl bs0I ?_;intro w5 dj bp d5 db;have ch:=a5.trans bq;have b5:=bq.trans bp;have et:=ch.trans bp;have de:=(ao.ext ax).ext b5;refine ρ ?_;refine ld (de.at (i:=4) rfl) ?_;have ea:OX 22 1 NtC (λq=>w3.heap.size<=q) w5 w3.heap.size (.slice (some ⟨dk,0,none⟩) 0 0) ([]:List (List Nat)):=⟨[],rfl,(dd.ext bp).own (n:=0) d6 rfl (Nat.zero_le _),λp hp=>by cases hp⟩;have e8:w5.ownsRow w3.heap.size 3 1 (.slice (some ⟨dj,0,none⟩) 0 0) 0 (Jl (nz [])):=db.own (n:=0) (nL bq.size d5) rfl (Nat.zero_le _)
 refine ρ ?_;refine Zb (fun (k:Nat) (vs vz:Value)=>[(1,.pointer (some ⟨b1,0,none⟩)),(2,.pointer (some ⟨b2,0,none⟩)),(3,.int .i64 0),(5,vs),(6,vz),(25,.slice A ts.length c),(26,.int .i64 (ts.length:Int)),(27,.int .i64 (k:Int))])
  (λk vs vz w'=>k<=ts.length/\Ext w3 w'/\OX 22 1 NtC (λq=>w3.heap.size<=q) w' w3.heap.size vs (vss.take k)/\w'.ownsRow w3.heap.size 3 1 vz k (Jl (nz (sizes.take k)))) (λk _ _=>ts.length-k) 0 (.slice (some ⟨dk,0,none⟩) 0 0) (.slice (some ⟨dj,0,none⟩) 0 0) sB
  ⟨Nat.zero_le _,b5,by rw[List.take_zero];exact ea,by rw[List.take_zero];exact e8⟩ ?_
 rintro k vs vz w6 ⟨hk,a6,ak,b3⟩;have Z:=a5.trans a6;obtain⟨SA,sc,rfl,dt,bs⟩:=ak.form;obtain⟨ZA,zc,rfl,f0,ce⟩:=Jf b3;have co:(vss.take k).length=k:=by rw[List.length_take];omega
 rw[co]at ak dt bs ⊢;refine ρ ?_;refine ci (λh=>?_) (λh=>?_)
 .have lk:k<ts.length:=by have:=oT h;omega
  clear h;have cd:k<vss.length:=om
  have cc:k<sizes.length:=om
  have hp:=e7 _ (Jkw rfl lk);have d4:∀ j u,(ts.getD k ta0).1.cells[j]?=some u->w6.cell? ((adr A (k*3)).add j)=some u:=λj u hu=>Jbr (hR.ext Z) rfl lk hu;have az:(ts.getD k ta0).2.vars=nz (vss.getD k []):=by
   have e1:(inp.ats.map (·.vars))[k]?=(vss.map nz)[k]?:=by rw[hC.ev]
   rw[c7]at e1;simpa [List.getElem?_eq_getElem lk,List.getElem?_eq_getElem cd,List.getD] using e1
  have bu:(ts.getD k ta0).2.rows.length=sizes.getD k 0:=by
   have e1:(inp.ats.map λa=>a.rows.length)[k]?=sizes[k]?:=by rw[hC.es]
   rw[c7]at e1;simpa [List.getElem?_eq_getElem lk,List.getElem?_eq_getElem cc,List.getD] using e1
  generalize hq:ts.getD k ta0=q at hp d4 az bu
  obtain⟨⟨t1,t2,t3⟩,a⟩:=q;simp only at az bu;obtain⟨⟨QA,qc,di,f4,f3,f2⟩,dh,ay⟩:=id hp;simp only at di dh;obtain⟨au,PG,av,ff,dg,_⟩:=id ay;simp only at dg;subst di;subst dh;subst dg;refine ρ ?_;refine ixq 3 k (hR.ext Z) lk ?_;refine ρ ?_;refine lds (cs:=[.slice QA a.vars.length qc,.int .i64 (a.ar:Int),.slice PG au.length av]) d4 ?_;refine ρ ?_;refine alc Jkn ?_;intro w7 b8 bo e5 ej;refine ρ ?_;refine stb (cs':=[.slice QA a.vars.length qc,.int .i64 (a.ar:Int),.slice PG au.length av]) ej ?_ (one3 rfl);intro w8 bi fc bn;have cj:Ext w6 w8:=bn w6 bo e5;refine ρ ?_;refine ld (bi.at (i:=0) rfl) ?_;refine ρ ?_;refine bsl (bs1Is _ _ _) ?_;intro w9 fh aw ez da;have y:=cj.trans aw;have a9:=a6.trans y;have ed:∀ u,Ext w3 u->IntsV u (.slice QA a.vars.length qc) (nz (vss.getD k [])):=λu hu=>by
   have:=(hp.ext (a5.trans hu)).1;rw[az]at this;rwa [az]
  have be:=ak.ext NtC.sta y;obtain⟨_,_,bd⟩:=id be.own;have bc:=Ju b3 y;have bh:=bi.ext aw;refine ρ ?_;refine apX EIs NtC.sta be da rfl (λu hu=>by rw[List.mem_singleton.1 hu];rfl) ⟨_,rfl,Off.old ed a9 λq hq=>hq⟩ (λg hg=>(bs g hg).1) om (by decide) a9.size ?_;intro dq aq c2 ah _;have ab:Ext w3 aq:=Jt a9 ah λg eg=>(bs g eg).1;have bz:=Qn bc (GrN.by (N:=λq=>(Value.slice SA k sc).ownBlock=some q) ah λq e=>e) λg eg e=>Gh bd bc kr e eg;have c4:=bh.grown ah (bh.ne_own bd rfl);refine ρ ?_;refine lds (cs:=[.int .i64 (a.ar:Int),.slice PG au.length av]) (c4.sub2 (i:=1) rfl rfl) ?_;have d7:RelV aq (.agg #[.int .i64 (a.ar:Int),.slice PG au.length av]) a.ar a.rows:=(hp.ext (a5.trans ab)).rel;refine ρ ?_;refine cl (Jxg d7) ?_;rintro u bl ⟨rfl,ae⟩;refine ρ ?_;refine bsl (Jqc _) ?_;intro dm fg ad ey d9;have J:=ae.trans ad;have aa:=ab.trans J;have ai:=Ju bz J
  have aj:=c2.ext NtC.sta J;obtain⟨_,_,c0⟩:=id aj.own;refine ρ ?_;refine apb (m':=1) (news:=[.int .i64 (a.rows.length:Int)]) EI ai (d9.rd (n:=1) rfl) (by simp[Value.oneCell']) (by unfold maxLen;omega) om aa.size ?_;intro dn ca bw bb _;have c1:=aj.gr NtC.sta (GrN.by (N:=λq=>(Value.slice ZA k zc).ownBlock=some q) bb λq e=>e) λq e=>⟨(ce q e).1,λe'=>Gh ai c0 kr e e'⟩;have er:vss.take (k+1)=vss.take k++[vss.getD k []]:=Xj [] cd;have eo:Jl (nz (sizes.take (k+1)))=Jl (nz (sizes.take k))++[.int .i64 (a.rows.length:Int)]:=by
   rw[Xj 0 cc,bu];simp[Jl,nz]
  refine ρ ?_;exact Qe (k+1) dq dn sO ⟨lk,Jt aa bb λg eg=>(ce g eg).1,by rw[er];exact c1,by rw[eo];exact bw⟩ om
 have e3:k=ts.length:=by have:=oF h;omega
 subst e3;have f9:ts.length=vss.length:=bt.symm;rw[<-bt,List.take_length]at ak;rw[<-dz,List.take_length]at b3;have e9:=ak.gx (N':=Nn) NtC.sta om λk hk=>hk.elim;have an:=(ao.ext ax).ext a6;refine ρ ?_;refine ld (an.at (i:=0) rfl) ?_;rw[hC.en,<-bt];refine ρ ?_;refine cl (Qvl e9 cw om hC.vlt) ?_;rintro u w7 ⟨GA,gc,rfl,hG,bo⟩;refine ρ ?_;refine alc Jkm ?_;intro w8 b9 bn e4 ei;refine ρ ?_;refine stW ei ?_;intro w9 bg fb aw;have a8:Ext w7 w9:=aw w7 bn e4;have y:=bo.trans a8;have bj:=an.ext y;have cq:inp.perm.length=perm.length:=by rw[hC.ep,nzl]
 have cp:Rd w 1 PA perm.length (Jl (nz perm)):=by rw[<-cq,<-hC.ep];exact du
 refine ρ ?_;refine ldW bg ?_;refine ρ ?_;refine ld (bj.at (i:=1) rfl) ?_;rw[hC.ef];refine ρ ?_;refine ld (bj.at (i:=3) rfl) ?_;rw[cq];refine ρ ?_;have cg:=Z.trans y;refine cl (Qys (pc:=pc) (hG.ext a8) hC.pok (cp.ext cg)) ?_;rintro u aq ⟨a1,B,kf,pf,rfl,ee,d8⟩;have cx:sizes.length=vss.length:=om
 have d3:=Qcc (w:=aq) (A:=GA) (c:=gc) (cb:=n) (SA:=ZA) (sc:=zc) (r:=r) ((hG.ext a8).ext a1) (Rd.own ee) (λv hv=>(d8 v hv).1) (Rd.own (Ju b3 (y.trans a1))) om (by rw[List.length_map];exact cx) (by rw[List.length_map];omega) (hC.bag kf pf d8);rw[cx]at d3;refine ρ ?_;refine ldW (bg.ext a1) ?_;refine ρ ?_;refine cl d3 ?_;rintro u bl ⟨O,us,rfl,eh,ae⟩;have a3:=y.trans (a1.trans ae);have ap:=an.ext a3;have a2:=Z.trans a3;refine ρ ?_;refine ld (ap.at (i:=1) rfl) ?_;rw[hC.ef];refine ρ ?_;refine mkn EI f om (by unfold maxLen;omega) ?_;intro dm YA ad b7 ew;have e0:(madeCells (Value.int .i64 0).cells (f*1)).toList=Jl (List.replicate f 0):=by
  rw[Nat.mul_one];refine(Yv _ _).trans ?_;simp[Jl]
 rw[e0]at b7;refine ρ ?_;refine Qq (fun (k:Nat) (_:List Int)=>[(1,.pointer (some ⟨b1,0,none⟩)),(2,.pointer (some ⟨b2,0,none⟩)),(3,.int .i64 0),(12,.slice O n n),(13,.slice YA f f),(82,.int .i64 (f:Int)),(83,.int .i64 (k:Int))])
  (λk ls w'=>k<=f/\Ext bl w'/\ls.length=f/\(∀ j:Nat,j<k->ls[j]?=some (max (Qc (d j) (j:Int) inp.ats) 0))/\w'.ownsRow bl.heap.size 3 1 (.slice YA f f) f (Jl ls)) (λk _=>f-k) 0 (List.replicate f 0) sB
  ⟨Nat.zero_le _,ad,by simp,λj hj=>absurd hj (Nat.not_lt_zero j),b7⟩ ?_
 rintro k ls ca ⟨fa,D,e2,ba,b6⟩;have c6:=ap.ext D;refine ρ ?_;refine ci (λh=>?_) (λh=>?_)
 .have lk:k<f:=by have:=oT h;omega
  clear h;refine ρ ?_;refine ldW c6 ?_;refine ρ ?_;refine cl (Qyg (d:=d k) (bf.ext (a2.trans D)) (hC.cnt k lk)) ?_;rintro u c9 ⟨rfl,a7⟩;have af:=Ju b6 a7;obtain⟨_,_,_,_,dw⟩:=Jf af;obtain⟨s1,s2,s3,s4,s5⟩:=Zk af (q:=k) om (.int .i64 (max (Qc (d k) (k:Int) inp.ats) 0));have ds:(Jl ls)[k]?=some (.int .i64 (ls.getD k 0)):=Ze om;have es:(Jl ls).set k (.int .i64 (max (Qc (d k) (k:Int) inp.ats) 0))=Jl (ls.set k (max (Qc (d k) (k:Int) inp.ats) 0)):=by simp[Jl,List.map_set]
  rw[es]at s3;refine ρ ?_;refine ix k (Rd.own af) lk ?_;refine ρ ?_;refine sto (s1.trans ds) s2 ?_;refine ρ ?_;refine Ja (k+1) (ls.set k (max (Qc (d k) (k:Int) inp.ats) 0)) sO ⟨lk,Jt (D.trans a7) s5 λg hg=>(dw g hg).1,by simp[e2],λj hj=>?_,s3⟩ om;by_cases e:j=k
  .subst e;rw[List.getElem?_set_self om]
  rw[List.getElem?_set_ne (λe'=>e e'.symm)];exact ba j om
 have cz:k=f:=by have:=oF h;omega
 subst cz;have e:ls=(List.range k).map λx:Nat=>max (Qc (d x) (x:Int) inp.ats) 0:=by
  refine List.ext_getElem? λj=>?_;by_cases lj:j<k
  .rw[ba j lj,List.getElem?_map,List.getElem?_range lj];rfl
  rw[List.getElem?_eq_none om,List.getElem?_eq_none (by simp;omega)]
 subst e;have ec:IntsV ca (.slice YA k k) ((List.range k).map λx:Nat=>max (Qc (d x) (x:Int) inp.ats) 0):=⟨YA,k,by simp,by simp,by simp;omega,by simpa using Rd.own b6⟩;refine ρ ?_;refine cl (Jpb (hT.ext (a2.trans D)) ec) ?_;rintro u c9 ⟨rfl,a7⟩;have G:=D.trans a7;have am:=eh.ext G;obtain⟨br,cr,_,dx⟩:=id am;have eb:NatsV c9 O us ((List.range n).map r):=⟨by rw[br];exact Rd.own cr,by simp[br],λi hi=>by
  have d0:i<n:=by simpa using hi
  obtain⟨u,eu,hu⟩:=dx i d0;simpa [List.getD,eu,List.getElem?_range d0] using hu⟩
 have cu:=Qkk (c:=n) eb hC.sumN (by simp;omega) (λi hi=>hC.subN i (by simpa using hi)) hC.oneN;rw[br]at cu;refine ρ ?_;refine cl cu ?_;rintro u c8 ⟨hv,_,ac⟩;obtain⟨VS,vn,vc,rfl⟩:=hv.slc;have a4:Blk c8 b2 42 [.int .i64 0,.int .i64 0,.slice none 0 0,.slice none 0 0]:=((ek.ext ax).ext a6).ext (a3.trans (G.trans ac));refine ρ ?_;refine bld (Qfb _ _ _ _ _ _ _ _ _) ?_;refine ρ ?_;refine stW a4 ?_;intro dl c5 d1 cm;have ag:GrN (λq=>q=b2) c8 dl:=GrN.by d1 λq e=>by injection e with e;exact e.symm
 have d2:∀ u∈([.int .i64 0,.int .i64 0,.slice none 0 0,.slice none 0 0]:List Value),∀ x,u≠.int .u32 x:=λu hu x=>by
  simp only[List.mem_cons,List.not_mem_nil,or_false]at hu;rcases hu with rfl|rfl|rfl|rfl<;>exactλe=>by cases e
 have U:=(am.ext ac).box a4 d2 kr ag;have bm:=a2.trans (G.trans ac);refine ρ ?_;exact Xr c5 ⟨O,us,VS,vn,vc,rfl,⟨U.1,Jvj U.2.1 (Z.trans (y.trans a1)).size,U.2.2.1,U.2.2.2⟩,((Jxz a4 d2 hv).gr ag).1,cm w bm (nL cn.size e6)⟩
end Go.Proofs.YtebiphhfkdbpfaaGreatDoor
namespace Go.Proofs.YtebiphhfkdbpfaaGreatDoor
open Go.RowKit Pl Go.Wk
attribute [local irreducible] WC WL QX WD WDB WP
variable {r:List V}{w:World}
def RowM(w:World)(v:Value)(r:List V): Prop:=∃ A c,v=.slice A r.length c/\r.length<=c/\RdR w A r
def RowsM(w:World)(v:Value)(ls:List (List V)): Prop:=∃(ps:List Pr) (A:Option Addr) (c:Nat),ls=ps.map (·.2)/\v=.slice A ps.length c/\ps.length<=c/\Rd w 1 A ps.length (ps.map (·.1))/\∀ p∈ps,RowM w p.1 p.2
def IntsM(w:World)(v:Value)(zs:List Int): Prop:=∃ A c,v=.slice A zs.length c/\zs.length<=c/\Rd w 1 A zs.length (Jl zs)
def BoolsM(w:World)(v:Value)(ds:List Bool): Prop:=∃ A c,v=.slice A ds.length c/\ds.length<=c/\RdB w A ds
theorem RowM.ext{w w':World}{v:Value}{r:List V}(h:RowM w v r)(hx:Ext w w'): RowM w' v r:=by
 obtain⟨A,c,u,j,i⟩:=h;exact⟨A,c,u,j,i.ext hx⟩
theorem RowM.one{v:Value}(h:RowM w v r): v.oneCell'=true:=by obtain⟨A,c,rfl,_⟩:=h;rfl
theorem RowM.v{v:Value}(h:RowM w v r)(hl:r.length<=1100000): RowV w v r:=by
 obtain⟨A,c,u,j,i⟩:=h;exact⟨A,c,u,j,hl,i⟩
theorem RowV.m{v:Value}(h:RowV w v r): RowM w v r:=by
 obtain⟨A,c,u,j,_,i⟩:=h;exact⟨A,c,u,j,i⟩
theorem RowsM.ext{w w':World}{v:Value}{ls:List (List V)}(h:RowsM w v ls)(hx:Ext w w'): RowsM w' v ls:=by
 obtain⟨ps,A,c,D,B,y,u,j⟩:=h;exact⟨ps,A,c,D,B,y,u.ext hx,λp i=>(j p i).ext hx⟩
theorem RowsM.v{w:World}{v:Value}{ls:List (List V)}(h:RowsM w v ls)(hm:ls.length<=1100000)(hl:∀ r∈ls,r.length<=1100000): RowsV w v ls:=by
 obtain⟨ps,A,c,D,B,y,u,j⟩:=h;subst D;rw[List.length_map]at hm;exact⟨ps,A,c,rfl,B,y,hm,u,λp i=>(j p i).v (hl _ (List.mem_map.2 ⟨p,i,rfl⟩))⟩
theorem RowsV.m{w:World}{v:Value}{ls:List (List V)}(h:RowsV w v ls): RowsM w v ls:=by
 obtain⟨ps,A,c,D,B,y,_,u,j⟩:=h;exact⟨ps,A,c,D,B,y,u,λp i=>(j p i).m⟩
theorem RowsM.form{v:Value}{ls:List (List V)}(h:RowsM w v ls): ∃ A c,v=.slice A ls.length c/\ls.length<=c:=by
 obtain⟨ps,A,c,u,j,i,_⟩:=h;subst u;exact⟨A,c,by rw[List.length_map];exact j,by rw[List.length_map];exact i⟩
theorem IntsM.ext{w w':World}{v:Value}{r:List Int}(h:IntsM w v r)(hx:Ext w w'): IntsM w' v r:=by
 obtain⟨A,c,u,j,i⟩:=h;exact⟨A,c,u,j,i.ext hx⟩
theorem IntsM.v{v:Value}{r:List Int}(h:IntsM w v r)(hl:r.length<=1100000): IntsV w v r:=by
 obtain⟨A,c,u,j,i⟩:=h;exact⟨A,c,u,j,hl,i⟩
theorem BoolsM.ext{w w':World}{v:Value}{r:List Bool}(h:BoolsM w v r)(hx:Ext w w'): BoolsM w' v r:=by
 obtain⟨A,c,u,j,i⟩:=h;exact⟨A,c,u,j,i.ext hx⟩
theorem BoolsM.v{v:Value}{r:List Bool}(h:BoolsM w v r)(hl:r.length<=1100000): BoolsV w v r:=by
 obtain⟨A,c,u,j,i⟩:=h;exact⟨A,c,u,j,hl,i⟩
theorem Qgb{ar:Int}{sv v:Value}{r:Row}{A:Option Addr}{n c:Nat}(hs:sv=.slice A n c)(h:RowM w v r)(ha:ar<=1000000): Ret Tryz.prog 77 [.agg #[.int .i64 ar,sv],v] w λu w'=>Ext w w'/\∃ e,u=.int .i64 e/\(e=0↔(r.length:Int)=ar/\r.all Xm=true):=by
 subst hs;obtain⟨B,c',rfl,D,U⟩:=id h;refine Jz Tryz.func77 Tryz.ntmps77 rfl kr rfl ?_;refine ρ ?_;refine bx ?_;intro w1 b j Z G;refine ρ ?_;refine ld (G.at (i:=0) rfl) ?_;refine ρ ?_;refine ci (λh=>?_) (λJ=>?_)
 .refine ρ ?_;exact Jq ⟨j,6,rfl,⟨λe=>(by cases e),λe=>absurd e.1 (Kg h)⟩⟩
 have O:=Kh J;refine ρ ?_;refine cl (Qjn ((h.v om).ext j)) ?_;rintro u w2 ⟨rfl,y⟩;refine ρ ?_;refine ci (λh=>?_) (λD=>?_)
 .refine ρ ?_;refine Jq ⟨j.trans y,4,rfl,⟨λe=>(by cases e),λe=>?_⟩⟩;rw[e.2]at h;cases h
 refine ρ ?_;refine Jq ⟨j.trans y,0,rfl,⟨λ_=>⟨O,by simpa using D⟩,λ_=>rfl⟩⟩
theorem Jfm{v:Value}{ls:List Row}{ar:Nat}(h:RowsM w v ls)(hm0:ls.length<=1000000):
  Ret Tryz.prog 40 [.int .i64 (ar:Int),v] w λu w'=>Ext w w'/\∃ rv e,u=.tuple #[rv,.int .i64 e]/\(∃ z B m d,rv=.agg #[.int .i64 z,.slice B m d])/\(ar<=32->(∀ r∈ls,r.length=ar/\r.all Xm=true)->ls.length<=65536->e=0) /\
   (e=0->ar<=32/\(∀ r∈ls,r.length=ar/\r.all Xm=true)/\∃ m,Off (λk=>k<w.heap.size) w' (λu=>RelV u rv ar m)/\m.length<=65536/\(∀ x∈m,x∈ls)/\((ls.length<=12∨Srt [] ls)->Va [] ls m)):=by
 obtain⟨ps,A,c,rfl,rfl,b6,hR,G⟩:=h;have ag:ps.length<=1100000:=by rw[List.length_map]at hm0;omega
 generalize hn:ps.length=n at *
 have b4:∀ i,(ps.map (·.2)).getD i []=(ps.getD i z0).2:=λi=>Jvz
 have ae:∀ p∈ps,p.1.oneCell'=true:=λp hp=>(G p hp).one;refine Jz Tryz.func40 Tryz.ntmps40 rfl kr rfl ?_;refine ρ ?_;refine alc Ux ?_;intro w1 b aq hb hB;refine ρ ?_;refine cl (Qjz (ar:Int) w1) ?_;rintro v2 w2 ⟨ad,z',e2,rfl,ai,J⟩;refine ρ ?_;refine alc Ux ?_;intro w3 b3 ap ax b2;refine ρ ?_;refine stb b2 ?_ (Yk (z:=z') (A:=none) (n:=0) (c:=0));intro w4 b1 b8 ao;have a7:Ext w1 w4:=ao w1 (ad.trans ap) (nL ad.size ax);have U:=aq.trans a7;have ab:=hB.ext a7;refine ρ ?_;refine ci (λh=>?_) (λh=>?_)
 .have a8:=Kg h;refine ρ ?_;refine bld (Jkd _) ?_;refine ρ ?_;refine stb ab ?_ Yk;intro w5 aa b7 a1;refine ρ ?_;refine Xr aa ⟨a1 w U hb,_,e2,rfl,⟨0,none,0,0,rfl⟩,λh1 _ _=>J.2 om,λe=>absurd e a8⟩
 have hz:=Kh h;subst hz;have ay:ar<=32:=by have:=J.1 rfl;omega
 have ak:=ai rfl;subst ak;clear h ai J;refine ρ ?_;refine Jp (fun (k:Nat)=>[(0,.int .i64 (ar:Int)),(1,.slice A n c),(4,.pointer (some ⟨b,0,none⟩)),(6,.pointer (some ⟨b3,0,none⟩)),(20,.int .i64 (n:Int)),(21,.int .i64 (k:Int))])
  (λk w'=>Ext w4 w'/\k<=n/\∀ i,i<k->(ps.getD i z0).2.length=ar/\(ps.getD i z0).2.all Xm=true) (λk=>n-k) 0 sB ⟨Ext.refl _,Nat.zero_le _,λi hi=>om⟩ ?_
 rintro k w5 ⟨a1,hk,hI⟩;have y:=U.trans a1;refine ρ ?_;refine ci (λh=>?_) (λh=>?_)
 .have lk:k<n:=by have:=oT h;omega
  clear h;refine ρ ?_;refine dr [(0,0),(0,1),(0,2),(0,3),(0,4),(1,5),(0,6)] kr ?_;have a6:=a1.drew;have aa:=b1.ext a6;have aj:=hR.ext y.drew;refine ρd ?_;refine Qw (cs:=[.int .i64 (ar:Int),.slice none 0 0]) (λj u hu=>aa.at hu) ?_;refine ρd ?_;refine dix k aj lk ?_;refine ρd ?_;refine dld (Jxh aj hn lk) ?_;refine ρd ?_;have ha:(ar:Int)<=1000000:=om
  refine dcl (Qgb (A:=none) (n:=0) (c:=0) rfl ((G _ (Yc hn lk)).ext y.drew) ha) ?_;rintro u w6 ⟨Z,e,rfl,J⟩;refine⟨Z,?_⟩;refine ρd ?_;refine ρ ?_;have a2:=a6.trans Z;refine ci (λh=>?_) (λh=>?_)
  .have a8:=Kg h;refine ρ ?_;refine bld (Jkd _) ?_;refine ρ ?_;refine stb (ab.ext a2) ?_ Yk;intro w7 a9 hg7 an;refine ρ ?_;refine Xr a9 ⟨an w (U.trans a2) hb,_,e,rfl,⟨0,none,0,0,rfl⟩,λ_ h2 _=>?_,λe=>absurd e a8⟩;grind
  have hz:=Kh h;have b5:=J.1 hz;refine ρ ?_;refine Jh (k+1) sO ⟨a2,om,λi hi=>?_⟩ om;grind
 have e:k=n:=by have:=oF h;omega
 subst e;have G:∀ p∈ps,RowV w p.1 p.2:=λp hp=>by
  obtain⟨j,hj,rfl⟩:=List.getElem_of_mem hp;have:=(hI j om).1;rw[Xf z0 _ hj]at this;exact(G _ hp).v om
 refine ρ ?_;refine cl (Qdb (hR.ext y) hn ag ae) ?_;rintro u w6 ⟨Z,D,d,rfl,hd,a4⟩;have O:=y.trans Z;have a3:∀ j,(Value.slice D k d).ownBlock=some j->w5.heap.size<=j/\j<w6.heap.size:=by
  obtain⟨_,_,_,_,hf⟩:=Jf a4.1;grind
 have af:∀ p∈ps,Off (one (Value.slice D k d).ownBlock) w6 (λu=>RowV u p.1 p.2):=λp hp=>Off.old (a:=w) (λu hu=>(G p hp).ext hu) O (λj ej=>nL y.size (a3 j ej).1);refine ρ ?_;refine cl (Jpc (ar:=ar) a4 hn ag hd af) ?_;rintro u w7 ⟨hg7,rv,e,rfl,⟨z,B,m,d',au⟩,ah,av⟩;have ac:Ext w w7:=Jt O hg7 (λj ej=>nL y.size (a3 j ej).1);have a5:=(ab.ext a1).ext Z;have a9:=a5.grown hg7 (a5.ne_own a4.1 rfl);subst au;refine ρ ?_;refine stb a9 ?_ (Yk (z:=z) (A:=B) (n:=m) (c:=d'));intro w8 az aw am;refine ρ ?_;refine Xr az ⟨am w ac hb,_,e,rfl,⟨z,B,m,d',rfl⟩,λ_ _ h3=>ah (by grind),λe0=>⟨ay,λr hr=>?_,?_⟩⟩
 .grind [List.mem_map.1,List.getElem_of_mem,Xf,z0]
 obtain⟨ms,m1,m2,m3,m4⟩:=av e0;refine⟨ms,?_,m2,m3,λhc=>m4 (by grind)⟩;have b9:b<w6.heap.size/\(Value.slice D k d).ownBlock≠some b:=⟨a5.lt,λe=>a5.ne_own a4.1 rfl e.symm⟩;refine(m1.grown aw (λj ej=>by grind)).mono λj _ hj=>⟨nM hj O.size,λe=>?_⟩;have:=(a3 j e).1;have:=y.size;omega
open Go.RowKit Pl Go.Wk
attribute [local irreducible] WN WG WH WM
def IntssV(w:World)(v:Value)(zss:List (List Int)): Prop:=∃ A c cs,v=.slice A zss.length c/\zss.length<=c/\Rd w 1 A zss.length cs/\∀ i,i<zss.length->∃ u,cs[i]?=some u/\IntsM w u (zss.getD i [])
def RowssV(w:World)(v:Value)(rss:List (List Row)): Prop:=∃ A c cs,v=.slice A rss.length c/\rss.length<=c/\Rd w 1 A rss.length cs/\∀ i,i<rss.length->∃ u,cs[i]?=some u/\RowsM w u (rss.getD i [])
theorem IntssV.ext{w w':World}{v:Value}{zss:List (List Int)}(h:IntssV w v zss)(hx:Ext w w'): IntssV w' v zss:=by
 obtain⟨A,c,cs,G,D,B,y⟩:=h;exact⟨A,c,cs,G,D,B.ext hx,λi hi=>by obtain⟨u,e,j⟩:=y i hi;exact⟨u,e,j.ext hx⟩⟩
theorem RowssV.ext{w w':World}{v:Value}{zss:List (List Row)}(h:RowssV w v zss)(hx:Ext w w'): RowssV w' v zss:=by
 obtain⟨A,c,cs,G,D,B,y⟩:=h;exact⟨A,c,cs,G,D,B.ext hx,λi hi=>by obtain⟨u,e,j⟩:=y i hi;exact⟨u,e,j.ext hx⟩⟩
structure Cse where
 n: Int
 f:Int
 ds:List Bool
 pm:List Int
 vs:List (List Int)
 rss:List (List Row)
def CseV(w:World)(cs:List Value)(c:Cse): Prop:=∃ dA dc pA pc vA vc rA rc,cs=[.int .i64 c.n,.int .i64 c.f,.slice dA c.ds.length dc,.slice pA c.pm.length pc,.slice vA c.vs.length vc,.slice rA c.rss.length rc] /\
 BoolsM w (.slice dA c.ds.length dc) c.ds/\IntsM w (.slice pA c.pm.length pc) c.pm/\IntssV w (.slice vA c.vs.length vc) c.vs/\RowssV w (.slice rA c.rss.length rc) c.rss/\(-9223372036854775808<=c.n/\c.n<=9223372036854775807)/\(-9223372036854775808<=c.f/\c.f<=9223372036854775807)
theorem CseV.ext{w w':World}{cs:List Value}{c:Cse}(h:CseV w cs c)(hx:Ext w w'): CseV w' cs c:=by
 obtain⟨dA,dc,D,B,j,i,y,u,h1,Z,U,O,J,G⟩:=h;exact⟨dA,dc,D,B,j,i,y,u,h1,Z.ext hx,U.ext hx,O.ext hx,J.ext hx,G⟩
structure FewP(c:Cse): Prop where
 row:∀ i,i<c.rss.length->(c.rss.getD i []).length<=10
 cnt:(Vh c.rss.length λi=>max 1 (c.rss.getD i []).length)<=5000
 n6:c.n<=6∨32<c.n
 v5:c.vs.length<=5
 r5:c.rss.length<=5
 v8:∀ i,i<c.vs.length->(c.vs.getD i []).length<=8
 d10:c.ds.length<=10
 p10:c.pm.length<=10
structure FewS(c:Cse): Prop where
 row:∀ i,i<c.rss.length->(c.rss.getD i []).length<=10
 cnt:(Vh c.rss.length λi=>max 1 (c.rss.getD i []).length)<=5000
 n6:c.n<=6
 v5:c.vs.length<=5
 r5:c.rss.length<=5
 v8:∀ i,i<c.vs.length->(c.vs.getD i []).length<=8
 d10:c.ds.length<=10
 p10:c.pm.length<=10
theorem FewS.p{c:Cse}(h:FewS c): FewP c:=⟨h.row,h.cnt,.inl h.n6,h.v5,h.r5,h.v8,h.d10,h.p10⟩
end Go.Proofs.YtebiphhfkdbpfaaGreatDoor
namespace Go.Wk
open Go.RowKit
variable {d n t ty:Nat}
theorem dalc'{P:Program}{al:AL}{w:World}{Q:Exit->Act->World->Prop}{ops:Array Oper}{drest:List (Nat×Oper)}{pos:String}{aft:Array Edge}{z:Value}{cs:List Value}(hz:Qm P t=some z)(kk:∀ w1 b,Ext w w1->w.heap.size<=b->Blk w1 b t cs->WD P n ops Q drest ((d,.pointer (some ⟨b,0,none⟩))::al) w1)(hv:z.cells=cs.toArray:=by rfl)(hd:Nat.blt d n=true:=by rfl):
  WD P n ops Q ((1,⟨some d,.alloc t,ty,pos,aft,none⟩)::drest) al w:=by grind [done_,alc,Jr,eback]
end Go.Wk
namespace Go.Wk
open Go.RowKit
variable {b bytes d n t ty:Nat}
section
variable {α:Type} {E:TypeId} {sz base:Nat} {Φ:World->List Value->α->Prop} {N0:Nat->Prop} {w w':World} {v:Value} {ls:List α}
def OwnM(E:TypeId)(sz:Nat)(Φ:World->List Value->α->Prop)(N0:Nat->Prop)(w:World)(base:Nat)(v:Value)(ls:List α): Prop :=
 ∃ ps:List (List Value×α),ls=ps.map (·.2)/\w.ownsRow base E sz v ps.length (Jc ps)/\∀ p∈ps,p.1.length=sz/\Off (λk=>N0 k∨v.ownBlock=some k) w (λu=>Φ u p.1 p.2)
theorem OwnM.nil(w:World)(base:Nat): OwnM E sz Φ N0 w base (.slice none 0 0) []:=⟨[],rfl,Zg _ _ _ _,λp i=>by cases i⟩
theorem OwnM.gr(h:OwnM E sz Φ N0 w base v ls)(hg:GrN N0 w w')(hN:∀ g,v.ownBlock=some g->¬ N0 g): OwnM E sz Φ N0 w' base v ls:=by
 obtain⟨ps,B,y,j⟩:=h;exact⟨ps,B,Qn y hg hN,λp i=>⟨(j p i).1,(j p i).2.gr (hg.mono λk _ u=>.inl u)⟩⟩
theorem OwnM.ext(h:OwnM E sz Φ N0 w base v ls)(hx:Ext w w'): OwnM E sz Φ N0 w' base v ls:=by
 obtain⟨ps,y,u,j⟩:=h;exact⟨ps,y,Ju u hx,λp i=>⟨(j p i).1,(j p i).2.ext hx⟩⟩
theorem OwnM.form(h:OwnM E sz Φ N0 w base v ls): ∃ A c,v=.slice A ls.length c/\ls.length<=c/\∀ g,v.ownBlock=some g->base<=g/\g<w.heap.size:=by
 obtain⟨ps,rfl,j,i⟩:=h;grind [Jf]
theorem OwnM.gv(h:OwnM E sz Φ N0 w base v ls)(hm:ls.length<=1100000): GV sz Φ w v ls:=by
 obtain⟨ps,rfl,u,j⟩:=h;obtain⟨A,c,rfl,y,B⟩:=Jf u;exact⟨ps,A,c,rfl,rfl,y,by simpa using hm,Rd.own u,λp i=>⟨(j p i).1,(j p i).2.here⟩⟩
theorem apM{P:Program}{al:AL}{Q:Exit->Act->World->Prop}{ops:Array Oper}{rest:List Oper}{pos:String}{aft:Array Edge}{z:Value}(hE:ElT P t E sz bytes z){x y:Operand}{cs:List Value}{a:α}(ho:OwnM E sz Φ N0 w base v ls)(hb:Blk w b E cs)(hl:cs.length=sz)(h1:∀ u∈cs,u.oneCell'=true)(hΦ:Off (λk=>N0 k∨v.ownBlock=some k) w (λu=>Φ u cs a))(hm:ls.length<=1100000)(hby:bytes<=128)(hbase:base<=w.heap.size)(kk:∀ v' w',OwnM E sz Φ N0 w' base v' (ls++[a])->w.grownBy w' v.ownBlock->(∀ g,v'.ownBlock=some g->v.ownBlock=some g∨w.heap.size<=g)->WL P n ops Q rest ((d,v')::al) w')(hx:ev al x=some v:=by rfl)(hy:ev al y=some (.slice (some ⟨b,0,none⟩) 1 1):=by rfl)(hd:Nat.blt d n=true:=by rfl):
  WL P n ops Q (⟨some d,.call { callee:=.builtin .append,args:=#[x,y],argTypes:=#[t,t] },ty,pos,aft,none⟩::rest) al w:=by
 obtain⟨ps,e,hr,U⟩:=ho;have Z:ps.length<=1100000:=by rw[e,List.length_map]at hm;exact hm
 have a1:(ps.length+1)*bytes<=1100001*128:=Nat.mul_le_mul om hby;refine apb hE hr (hb.rd (n:=1) om) h1 (by unfold maxLen;omega) om hbase ?_ hx hy hd;intro v' w' O G D;have j:∀ {Ψ:World->Prop},Off (λk=>N0 k∨v.ownBlock=some k) w Ψ->Off (λk=>N0 k∨v'.ownBlock=some k) w' Ψ:=fun {Ψ} h W hW=>by
  refine h W ?_;have h1:GrN (λk=>(N0 k∨v.ownBlock=some k)∨w.heap.size<=k) w W:=(GrN.by G λk B=>.inl (.inr B)).trans (hW.mono λk _ B=>by
   rcases B with B|B
   .exact .inl (.inl B)
   rcases D k B with i|i
   .exact .inl (.inr i)
   exact .inr i)
  exact h1.mono λk B h=>h.elim id λi=>by omega
 refine kk v' w' ⟨ps++[(cs,a)],by rw[e];simp,?_,λp J=>?_⟩ G D
 .have e2:Jc (ps++[(cs,a)])=Jc ps++cs:=by simp[Jc]
  rw[List.length_append,e2];exact O
 rcases List.mem_append.1 J with i|i
 .exact⟨(U p i).1,j (U p i).2⟩
 rw[List.mem_singleton.1 i];exact⟨hl,j hΦ⟩
end
end Go.Wk
namespace Go.Proofs.YtebiphhfkdbpfaaGreatDoor
open Go.RowKit Pl Go.Wk
attribute [local irreducible] WC WL QX WD WDB WP WN WG WH WM
theorem Ih: Qm Tryz.prog 35=some (.agg #[.int .i64 0,.int .i64 0,.slice none 0 0,.slice none 0 0,.slice none 0 0]):=kr
theorem Qdx(n f:Int)(A B:Option Addr)(a a' b b':Nat)(w:World): (Instr.build 35 #[(0,.int .i64 n),(1,.int .i64 f),(2,.slice A a a'),(3,.slice B b b')]).run Tryz.prog w=.ok (.agg #[.int .i64 n,.int .i64 f,.slice A a a',.slice B b b',.slice none 0 0]) w:=kr
structure MkA(a:Atm)(zs:List Int)(rows:List Row): Prop where
 vars:a.vars=zs
 ar:a.ar=zs.length
 l32:zs.length<=32
 ok:∀ r∈rows,r.length=zs.length/\r.all Xm=true
 len:a.rows.length<=65536
 sub:∀ x∈a.rows,x∈rows
 set:rows.length<=12->Va [] rows a.rows
structure MkS(c:Cse): Prop where
 len:c.vs.length=c.rss.length
 l32:∀ i,i<c.vs.length->(c.vs.getD i []).length<=32
 ok:∀ i,i<c.vs.length->∀ r∈c.rss.getD i [],r.length=(c.vs.getD i []).length/\r.all Xm=true
 row:∀ i,i<c.vs.length->(c.rss.getD i []).length<=65536
theorem Qkt{w0 w:World}{cs:List Value}{c:Cse}(h:CseV w0 cs c)(hF:FewP c)(h00:Ext w0 w): Ret Tryz.prog 16 [.agg cs.toArray] w λu w'=>Ext w w'/\∃(dA pA aA:Option Addr) (dc pc ac an:Nat) (ok:Bool),u=.tuple #[.agg #[.int .i64 c.n,.int .i64 c.f,.slice dA c.ds.length dc,.slice pA c.pm.length pc,.slice aA an ac],.bool ok] /\
  BoolsV w0 (.slice dA c.ds.length dc) c.ds/\IntsV w0 (.slice pA c.pm.length pc) c.pm/\(ok=true->c.vs.length=c.rss.length/\∃ ats:List Atm,ats.length=c.vs.length/\Off (λk=>w0.heap.size<=k/\k<w.heap.size) w' (λu=>GV 3 AtG u (.slice aA an ac) ats)/\∀ i,i<c.vs.length->MkA (ats.getD i a0) (c.vs.getD i []) (c.rss.getD i []))/\(MkS c->ok=true):=by
 obtain⟨dA,dc,pA,pc,vA,vc,rA,rc,rfl,hD,hP,d2,hR,hn,hf⟩:=h;have df:c.vs.length<=5:=hF.v5;have dg:c.rss.length<=5:=hF.r5;replace hD:=hD.v (nL hF.d10 (by decide))
 replace hP:=hP.v (nL hF.p10 (by decide))
 have hV:=d2;obtain⟨_,_,cr,e1,_,ce,cc⟩:=id hR;injection e1 with e1 e2 e3
 subst e1;subst e3;obtain⟨_,_,da,e1,_,cb,d1⟩:=id hV;injection e1 with e1 e2 e3
 subst e1;subst e3;have d4:=ce.ext h00;have bm:=cb.ext h00;have d3:∀ i,i<c.rss.length->∃ u,cr[i]?=some u/\RowsM w u (c.rss.getD i []):=λi hi=>by obtain⟨u,e,hu⟩:=cc i hi;exact⟨u,e,hu.ext h00⟩
 refine Jz Tryz.func16 Tryz.ntmps16 rfl kr rfl ?_;refine ρ ?_;refine bx ?_;intro w1 b aa hb hB;refine ρ ?_;refine alc Ih ?_;intro w2 b2 aw bl cp;have ab:=hB.ext aw;refine ρ ?_;refine ld (ab.at (i:=0) rfl) ?_;refine ρ ?_;refine ld (ab.at (i:=1) rfl) ?_;refine ρ ?_;refine ld (ab.at (i:=2) rfl) ?_;refine ρ ?_;refine ld (ab.at (i:=3) rfl) ?_;refine ρ ?_;refine bld (Qdx _ _ _ _ _ _ _ _ _) ?_;refine ρ ?_;refine alc Ih ?_;intro w3 J cx c4 d8;refine ρ ?_;refine stW d8 ?_;intro w4 a8 dq cw;have ae:Ext w2 w4:=cw w2 cx c4;have a2:=(aa.trans aw).trans ae;have c5:¬ b=J:=λe=>by have:=ab.lt;omega
 have b3:¬ b2=J:=λe=>by have:=cp.lt;omega
 have bb:=ab.ext ae;have ap:=cp.ext ae;refine ρ ?_;refine Qq (fun (i:Nat) (av:Value)=>[(1,.pointer (some ⟨b,0,none⟩)),(2,.pointer (some ⟨b2,0,none⟩)),(3,.bool false),(4,.pointer (some ⟨J,0,none⟩)),(5,.int .i64 (i:Int))])
  (λi av w'=>i<=c.vs.length/\i<=c.rss.length/\GrN (λk=>k=J) w4 w'/\Blk w' J 35 [.int .i64 c.n,.int .i64 c.f,.slice dA c.ds.length dc,.slice pA c.pm.length pc,av]/\∃ ats:List Atm,ats.length=i/\OwnM 82 3 AtG (λk=>(k=b2∨k=J)∨(w0.heap.size<=k/\k<w.heap.size)) w' w4.heap.size av ats/\∀ j,j<i->MkA (ats.getD j a0) (c.vs.getD j []) (c.rss.getD j [])) (λi _=>c.vs.length-i) 0 (.slice none 0 0) sB
  ⟨Nat.zero_le _,Nat.zero_le _,GrN.refl _ _,a8,[],rfl,OwnM.nil _ _,λj hj=>om⟩ ?_
 rintro i av w5 ⟨dl,dm,ah,am,ats,c7,aj,hmk⟩;have a1:=Ql bb ah c5;have ao:=Ql ap ah b3;have au:Ext w w5:=ah.old a2 λk y=>by rw[y];have:=(aa.trans aw).size;omega
 refine ρ ?_;refine ld (a1.at (i:=4) rfl) ?_;refine ρ ?_;refine Uk (fun (t:Bool)=>[(28,.bool t),(1,.pointer (some ⟨b,0,none⟩)),(2,.pointer (some ⟨b2,0,none⟩)),(3,.bool false),(4,.pointer (some ⟨J,0,none⟩)),(5,.int .i64 (i:Int))]) (λt w6=>w6=w5/\(t=true↔i<c.vs.length/\i<c.rss.length)) ?_ ?_
 .refine ki 22 (λh=>?_) (λh=>?_)
  .have:=oT h;refine ρ ?_;refine ld (a1.at (i:=5) rfl) ?_;refine ρ ?_;refine Jg (decide ((i:Int)<(c.rss.length:Int))) sB ⟨rfl,?_⟩;rw[decide_eq_true_eq];omega
  have:=oF h;refine ρ ?_;refine Jg false sB ⟨rfl,?_⟩;constructor
  .intro h;cases h
  omega
 rintro t w6 ⟨rfl,ht⟩;refine ρ ?_;refine ci (λh=>?_) (λh=>?_)
 .obtain⟨lv,lr⟩:=ht.1 h;clear h;obtain⟨vu,bq,ax⟩:=d1 i lv;obtain⟨ru,cy,bd⟩:=d3 i lr;obtain⟨QA,qc,rfl,di,dj⟩:=id ax;have dh:=hF.v8 i lv;replace ax:=ax.v om
  have G:Ext w6 w6.drew:=(Ext.refl w6).drew;have O:=au.trans G;have ck:=a1.ext G;have ca:=bm.ext O;have cd:=d4.ext O;obtain⟨TA,tc,rfl,_⟩:=id (bd.ext O).form;have az:(c.rss.getD i []).length<=1000000:=nL (hF.row i lr) (by decide);refine ρ ?_;refine drH (λi=>Nat.ble 16 i) ?_;refine Vy (fuel':=7) 8 [(0,0),(0,1),(0,2),(0,3),(0,4),(0,5),(0,6),(0,7),(0,8),(0,9),(0,10)] (lst 18 11) kr kr rfl ?_;refine ρd ?_;refine dld (ck.at (i:=4) rfl) ?_;refine ρd ?_;refine dix i ca lv ?_;refine ρd ?_;refine dld (ca.cell bq) ?_;refine ρd ?_;refine dld (ck.at (i:=5) rfl) ?_;refine ρd ?_;refine dix i cd lr ?_;refine ρd ?_;refine dld (cd.cell cy) ?_;refine ρd ?_;refine Zw ?_;refine hcut 2 (lst 18 16) (fun (q:Value×Int×Nat)=>[(44,q.1),(45,.int .i64 q.2.1),(6,.pointer (some ⟨q.2.2,0,none⟩)),(1,.pointer (some ⟨b,0,none⟩)),(2,.pointer (some ⟨b2,0,none⟩)),(3,.bool false),(4,.pointer (some ⟨J,0,none⟩)),(5,.int .i64 (i:Int))])
   (λq W=>Ext w6.drew W/\Blk W q.2.2 80 [.int .i64 0,.slice none 0 0]/\w6.drew.heap.size<=q.2.2/\(∃ z B m d,q.1=.agg #[.int .i64 z,.slice B m d])/\((c.vs.getD i []).length<=32->(∀ r∈c.rss.getD i [],r.length=(c.vs.getD i []).length/\r.all Xm=true)->(c.rss.getD i []).length<=65536->q.2.1=0) /\
    (q.2.1=0->(c.vs.getD i []).length<=32/\(∀ r∈c.rss.getD i [],r.length=(c.vs.getD i []).length/\r.all Xm=true)/\∃ m,Off (λk=>k<w6.drew.heap.size∨k=q.2.2) W (λu=>RelV u q.1 (c.vs.getD i []).length m)/\m.length<=65536/\(∀ x∈m,x∈c.rss.getD i [])/\(((c.rss.getD i []).length<=12∨Srt [] (c.rss.getD i []))->Va [] (c.rss.getD i []) m))) ?_ ?_
  .rintro⟨rv,e,b6⟩ W ⟨cu,cn,c2,⟨z,B,mm,dd,cq⟩,U,Z⟩;simp only at cn c2 U Z cq;subst cq;refine Vy (fuel':=0) 8 [(2,16),(2,17)] (lst 18 18) kr kr rfl ?_;refine Jy ?_;refine stb (cs':=[.int .i64 z,.slice B mm dd]) cn ?_ Yk;intro W2 cm bw bp;refine Jr (Jo ?_);refine Jy ?_;refine ρ ?_;refine Jo ?_;refine dnil (Zw ?_);refine Xn kr ?_;have D:Ext w6 W2:=bp w6 (G.trans cu) (nL G.size c2);have bi:GrN (λk=>k=b6) W W2:=GrN.by bw λk y=>by injection y with y;exact y.symm
   have ba:=am.ext D;refine ρ ?_;refine ci (λh=>?_) (λh=>?_)
   .refine ρ ?_;refine ldW ba ?_;obtain⟨AA,ac,aq,_,_⟩:=aj.form;subst aq;refine ρ ?_;refine stW (ao.ext D) ?_;intro W3 bn c0 ad;have bc:Ext w W3:=ad w (au.trans D) (nL aa.size bl);refine ρ ?_;exact Xr bn ⟨bc,dA,pA,AA,dc,pc,ac,ats.length,false,rfl,hD,hP,λh=>(by cases h),λhS=>absurd (U (hS.l32 i lv) (hS.ok i lv) (hS.row i lv)) (Kg h)⟩
   have he:e=0:=Kh h;clear h;obtain⟨br,bs,m,bt,d0,bg,bh⟩:=Z he;have bf:=bt.gr (bi.mono λk _ y=>(.inr y:k<w6.drew.heap.size∨k=b6));obtain⟨AA,ac,aq,c8,a4⟩:=aj.form;subst aq;have ag:∀ g,(Value.slice AA ats.length ac).ownBlock=some g->w4.heap.size<=g:=λg e=>(a4 g e).1;have a3:Ext W2 W2.drew:=(Ext.refl W2).drew;have b9:=ba.ext a3;have ch:=(aj.ext D).ext a3;have af:Ext w W2.drew:=(au.trans D).trans a3;have d6:=(a1.ext D).ext a3;have co:=cm.ext a3;obtain⟨de,_,cz,_⟩:=id ch;have n4:¬ (Value.slice AA ats.length ac).ownBlock=some J:=λe=>by have:=ag J e;have:=a8.lt;omega
   have n1:¬ (Value.slice AA ats.length ac).ownBlock=some b:=λe=>by have:=ag b e;have:=bb.lt;omega
   have n6:¬ (Value.slice AA ats.length ac).ownBlock=some b6:=λe=>by have:=(a4 b6 e).2;have:=G.size;omega
   have d5:∀ {W'},GrN (λk=>(Value.slice AA ats.length ac).ownBlock=some k) W2.drew W'->Ext w W':=λhg=>hg.old af λk y=>by have:=ag k y;have:=a2.size;omega
   refine ρ ?_;refine drN (λk=>(Value.slice AA ats.length ac).ownBlock=some k) 10 [(0,0),(0,1),(0,2),(0,3),(0,4),(0,5),(0,6),(0,7),(0,8),(1,9),(1,10),(0,11),(2,12)] kr ?_;refine ρn ?_;refine nld (Gl (b9.at (i:=4) rfl) n4) ?_;refine ρn ?_;refine nld (Gl (d6.at (i:=4) rfl) n1) ?_;refine ρn ?_;refine nix i (bm.ext af) lv ?_;refine ρn ?_;refine nld (λw' hg=>(bm.ext (d5 hg)).cell bq) ?_;refine ρn ?_;refine Jjl (cs:=[.int .i64 z,.slice B mm dd]) (λw' hg j u hu=>(Ql co hg n6).at hu) ?_;refine ρn ?_;refine nbld (λw=>Qff _ _ _ _ _ _ _ w) ?_;refine ρn ?_;refine nop ?_;refine bsl (λw=>Qdl _ _ _ QA B _ qc _ dd _ rfl rfl rfl w) ?_;intro W3 b8 a5 dw d7;refine ρ ?_;refine Zh (GrN.ext a5) ?_;refine nop ?_;have be:=(bf.ext a3).ext a5;have hΦ:Off (λk=>((k=b2∨k=J)∨(w0.heap.size<=k/\k<w.heap.size))∨(Value.slice AA ats.length ac).ownBlock=some k) W3 (λu=>AtG u [.slice QA (c.vs.getD i []).length qc,.int .i64 z,.slice B mm dd] ⟨c.vs.getD i [],(c.vs.getD i []).length,m⟩):=by
    intro W' c1;have h1:IntsV W' (.slice QA (c.vs.getD i []).length qc) (c.vs.getD i []):=ax.ext (c1.old (h00.trans (af.trans a5)) λk y=>by
     rcases y with((y|y)|y)|y
     .rw[y];exact nL (h00.trans aa).size bl
     .rw[y];exact nL (h00.trans (aa.trans aw)).size c4
     .exact y.1
     have:=ag k y;have:=(h00.trans a2).size;omega)
    obtain⟨db,er,h2⟩:=be W' (c1.mono λk _ y=>.inl (by
     rcases y with((y|y)|y)|y
     .have:=ao.lt;have:=G.size;omega
     .have:=am.lt;have:=G.size;omega
     .have:=O.size;omega
     have:=(a4 k y).2;have:=G.size;omega))
    have bo:=congrArg (λv:Value=>match v with | .agg xs=>xs.toList|_=>[]) er;simp only[List.cons.injEq,Value.int.injEq,true_and,and_true]at bo;refine⟨(.slice QA (c.vs.getD i []).length qc,.int .i64 z,.slice B mm dd),rfl,h1,?_,?_⟩
    .simp only;rw[bo.1]
    simp only;rw[bo.2];exact h2
   refine apM EA (Φ:=AtG) (ch.ext a5) d7 rfl (one3 rfl) hΦ om om (nL ah.size (nL (D.trans a3).size a5.size)) ?_;intro a7 W4 cj bz dk;refine ρ ?_;refine Zh (GrN.by bz λk y=>y) ?_;have b1:GrN (λk=>(Value.slice AA ats.length ac).ownBlock=some k) W3 W4:=GrN.by bz λk y=>y
   have ak:=Ql (b9.ext a5) b1 n4;obtain⟨A9,c9,d9,du,c6⟩:=cj.form;refine ρn ?_;refine Kn ?_;refine sto (ak.at (i:=4) rfl) (ak.frozen 4) ?_ (hv:=by rw[d9];rfl);have ai:GrN (λk=>k=J) W4 (W4.setCell ((⟨J,0,none⟩:Addr).add 4) a7):=GrN.set _ rfl;have b7:Blk (W4.setCell ((⟨J,0,none⟩:Addr).add 4) a7) J 35 [.int .i64 c.n,.int .i64 c.f,.slice dA c.ds.length dc,.slice pA c.pm.length pc,a7]:=ak.set 4 _;have b5:OwnM 82 3 AtG (λk=>(k=b2∨k=J)∨(w0.heap.size<=k/\k<w.heap.size)) (W4.setCell ((⟨J,0,none⟩:Addr).add 4) a7) w4.heap.size a7 (ats++[⟨c.vs.getD i [],(c.vs.getD i []).length,m⟩]):=cj.gr (ai.mono λk _ h=>.inl (.inr h)) λg eg e=>by have:=(c6 g eg).1;have:=a8.lt;have:=ap.lt;have:=a2.size;rcases e with(e|e)|e<;>omega
   generalize (W4.setCell ((⟨J,0,none⟩:Addr).add 4) a7)=W5 at ai b7 b5
   have hgt:GrN (λk=>k=J) w4 W5:=by
    have h1:GrN (λk=>k=J∨w4.heap.size<=k) w4 W5:=(((ah.mono λk _ h=>(.inl h:k=J∨w4.heap.size<=k)).trans (GrN.ext ((D.trans a3).trans a5))).trans (b1.mono λk _ h=>.inr (ag k h))).trans (ai.mono λk _ h=>.inl h);exact h1.mono λk y h=>h.elim id λh'=>by omega
   refine Jr (Km ?_);refine ρn ?_;refine ρ ?_;refine Ja (i+1) a7 sO ⟨om,om,hgt,b7,_,by rw[List.length_append,c7];rfl,b5,λj hj=>?_⟩ om;by_cases ej:j=i
   .subst ej;have:(ats++[(⟨c.vs.getD j [],(c.vs.getD j []).length,m⟩:Atm)]).getD j a0=⟨c.vs.getD j [],(c.vs.getD j []).length,m⟩:=by simp[List.getD,<-c7]
    rw[this];exact⟨rfl,rfl,br,bs,d0,bg,λh=>bh (.inl h)⟩
   have:(ats++[(⟨c.vs.getD i [],(c.vs.getD i []).length,m⟩:Atm)]).getD j a0=ats.getD j a0:=by simp[List.getD,List.getElem?_append_left (show j<ats.length by omega)]
   rw[this];exact hmk j om
  intro rest;refine htwo 11 15 kr rfl rfl rfl ?_ ?_
  .refine ρ ?_;refine cl (Jfm (ar:=(c.vs.getD i []).length) (bd.ext O) az) ?_;rintro u W ⟨hy,rv,e,rfl,a6,U,Z⟩;refine Jr (Jhw hy ?_);refine Vy (fuel':=4) 8 [(0,12),(0,13)] (lst 18 14) kr kr rfl ?_;refine ρd ?_;refine Zw ?_;refine hpur (fuel':=3) 14 kr kr rfl rfl ?_;refine ρp ?_;refine ρd ?_;refine Zw ?_;refine Vy (fuel':=2) 8 [(1,15)] (lst 18 16) kr kr rfl ?_;refine dalc' (cs:=[.int .i64 0,.slice none 0 0]) Ux ?_;intro W2 b6 a9 bj ay;refine dnil (Zw ?_);refine rest (rv,e,b6) _ _ ⟨hy.trans a9,ay,Nat.le_trans hy.size bj,a6,U,λhe=>?_⟩ sB;obtain⟨q1,q2,m,q3,q4,q5,q6⟩:=Z he;exact⟨q1,q2,m,(q3.mono λk y h=>h.elim id fun (h:k=b6)=>om).ext a9,q4,q5,q6⟩
  refine ρ ?_;refine alc Ux ?_;intro W b6 hy bj ay;refine Jr (Jhw hy ?_);refine Vy (fuel':=3) 8 [(1,11),(0,12),(0,13)] ((lst 18 14).setIfInBounds 15 true) kr kr rfl ?_;refine ρd ?_;refine dcl (Jfm (ar:=(c.vs.getD i []).length) (bd.ext (O.trans hy)) az) ?_;rintro u W2 ⟨a9,rv,e,rfl,a6,U,Z⟩;refine⟨a9,?_⟩;refine ρd ?_;refine Zw ?_;refine hpur (fuel':=2) 14 kr kr rfl rfl ?_;refine ρp ?_;refine ρd ?_;refine Zw ?_;refine Ye (listed':=lst 18 16) kr ?_;refine rest (rv,e,b6) _ _ ⟨hy.trans a9,ay.ext a9,bj,a6,U,λhe=>?_⟩ sB;obtain⟨q1,q2,m,q3,q4,q5,q6⟩:=Z he;refine⟨q1,q2,m,q3.mono λk y h=>?_,q4,q5,q6⟩;have:=ay.lt;have:=hy.size;rcases h with h|(h:k=b6)<;>omega
 have dt:¬ (i<c.vs.length/\i<c.rss.length):=λh'=>by have:=ht.2 h';rw[h]at this;cases this
 clear h ht;obtain⟨AA,ac,aq,c8,a4⟩:=aj.form;subst aq;have G:Ext w6 w6.drew:=(Ext.refl w6).drew;refine ρ ?_;have n2:¬ b=b2:=λe=>by have:=hB.lt;omega
 refine drN (λk=>k=b2) 10 [(0,0),(0,1),(0,2),(0,3),(0,4),(0,5),(0,6),(0,7),(1,8),(0,9)] kr ?_;refine ρn ?_;refine Jjl (cs:=[.int .i64 c.n,.int .i64 c.f,.slice dA c.ds.length dc,.slice pA c.pm.length pc,.slice AA ats.length ac]) (λw' hg j u hu=>(Ql (am.ext G) hg (λe=>b3 e.symm)).at hu) ?_;refine ρn ?_;refine nld (Gl ((a1.ext G).at (i:=4) rfl) n2) ?_;refine ρn ?_;refine nld (Gl ((a1.ext G).at (i:=5) rfl) n2) ?_;refine ρn ?_;refine nop ?_;refine stW (ao.ext G) ?_;intro W3 bn c0 ad;have bc:Ext w W3:=ad w (au.trans G) (nL aa.size bl);have bu:GrN (λk=>k=b2) w6.drew W3:=GrN.by c0 λk y=>by injection y with y;exact y.symm
 refine Jr (Zh bu ?_);refine ρn ?_;refine ρ ?_;refine Xr bn ⟨bc,dA,pA,AA,dc,pc,ac,ats.length,((c.vs.length:Int) == (c.rss.length:Int)),rfl,hD,hP,λh=>?_,λhS=>by rw[hS.len];exact beq_self_eq_true _⟩;have he:c.vs.length=c.rss.length:=by have:=Ur h;omega
 have dn:i=c.vs.length:=om
 refine⟨he,ats,om,?_,λj hj=>hmk j om⟩;have cg:∀ g,(Value.slice AA ats.length ac).ownBlock=some g->¬ ((g=b2∨g=J)∨(w0.heap.size<=g/\g<w.heap.size)):=λg eg e=>by have:=(a4 g eg).1;have:=a8.lt;have:=ap.lt;have:=a2.size;rcases e with(e|e)|e<;>omega
 intro W hW;exact(((aj.ext G).gr (bu.mono λk _ h=>.inl (.inl h)) cg).gr (hW.mono λk _ h=>.inr h) cg).gv om
open Go.RowKit Pl Go.Wk
variable {c:Cse}{cs:List Value}{w w0:World}
def MkR(w:World)(c:Cse)(u:Value)(P:Prop): Prop:=∃(dA pA aA:Option Addr) (dc pc ac an:Nat) (ok:Bool),u=.tuple #[.agg #[.int .i64 c.n,.int .i64 c.f,.slice dA c.ds.length dc,.slice pA c.pm.length pc,.slice aA an ac],.bool ok] /\
 BoolsV w (.slice dA c.ds.length dc) c.ds/\IntsV w (.slice pA c.pm.length pc) c.pm/\(ok=true->c.vs.length=c.rss.length/\∃ ats:List Atm,ats.length=c.vs.length/\GV 3 AtG w (.slice aA an ac) ats/\(∀ i,i<c.vs.length->MkA (ats.getD i a0) (c.vs.getD i []) (c.rss.getD i []))/\(P->Yu ⟨c.n,c.f,c.ds,c.pm,ats⟩))/\(MkS c->(∀ ats:List Atm,ats.length=c.vs.length->(∀ i,i<c.vs.length->MkA (ats.getD i a0) (c.vs.getD i []) (c.rss.getD i []))->Yu ⟨c.n,c.f,c.ds,c.pm,ats⟩)->ok=true)
def MkO(w0:World)(N:Nat->Prop)(w:World)(c:Cse)(u:Value)(P:Prop): Prop:=∃(dA pA aA:Option Addr) (dc pc ac an:Nat) (ok:Bool),u=.tuple #[.agg #[.int .i64 c.n,.int .i64 c.f,.slice dA c.ds.length dc,.slice pA c.pm.length pc,.slice aA an ac],.bool ok] /\
 BoolsV w0 (.slice dA c.ds.length dc) c.ds/\IntsV w0 (.slice pA c.pm.length pc) c.pm/\(ok=true->c.vs.length=c.rss.length/\∃ ats:List Atm,ats.length=c.vs.length/\Off N w (λu=>GV 3 AtG u (.slice aA an ac) ats)/\(∀ i,i<c.vs.length->MkA (ats.getD i a0) (c.vs.getD i []) (c.rss.getD i []))/\(P->Yu ⟨c.n,c.f,c.ds,c.pm,ats⟩))/\(MkS c->(∀ ats:List Atm,ats.length=c.vs.length->(∀ i,i<c.vs.length->MkA (ats.getD i a0) (c.vs.getD i []) (c.rss.getD i []))->Yu ⟨c.n,c.f,c.ds,c.pm,ats⟩)->ok=true)
theorem Jsf(h:CseV w0 cs c)(hF:FewP c)(h00:Ext w0 w): Ret Tryz.prog 28 [.agg cs.toArray] w λu w'=>Ext w w'/\MkO w0 (λk=>w0.heap.size<=k/\k<w.heap.size) w' c u True:=by
 obtain⟨b6,b5,b1,az,vA,vc,rA,rc,ay,_,_,_,_,hn,hf⟩:=id h;subst ay;refine Jz Tryz.func28 Tryz.ntmps28 rfl kr rfl ?_;refine ρ ?_;refine bx ?_;intro w1 b G hb hB;refine ρ ?_;refine alc Ih ?_;intro w2 b2 Z ae a8;have aw:=hB.ext Z;refine ρ ?_;refine ldW aw ?_;refine ρ ?_;refine cl (Qkt h hF (h00.trans (G.trans Z))) ?_;rintro u w3 ⟨a4,dA,pA,aA,dc,pc,ac,an,ok,rfl,hD,hP,ap,aa⟩;refine ρ ?_;refine alc Ih ?_;intro w4 b4 aj au av;refine ρ ?_;refine stW av ?_;intro w5 a7 b3 ai;have D:Ext w3 w5:=ai w3 aj au;have a1:=(a8.ext a4).ext D;have a9:=((G.trans Z).trans a4).trans D;refine ρ ?_;have y:Ext w5 w5.drew:=(Ext.refl w5).drew;have a2:¬ b4=b2:=λe=>by have:=a8.lt;have:=a4.size;omega
 have a3:=a9.trans y;have ag:∀ {W:World},GrN (λk=>k=b2) w5.drew W->Ext w W:=λhg=>hg.old a3 λk B=>by rw[B];exact nL G.size ae
 have ar:=a8.lt;cases ok with
 | true=>
  obtain⟨ad,ats,af,ab,hmk⟩:=ap rfl;have O:=(ab.ext D).ext y;have hG:=O.here;obtain⟨ts,A,cc,ax,eA,aq,ak,ao,am⟩:=Jpp hG;refine drN (λk=>k=b2) 10 [(0,0),(0,1),(0,2),(0,3),(1,4),(0,5),(0,6),(1,7),(0,8)] kr ?_;refine ρn ?_;refine Jjl (cs:=[.int .i64 c.n,.int .i64 c.f,.slice dA c.ds.length dc,.slice pA c.pm.length pc,.slice aA an ac]) (λw' hg j u hu=>(Ql (a7.ext y) hg a2).at hu) ?_;refine ρn ?_;refine Jjl (cs:=[.int .i64 c.n,.int .i64 c.f,.slice dA c.ds.length dc,.slice pA c.pm.length pc,.slice aA an ac]) (λw' hg j u hu=>(Ql (a7.ext y) hg a2).at hu) ?_;refine ρn ?_;refine nop ?_;refine cl (Jlg (inp:=⟨c.n,c.f,c.ds,c.pm,ats⟩) ⟨_,rfl,_,_,_,rfl,hD.ext (h00.trans a3),hP.ext (h00.trans a3),⟨ts,A,cc,ax,eA,aq,ak,ao,am⟩⟩ hn hf) ?_;rintro u w6 ⟨U,e,rfl,he⟩;refine ρ ?_;refine Zh (GrN.ext U) ?_;refine ρn ?_;refine nop ?_;refine stW ((a1.ext y).ext U) ?_;intro w7 a6 hg7 ah
  have i:GrN (λk=>k=b2) w6 w7:=GrN.by hg7 λk B=>by injection B with B;exact B.symm
  refine Jr (Zh i ?_);have J:=ag ((GrN.ext U).trans i);refine ρn ?_;refine ρ ?_;refine Xr a6 ⟨J,dA,pA,aA,dc,pc,ac,an,_,rfl,hD,hP,λh=>⟨ad,ats,af,?_,hmk,λ_=>he.1 (Ur h)⟩,λ_ hC=>?_⟩;rotate_left
  .have:=he.2 (hC ats af hmk);rw[this];rfl
  have a5:=(O.ext U).gr (i.mono λk _ B=>by rw[B];exact⟨nL (h00.trans G).size ae,ar⟩);exactλW hW=>a5 W (hW.mono λk _ B=>⟨B.1,Nat.lt_of_lt_of_le B.2 (G.trans Z).size⟩)
 | false=>
  refine drN (λk=>k=b2) 10 [(0,0),(0,1),(0,2),(0,3),(1,4),(0,5),(0,6),(1,7),(0,8)] kr ?_;refine ρn ?_;refine Jjl (cs:=[.int .i64 c.n,.int .i64 c.f,.slice dA c.ds.length dc,.slice pA c.pm.length pc,.slice aA an ac]) (λw' hg j u hu=>(Ql (a7.ext y) hg a2).at hu) ?_;refine ρn ?_;refine nop ?_;refine stW (a1.ext y) ?_;intro w7 a6 hg7 ah;have i:GrN (λk=>k=b2) w5.drew w7:=GrN.by hg7 λk B=>by injection B with B;exact B.symm
  refine Jr (Zh i ?_);have J:=ag i;refine ρn ?_;refine ρ ?_;exact Xr a6 ⟨J,dA,pA,aA,dc,pc,ac,an,false,rfl,hD,hP,λh=>(by cases h),λhS _=>aa hS⟩
theorem Qkz(h:CseV w cs c)(hF:FewP c): Ret Tryz.prog 28 [.agg cs.toArray] w λu w'=>Ext w w'/\MkR w' c u True:=(Jsf h hF (Ext.refl w)).mono λu w' ⟨i,dA,y,aA,dc,j,ac,an,B,e,h1,h2,Z,U⟩=>⟨i,dA,y,aA,dc,j,ac,an,B,e,h1.ext i,h2.ext i,λh=>by
 obtain⟨O,ats,J,G,D⟩:=Z h;exact⟨O,ats,J,G.here,D⟩,U⟩
end Go.Proofs.YtebiphhfkdbpfaaGreatDoor
namespace Go.Proofs.YtebiphhfkdbpfaaGreatDoor
open Go.RowKit Pl Go.Wk Bl Nw
attribute [local irreducible] WC WL QX WD WDB WP WN WG WH
variable {c n:Nat}{v:Value}{w:World}
theorem Qkl(hv:NatV w v n)(hs:(Jj n).length<=1000): Ret Tryz.prog 73 [v] w λr w'=>(∃ A c,r=.slice A (Jj n).length c/\w'.ownsRow w.heap.size 63 1 r (Jj n).length (Nc (Jj n)))/\Ext w w':=by
 refine Jz Tryz.func73 Tryz.ntmps73 rfl kr rfl ?_;refine ρ ?_;refine cl (Xe hv) ?_;rintro j w' ⟨⟨A,rfl,y⟩,rfl⟩;refine ρ ?_;refine cl (Jzz y (Jqg _) om) ?_;rintro j w1 ⟨i,u⟩;obtain⟨D,B,rfl,J,G⟩:=Jf i;refine ρ ?_;exact Jq ⟨⟨D,B,rfl,i⟩,u⟩
theorem Qjw{A:Option Addr}(w:World): Ret Tryz.prog 75 [.slice A 1 c] w λu w'=>w'=w:=by
 refine Jz Tryz.func75 Tryz.ntmps75 rfl kr rfl ?_;refine ρ ?_;refine Jp (fun (_:Nat)=>[(3,.int .i64 ((1:Nat)-1:Int)),(2,.int .i64 0)]) (λ_ w'=>w'=w) (λ_=>0) 0 sB rfl ?_;rintro _ _ rfl;refine ρ ?_;exact Zo rfl
theorem EU8: ElT Tryz.prog 74 5 1 1 (.int .u8 0):=⟨Tryz.underlying74,info_parts kr,rfl,by decide⟩
theorem bs1By(z:Int)(w:World): (Instr.buildSlice 74 1 #[(0,.int .u8 z)]).run Tryz.prog w=.ok (.slice (some ⟨w.heap.size,0,none⟩) 1 1) (w.alloc (.cells [.int .u8 z].toArray 5)):=kr
theorem Qkj(hv:NatV w v 8): Ret Tryz.prog 37 [v] w λr w'=>r=.string ⟨#[56]⟩/\Ext w w':=by
 have el:Jj 8=[8]:=Jyb (by decide) (by decide);refine Jz Tryz.func37 Tryz.ntmps37 rfl kr rfl ?_;refine ρ ?_;refine cl (Qkl hv (by rw[el];decide)) ?_;rintro u w1 ⟨⟨A,c,rfl,ho⟩,a2⟩;rw[el]at ho ⊢;refine ρ ?_;refine Zb (fun (j:Nat) (y:Option Addr×Nat) (z:Nat)=>[(3,.slice A (1-j) z),(4,.slice y.1 j y.2)])
  (λj y z w'=>(j=0/\y=(none,0)/\z=c/\w'=w1)∨(j=1/\Ext w w'/\Rd w' 1 y.1 1 (Bc [56]))) (λj _ _=>1-j) 0 (none,0) c sB (.inl ⟨rfl,rfl,rfl,rfl⟩) ?_
 rintro j y z w2 (⟨rfl,rfl,rfl,rfl⟩|⟨rfl,a1,hr⟩)
 .obtain⟨_,_,e0,U,a5⟩:=Jf ho;injection e0 with _ _ e0
  subst e0;have U:1<=z:=U;refine ρ ?_;refine cl (Jmt (A:=A) (L:=1) (c:=z) (d:=1000000000) (l:=[8]) rfl (by decide) ho (by decide) (by decide)) ?_;rintro u w3 ⟨rfl,⟨os,J,a4,a6⟩,a7⟩;have a3:val os=0:=by rw[a4];decide
  have e8:val [8] % 1000000000=8:=by decide
  have D:Ext w w3:=Jt a2 a7 λg eg=>(a5 g eg).1;have G:=Gx (A:=A) (l:=os) (c:=z) (by rw[J];exact Rd.own a6) om om;rw[J,a3,limbs_0]at G;rw[e8];refine ρ ?_;refine cl G ?_;rintro u w4 ⟨rfl,rfl⟩;refine ρ ?_;refine Qq (fun (i:Nat) (y:Option Addr×Nat)=>[(5,.int .u32 ((8*(1-i):Nat):Int)),(19,.int .i64 (i:Int)),(3,.slice A 0 0),(4,.slice y.1 i y.2)])
   (λi y w'=>(i=0/\y=(none,0)/\w'=w4)∨(i=1/\Ext w w'/\Rd w' 1 y.1 1 (Bc [56]))) (λi _=>1-i) 0 (none,0) sB (.inl ⟨rfl,rfl,rfl⟩) ?_
  rintro i y w5 (⟨rfl,rfl,rfl⟩|⟨rfl,Z,hr⟩)
  .refine ρ ?_;refine kv 34 (u:=.int .u32 8) rfl ?_;refine kv 5 (u:=.int .u32 8) rfl ?_;refine rem (b:=10) (by decide) ?_;refine kv 35 (show Value.int .u32 (Int.tmod 8 10)=.int .u32 8 from rfl) ?_;refine ρ ?_;refine kv 37 (show Value.int .u8 (IntKind.u8.wrap (IntKind.u32.wrap (48+8)))=.int .u8 56 from rfl) ?_;refine bsl (bs1By 56) ?_;intro w6 b6 B ab a8;refine ρ ?_;refine apb (m':=1) (base:=w.heap.size) (news:=[.int .u8 56]) EU8 (Zg _ _ _ _) (a8.rd (n:=1) rfl) (by simp[Value.oneCell']) (by unfold maxLen;omega) om (D.trans B).size ?_;intro v7 w7 O hg7 a9;obtain⟨BA,bc,rfl,_,aa⟩:=Jf O;refine ρ ?_;refine Kk rfl rfl (by decide) rfl ?_;refine ρ ?_;exact Ja 1 (BA,bc) sO (.inr ⟨rfl,Jt (D.trans B) hg7 (λg eg=>by cases eg),Rd.own O⟩) (by decide)
  refine ρ ?_;exact Qe 1 y 0 sB (.inr ⟨rfl,Z,hr⟩) (by decide)
 refine ρ ?_;refine cl (Qjw w2) ?_;rintro u w3 rfl;refine ρ ?_;refine sb hr ?_;refine ρ ?_;exact Jq ⟨rfl,a1⟩
end Go.Proofs.YtebiphhfkdbpfaaGreatDoor
namespace Go.Proofs.YtebiphhfkdbpfaaGreatDoor
open Go.RowKit Pl Go.Wk Bl Nw
variable {ats:List Atm}{m:List Row}{c n set v:Nat}{pf:Nat->Int}
def nV(n:Int): V:=⟨1,n,⟨#[]⟩⟩
def nR(a b:Int): Row:=[nV a,nV b]
def rw4: List Row:=[nR 1 1,nR 1 2,nR 2 1,nR 2 2]
def v3: List (List Nat):=[[0,1],[1,2],[0,2]]
def rB(v:Nat): Nat:=if v=2 then 8 else 4
abbrev Up: PR:=⟨false,1,1⟩
abbrev Zv: PR:=⟨false,0,1⟩
theorem es3: v3.map Zq=[3,6,5]:=by decide
theorem bag7: BagB 3 [3,6,5] [4,4,4] 7 8:=by
 have u:∀ q∈[hlf,hlf,hlf],q=hlf:=λq j=>by
  simp only[List.mem_cons,List.not_mem_nil,or_false,or_self]at j;exact j
 refine⟨by decide,by decide,Jdf,216,_,32,32,by decide +kernel,Jst,(λq j=>by rw[u q j];decide),(λq j=>by rw[u q j];decide +kernel),(λi hi=>?_),(λq j=>by rw[u q j];decide +kernel),by rw[Io];decide,by rw[Io];decide,by rw[Io];exact Jss,by decide,by decide,by rw[Io,Jdd];decide,Jmv,λx y=>?_⟩
 .have hi:i<=3:=hi;rcases(show i=0∨i=1∨i=2∨i=3 by omega) with rfl|rfl|rfl|rfl<;>decide +kernel
 rw[Io,Jdd]at y;exact Jfl y ⟨by decide,by decide⟩
theorem Jjj: dnm [Up,Zv,Zv]=1:=by decide +kernel
theorem Jgr: Yx [Up,Zv,Zv] [4,4,4] 1=4:=by decide +kernel
theorem Jxs{q:PR}(h:q∈[Up,Zv,Zv]): q=Up∨q=Zv:=by
 simp only[List.mem_cons,List.not_mem_nil,or_false,or_self]at h;exact h
theorem Qzf: PrOk [Up,Zv,Zv] [4,4,4] 1 32:=by
 refine⟨by decide,rfl,λq B=>?_,λs j=>?_,λi hi=>?_,λi u G=>?_⟩
 .rcases Jxs B with rfl|rfl
  .exact⟨by decide,by decide,by decide,by decide +kernel,by decide +kernel,by decide +kernel,by decide +kernel,by decide +kernel,by decide +kernel⟩
  exact⟨by decide,by decide,by decide,by decide +kernel,by decide +kernel,by decide +kernel,by decide +kernel,by decide +kernel,by decide +kernel⟩
 .simp only[List.mem_cons,List.not_mem_nil,or_false,or_self]at j;rw[j];decide
 .have hi:i<=3:=hi;rcases(show i=0∨i=1∨i=2∨i=3 by omega) with rfl|rfl|rfl|rfl<;>decide +kernel
 have u:i<3:=u;have D:4^Yo Up 1<2^32:=by decide +kernel
 have y:4^Yo Zv 1<2^32:=by decide +kernel
 rcases(show i=0∨i=1∨i=2 by omega) with rfl|rfl|rfl
 .exact D
 .exact y
 exact y
theorem bagS(h0:set<2^3)(h1:set≠0)(hf:((Jv 3 set).length+(Jd [3,6,5] set [3,6,5].length).length)^(Jd [3,6,5] set [3,6,5].length).length<=125)(hcv:cvr 125 3 [3,6,5] set=some ⟨[Up,Zv,Zv],[Up,Zv,Zv],⟨false,1,1⟩⟩): BagB 3 [3,6,5] [4,4,4] set 4:=by
 refine⟨h0,h1,λv y B=>?_,125,_,32,32,hf,hcv,(λq j=>?_),(λq j=>?_),(λi hi=>?_),(λq j=>?_),by rw[Jjj];decide,by rw[Jjj];decide,by rw[Jjj];exact Qzf,by decide,by decide,by rw[Jjj,Jgr];decide,Jmv,λx u=>?_⟩
 .exact Jdf v y (by rcases(show v=0∨v=1∨v=2 by omega) with rfl|rfl|rfl<;>decide)
 .rcases Jxs j with rfl|rfl<;>decide
 .rcases Jxs j with rfl|rfl<;>decide +kernel
 .have hi:i<=3:=hi;rcases(show i=0∨i=1∨i=2∨i=3 by omega) with rfl|rfl|rfl|rfl<;>decide +kernel
 .rcases Jxs j with rfl|rfl<;>decide +kernel
 rw[Jjj,Jgr]at u;exact Jfl u ⟨by decide,by decide⟩
theorem Jyd{kf:Nat->Nat}(h:Jqj 3 [3,6,5] [2,1,0] kf pf)(hv:v<3)(hc:c<4294967296)(hk:∀ x,x<32->Vv (nb0 3 [3,6,5]) [2,1,0] v x=c.testBit x): kf v=c:=by
 obtain⟨u,j,_⟩:=h v hv;refine Nat.eq_of_testBit_eq λx=>?_;by_cases hx:x<32
 .rw[j,hk x hx]
 have i:4294967296<=2^x:=Nat.pow_le_pow_right (n:=2) (by decide) (show 32<=x by omega);rw[Nat.testBit_lt_two_pow (nM u i),Nat.testBit_lt_two_pow (nM hc i)]
theorem Qyl{kf:Nat->Nat}(h:Jqj 3 (v3.map Zq) (Vl [] 3) kf pf)(v:Nat)(hv:v<3): BagB 3 (v3.map Zq) [4,4,4] (kf v ||| 2^v) (rB v):=by
 rw[es3]at h ⊢;have h:Jqj 3 [3,6,5] [2,1,0] kf pf:=h;rcases(show v=0∨v=1∨v=2 by omega) with rfl|rfl|rfl
 .rw[Jyd h (by decide) (c:=0) (by decide) (by decide +kernel)];exact bagS (by decide) (by decide) (by decide +kernel) (by decide +kernel)
 .rw[Jyd h (by decide) (c:=1) (by decide) (by decide +kernel)];exact bagS (by decide) (by decide) (by decide +kernel) (by decide +kernel)
 rw[Jyd h (by decide) (c:=3) (by decide) (by decide +kernel)];exact bag7
theorem Jtz: Lt [] rw4:=by unfold Lt;decide +kernel
theorem Qdj: Lt [] [[nV 1],[nV 2]]:=by unfold Lt;decide +kernel
theorem Jxb(h:Va [] rw4 m): m=rw4:=Jwj h.1 Jtz h.2
theorem Qcq(hc:c<2)(h:Va [] (rw4.map (pmR [c])) m): m=[[nV 1],[nV 2]]:=by
 refine Jwj h.1 Qdj λx=>(h.2 x).trans ?_;have j:rw4.map (pmR [0])=[[nV 1],[nV 1],[nV 2],[nV 2]]:=rfl;have i:rw4.map (pmR [1])=[[nV 1],[nV 2],[nV 1],[nV 2]]:=rfl;rcases(show c=0∨c=1 by omega) with rfl|rfl
 .rw[j];simp only[List.mem_cons,List.not_mem_nil,or_false];grind
 rw[i];simp only[List.mem_cons,List.not_mem_nil,or_false];grind
theorem Jvm(h:n<4294967296): Nb n:=nM h (Nat.le_self_pow (show bK≠0 by rw[Jpm];decide) _)
theorem hg2: hgt 2=2:=by decide +kernel
def c3: Cse:=⟨3,3,[false,false,false],[],[[0,1],[1,2],[0,2]],[rw4,rw4,rw4]⟩
theorem asc2{p q:Int}(h:p<q): Iv [p,q]:=λj u i=>by
 have i:j<2:=i;obtain rfl:j=1:=om
 exact h
theorem Jyt(hl:ats.length=3)(h:∀ i,i<3->MkA (ats.getD i a0) (c3.vs.getD i []) (c3.rss.getD i [])): ∃ a b c,ats=[a,b,c]/\MkA a [0,1] rw4/\MkA b [1,2] rw4/\MkA c [0,2] rw4:=by
 match ats,hl with
 | [a,b,c],_=>exact⟨a,b,c,rfl,h 0 (by decide),h 1 (by decide),h 2 (by decide)⟩
theorem Jml(hl:ats.length=3)(h:∀ i,i<3->MkA (ats.getD i a0) (c3.vs.getD i []) (c3.rss.getD i [])): Yu ⟨3,3,[false,false,false],[],ats⟩:=by
 obtain⟨a,b,c,rfl,y,D,G⟩:=Jyt hl h;have u:∀ {a:Atm} {p q:Int},MkA a [p,q] rw4->p<q->0<=p->q<3->Uj 3 a:=fun {a p q} h h1 h2 h3=>by
  refine⟨by rw[h.vars];exact asc2 h1,λv j=>?_,by rw[h.vars,h.ar]⟩;rw[h.vars]at j;simp only[List.mem_cons,List.not_mem_nil,or_false]at j;rcases j with rfl|rfl<;>omega
 refine⟨(show(0:Int)<=3 by decide),(show(3:Int)<=32 by decide),(show(0:Int)<=3 by decide),(show(3:Int)<=3 by decide),rfl,rfl,(λv j=>by cases j),List.nodup_nil,(show(0:Int)<=3 by decide),(show(3:Int)<=32 by decide),by simp,λx B=>?_,λv j=>?_⟩
 .simp only[List.mem_cons,List.not_mem_nil,or_false]at B;rcases B with rfl|rfl|rfl
  .exact u y (by decide) (by decide) (by decide)
  .exact u D (by decide) (by decide) (by decide)
  exact u G (by decide) (by decide) (by decide)
 have j:(v:Int)<3:=j;rcases(show v=0∨v=1∨v=2 by omega) with rfl|rfl|rfl
 .exact⟨a,by simp,by rw[y.vars];simp⟩
 .exact⟨a,by simp,by rw[y.vars];simp⟩
 exact⟨b,by simp,by rw[D.vars];simp⟩
theorem Jys{a:Atm}{zs:List Int}{x:Int}(h:MkA a zs rw4)(h2:zs.length=2)(ha:Iv zs): CntA (λ_=>2) x a:=by
 have j:a.rows=rw4:=Jxb (h.set (by decide));refine⟨by rw[h.vars];exact ha,by rw[h.vars,h.ar],λr i=>?_,by rw[j];decide,λB m y D u=>?_⟩
 .rw[h.ar];exact(h.ok r (h.sub r i)).1
 rw[j]at u;rw[Qcq (by rw[h.vars,h2]at y;exact y) u];rfl
theorem Qyk(hl:ats.length=3)(h:∀ i,i<3->MkA (ats.getD i a0) (c3.vs.getD i []) (c3.rss.getD i [])): CostI 3 3 [] v3 [4,4,4] (λ_ _=>2) rB ⟨3,3,[false,false,false],[],ats⟩:=by
 have j:=Jml hl h;obtain⟨a,b,c,rfl,Z,U,O⟩:=Jyt hl h;have J:a.rows=rw4:=Jxb (Z.set (by decide));have G:b.rows=rw4:=Jxb (U.set (by decide));have D:c.rows=rw4:=Jxb (O.set (by decide));have er:(List.range 3).map rB=[4,4,8]:=rfl;refine⟨j,rfl,rfl,rfl,?_,?_,by simp,⟨Nat.le_refl _,rfl,(λv B=>by cases B),List.nodup_nil⟩,by decide,by decide,λx y a' u=>?_,λkf pf h v B=>Qyl h v B,?_,λi hi=>?_,λx y=>?_⟩
 .show[a.vars,b.vars,c.vars]=_;rw[Z.vars,U.vars,O.vars];rfl
 .show[a.rows.length,b.rows.length,c.rows.length]=_;rw[J,G,D];rfl
 .simp only[List.mem_cons,List.not_mem_nil,or_false]at u;rcases u with rfl|rfl|rfl
  .exact Jys Z rfl (asc2 (by decide))
  .exact Jys U rfl (asc2 (by decide))
  exact Jys O rfl (asc2 (by decide))
 .rw[er];exact Jvm (by decide)
 .rw[er];rcases(show i=0∨i=1∨i=2∨i=3 by omega) with rfl|rfl|rfl|rfl<;>exact Jvm (by decide)
 rw[er]at y;simp only[List.mem_cons,List.not_mem_nil,or_false]at y;rcases y with rfl|rfl|rfl<;>exact Jvm (by decide)
theorem Qyj(hl:ats.length=3)(h:∀ i,i<3->MkA (ats.getD i a0) (c3.vs.getD i []) (c3.rss.getD i [])): Jwd 3 (λ_ _=>2) ⟨3,3,[false,false,false],[],ats⟩=6:=by
 obtain⟨a,b,c,rfl,y,u,j⟩:=Jyt hl h;have D:max (Qc (λ_=>2) ((0:Nat):Int) [a,b,c]) 0=2:=by simp[Qc,Uo,y.vars,u.vars,j.vars];rfl
 have f1:max (Qc (λ_=>2) ((1:Nat):Int) [a,b,c]) 0=2:=by simp[Qc,Uo,y.vars,u.vars,j.vars];rfl
 have B:max (Qc (λ_=>2) ((2:Nat):Int) [a,b,c]) 0=2:=by simp[Qc,Uo,y.vars,u.vars,j.vars];rfl
 have e:(List.range 3).map (λx:Nat=>max (Qc (λ_=>2) (x:Int) [a,b,c]) 0)=[2,2,2]:=by
  show[max (Qc (λ_=>2) ((0:Nat):Int) [a,b,c]) 0,max (Qc (λ_=>2) ((1:Nat):Int) [a,b,c]) 0,max (Qc (λ_=>2) ((2:Nat):Int) [a,b,c]) 0]=_;rw[D,f1,B]
 show hgS ((List.range 3).map (λx:Nat=>max (Qc (λ_=>2) (x:Int) [a,b,c]) 0))=6;rw[e];show[hgt 2,hgt 2,hgt 2].sum=6;rw[hg2];rfl
open Go.RowKit Pl Go.Wk Bl Nw
attribute [local irreducible] WC WL QX WD WDB WP WN WG WH
variable {B0 b:Nat}{w:World}
theorem Qdw(n:Int)(w:World): (Instr.build 102 #[(0,.int .i64 1),(1,.int .i64 n)]).run Tryz.prog w=.ok (nV n).val w:=kr
theorem Us(n:Int)(w:World): Ret Tryz.prog 36 [.int .i64 n] w λx w'=>x=(nV n).val/\Ext w w':=by
 refine Jz Tryz.func36 Tryz.ntmps36 rfl kr rfl ?_;refine ρ ?_;refine alc zVal ?_;intro w1 b j B y;refine ρ ?_;refine bld (Qdw n _) ?_;refine ρ ?_;refine stb y (cs':=(nV n).cells) ?_ (V.one _);intro w2 u hg2 i;refine ρ ?_;exact Zn u ⟨rfl,i w j B⟩
theorem bs2V(a b:V)(w:World): (Instr.buildSlice 85 2 #[(0,a.val),(1,b.val)]).run Tryz.prog w=.ok (.slice (some ⟨w.heap.size,0,none⟩) 2 2) (w.alloc (.cells (Qz [a,b]).toArray 102)):=kr
theorem bs4R(A1 A2 A3 A4:Option Addr)(n1 n2 n3 n4 c1 c2 c3 c4:Nat)(w:World): (Instr.buildSlice 78 4 #[(0,.slice A1 n1 c1),(1,.slice A2 n2 c2),(2,.slice A3 n3 c3),(3,.slice A4 n4 c4)]).run Tryz.prog w=.ok (.slice (some ⟨w.heap.size,0,none⟩) 4 4) (w.alloc (.cells [.slice A1 n1 c1,.slice A2 n2 c2,.slice A3 n3 c3,.slice A4 n4 c4].toArray 85)):=kr
theorem bs3RR(A1 A2 A3:Option Addr)(n1 n2 n3 c1 c2 c3:Nat)(w:World): (Instr.buildSlice 29 3 #[(0,.slice A1 n1 c1),(1,.slice A2 n2 c2),(2,.slice A3 n3 c3)]).run Tryz.prog w=.ok (.slice (some ⟨w.heap.size,0,none⟩) 3 3) (w.alloc (.cells [.slice A1 n1 c1,.slice A2 n2 c2,.slice A3 n3 c3].toArray 78)):=kr
theorem bs3II(A1 A2 A3:Option Addr)(n1 n2 n3 c1 c2 c3:Nat)(w:World): (Instr.buildSlice 28 3 #[(0,.slice A1 n1 c1),(1,.slice A2 n2 c2),(2,.slice A3 n3 c3)]).run Tryz.prog w=.ok (.slice (some ⟨w.heap.size,0,none⟩) 3 3) (w.alloc (.cells [.slice A1 n1 c1,.slice A2 n2 c2,.slice A3 n3 c3].toArray 22)):=kr
theorem bs2I(a b:Int)(w:World): (Instr.buildSlice 22 2 #[(0,.int .i64 a),(1,.int .i64 b)]).run Tryz.prog w=.ok (.slice (some ⟨w.heap.size,0,none⟩) 2 2) (w.alloc (.cells [Value.int .i64 a,.int .i64 b].toArray 3)):=kr
theorem Qfc(A B C:Option Addr)(a b c a' b' c':Nat)(w:World): (Instr.build 31 #[(0,.int .i64 3),(1,.int .i64 3),(2,.slice A a a'),(4,.slice B b b'),(5,.slice C c c')]).run Tryz.prog w=.ok (.agg #[.int .i64 3,.int .i64 3,.slice A a a',.slice none 0 0,.slice B b b',.slice C c c']) w:=kr
theorem Jzg{r:Row}(h:Blk w b 102 (Qz r))(hl:r.length<=1100000): RowV w (.slice (some ⟨b,0,none⟩) r.length r.length) r:=⟨some ⟨b,0,none⟩,r.length,rfl,Nat.le_refl _,hl,h.rd (Jfk r)⟩
theorem Qwg(ps:List Pr)(h:Blk w b 85 (ps.map (·.1)))(hr:∀ p∈ps,RowV w p.1 p.2)(hl:ps.length<=1100000): RowsV w (.slice (some ⟨b,0,none⟩) ps.length ps.length) (ps.map (·.2)):=⟨ps,some ⟨b,0,none⟩,ps.length,rfl,rfl,Nat.le_refl _,hl,h.rd (by simp),hr⟩
theorem hg7: hgt 7=4:=by decide +kernel
theorem hg6: hgt 6=3:=by decide +kernel
theorem few3: FewP c3:=⟨by decide,by decide,.inl (by decide),by decide,by decide,by decide,by decide,by decide⟩
theorem mks3: MkS c3:=by
 have j:∀ r∈rw4,r.length=2/\r.all Xm=true:=by decide +kernel
 refine⟨rfl,λi hi=>?_,λi hi=>?_,λi hi=>?_⟩<;>(have hi:i<3:=hi;rcases(show i=0∨i=1∨i=2 by omega) with rfl|rfl|rfl)
 .decide
 .decide
 .decide
 .exact j
 .exact j
 .exact j
 .decide
 .decide
 decide
theorem Qfr(hT:FB B0 w): Ret Tryz.prog 10 [] w λu w'=>u=.bool true/\Ext w w':=by
 refine Jz Tryz.func10 Tryz.ntmps10 rfl kr rfl ?_;refine ρ ?_;refine cl (Us 1 _) ?_;rintro _ w1 ⟨rfl,bz⟩;refine ρ ?_;refine cl (Us 1 _) ?_;rintro _ w2 ⟨rfl,bw⟩;refine ρ ?_;refine bsl (bs2V _ _) ?_;intro w3 b3 bu dh c6;refine ρ ?_;refine cl (Us 1 _) ?_;rintro _ w4 ⟨rfl,bt⟩;refine ρ ?_;refine cl (Us 2 _) ?_;rintro _ w5 ⟨rfl,bs⟩;refine ρ ?_;refine bsl (bs2V _ _) ?_;intro w6 b6 br dg c5;refine ρ ?_;refine cl (Us 2 _) ?_;rintro _ w7 ⟨rfl,bq⟩;refine ρ ?_;refine cl (Us 1 _) ?_;rintro _ w8 ⟨rfl,bp⟩;refine ρ ?_;refine bsl (bs2V _ _) ?_;intro w9 b9 bo df c4;refine ρ ?_;refine cl (Us 2 _) ?_;rintro _ de ⟨rfl,b7⟩;refine ρ ?_;refine cl (Us 2 _) ?_;rintro _ dd ⟨rfl,b5⟩;refine ρ ?_;refine bsl (bs2V _ _) ?_;intro db co b1 d0 bf;refine ρ ?_;refine bsl (bs4R _ _ _ _ _ _ _ _ _ _ _ _) ?_;intro da cn az cz be;refine ρ ?_;refine mkn EB 3 (by decide) (by unfold maxLen;decide) ?_
 intro d9 a5 ay a1 _;have e0:(madeCells (Value.bool false).cells (3*1)).toList=[false,false,false].map Value.bool:=kr
 rw[e0]at a1;refine ρ ?_;refine bsl (bs2I _ _) ?_;intro d8 cm ax cy bd;refine ρ ?_;refine bsl (bs2I _ _) ?_;intro d7 ck aw cx bc;refine ρ ?_;refine bsl (bs2I _ _) ?_;intro d6 cj av cw bb;refine ρ ?_;refine bsl (bs3II _ _ _ _ _ _ _ _ _) ?_;intro d5 a4 au cu ba;refine ρ ?_;refine bsl (bs3RR _ _ _ _ _ _ _ _ _) ?_;intro ag a3 ar cr b8;refine ρ ?_;refine bld (Qfc _ _ _ _ _ _ _ _ _ _) ?_;have a7:=ar;have a8:=au.trans a7;have a9:=av.trans a8;have aa:=aw.trans a9;have ab:=ax.trans aa;have ad:=ay.trans ab;have ae:=az.trans ad;have bi:=b1.trans ae;have bj:=b5.trans bi;have y9:=b7.trans bj;have y8:=bo.trans y9;have y7:=bp.trans y8;have y6:=bq.trans y7;have y5:=br.trans y6;have y4:=bs.trans y5;have y3:=bt.trans y4;have y2:=bu.trans y3;have y1:=bw.trans y2;have y0:=bz.trans y1;have ca:RowsV ag (.slice (some ⟨cn,0,none⟩) 4 4) rw4:=by
  refine Qwg [(.slice (some ⟨b3,0,none⟩) 2 2,nR 1 1),(.slice (some ⟨b6,0,none⟩) 2 2,nR 1 2),(.slice (some ⟨b9,0,none⟩) 2 2,nR 2 1),(.slice (some ⟨co,0,none⟩) 2 2,nR 2 2)] (be.ext ad) (λp hp=>?_) (by simp);simp only[List.mem_cons,List.not_mem_nil,or_false]at hp;rcases hp with rfl|rfl|rfl|rfl
  .exact Jzg (r:=nR 1 1) (c6.ext y3) (by decide)
  .exact Jzg (r:=nR 1 2) (c5.ext y6) (by decide)
  .exact Jzg (r:=nR 2 1) (c4.ext y9) (by decide)
  exact Jzg (r:=nR 2 2) (bf.ext ae) (by decide)
 have hC:CseV ag [.int .i64 3,.int .i64 3,.slice a5 3 3,.slice none 0 0,.slice (some ⟨a4,0,none⟩) 3 3,.slice (some ⟨a3,0,none⟩) 3 3] c3:=by
  refine⟨a5,3,none,0,some ⟨a4,0,none⟩,3,some ⟨a3,0,none⟩,3,rfl,⟨a5,3,rfl,by decide,Rd.own (Ju a1 ab)⟩,⟨none,0,rfl,Nat.le_refl _,Rd.nil⟩,⟨some ⟨a4,0,none⟩,3,_,rfl,by decide,(ba.ext a7).rd rfl,λi hi=>?_⟩,⟨some ⟨a3,0,none⟩,3,_,rfl,by decide,b8.rd rfl,λi hi=>?_⟩,by decide,by decide⟩
  .have hi:i<3:=hi;rcases(show i=0∨i=1∨i=2 by omega) with rfl|rfl|rfl
   .exact⟨_,rfl,some ⟨cm,0,none⟩,2,rfl,by decide,(bd.ext aa).rd rfl⟩
   .exact⟨_,rfl,some ⟨ck,0,none⟩,2,rfl,by decide,(bc.ext a9).rd rfl⟩
   exact⟨_,rfl,some ⟨cj,0,none⟩,2,rfl,by decide,(bb.ext a8).rd rfl⟩
  have hi:i<3:=hi;rcases(show i=0∨i=1∨i=2 by omega) with rfl|rfl|rfl<;>exact⟨_,rfl,ca.m⟩
 refine ρ ?_;refine cl (Qkz hC few3) ?_;rintro u a2 ⟨aq,dA,pA,aA,dc,pc,ac,an,ok,rfl,cd,cb,c2,c7⟩;obtain rfl:ok=true:=c7 mks3 λats hl h=>Jml hl h;obtain⟨_,ats,hl,hG,hA,_⟩:=c2 rfl;have hl:ats.length=3:=hl;have hA:∀ i,i<3->MkA (ats.getD i a0) (c3.vs.getD i []) (c3.rss.getD i []):=hA;have cc:InV a2 (.agg #[.int .i64 3,.int .i64 3,.slice dA 3 dc,.slice pA 0 pc,.slice aA an ac]) ⟨3,3,[false,false,false],[],ats⟩:=⟨_,rfl,_,_,_,rfl,cd,cb,Jpp hG⟩;have a6:=y0.trans aq;show WL _ _ _ _ _ ((30,.tuple #[.agg #[.int .i64 3,.int .i64 3,.slice dA 3 dc,.slice pA 0 pc,.slice aA an ac],.bool true])::_) _;refine ρ ?_;refine alc Ih ?_;intro d4 b2 ap c9 ch;refine ρ ?_;refine stW ch ?_;intro bn bh cq ao;have y:Ext a2 bn:=ao a2 ap c9;refine ρ ?_;refine ldW bh ?_;refine ρ ?_;refine cl (Qbx (hT.ext (a6.trans y)) (Qyk hl hA) (cc.ext y)) ?_;rintro u af ⟨O,us,VS,vn,vc,rfl,ce,hv,am⟩;rw[Qyj hl hA]
 refine ρ ?_;refine alc zEst ?_;intro d3 b4 ak c8 cg;refine ρ ?_;refine stW cg ?_;intro bm bg cp aj;have D:Ext af bm:=aj af ak c8;have B:=a6.trans (y.trans (am.trans D));have J:=ce.ext D;obtain⟨u2,e2,c1⟩:=J.2.2.2 2 (by decide);refine ρ ?_;refine cl (Jqb (hT.ext B) 7) ?_;rintro u d2 ⟨rfl,Z⟩;rw[hg7];refine ρ ?_;refine cl (Jqb (hT.ext (B.trans Z)) 6) ?_;rintro u bl ⟨rfl,ai⟩;rw[hg6];have j:=Z.trans ai;have U:=bg.ext j;have G:=J.ext j;refine ρ ?_;refine ld (U.at (i:=0) rfl) ?_;refine ρ ?_;refine ld (U.at (i:=2) rfl) ?_;refine ρ ?_;refine ld (U.at (i:=2) rfl) ?_;refine ρ ?_;refine ix 2 (Rd.own G.2.1) (by decide) ?_;refine ρ ?_;refine ld ((Rd.own G.2.1).cell e2) ?_;have c0:NatV bl u2 8:=c1.ext j;refine ρ ?_;refine cl (Qkj c0) ?_;rintro u d1 ⟨rfl,ah⟩;refine ρ ?_;exact Jq ⟨congrArg Value.bool (beq_self_eq_true _),B.trans (j.trans ah)⟩
end Go.Proofs.YtebiphhfkdbpfaaGreatDoor
namespace Go.Wk
open Go.RowKit Go.ChangeShapes Go.WideShapes
variable {cap e fuel len t:Nat}{A:Option Addr}
section
variable {H:Type} {enc:TypeId×Value->H} {P:Program} {w:World} {base:Nat} {spare:Nat->Bool} {held:Bool}
theorem rd_of{sz:Nat}{cs:List Value}{ad:Addr}(hA:A=some ad)(hl:cs.length=len*sz)(hc:∀ j u,cs[j]?=some u->w.cell? (ad.add j)=some u): Rd w sz A len cs :=
 ⟨hl,λh0=>⟨ad,hA,by
  have i:=hc 0 cs[0] (gE h0);rw[add_zero]at i;exact World.block_lt_of_cell? w ad i,hc⟩⟩
theorem Qzd{α:Type}{sz:Nat}{x:DataW H×List MemPlace}(X:α->List Value)(R:α->Prop)(ht:P.underlying t=some (.slice e))(hc:P.cellsOf e=sz)(hX:∀(n:Nat) (cs':List Value) (y:DataW H×List MemPlace),DataW.trod enc P w base spare held n e cs'=some y->∃ z:α,cs'=X z/\R z)(h:DataW.trod enc P w base spare held fuel t [.slice A len cap]=some x): ∃ l:List α,l.length=len/\Rd w sz A len (l.flatMap X)/\(∀ z∈l,R z)/\len<=cap/\cap<=maxLen:=by
 rcases Go.Deep.open_slice ht h with⟨i,_⟩|⟨a,len',cap',m,n,D,Pl,i,_,hl,hm,hmm,_,hel⟩
 .simp only[List.cons.injEq,Value.slice.injEq,and_true]at i;obtain⟨rfl,rfl,rfl⟩:=i;exact⟨[],rfl,Rd.nil,(λz J=>by cases J),Nat.le_refl _,Nat.zero_le _⟩
 simp only[List.cons.injEq,Value.slice.injEq,and_true]at i;obtain⟨rfl,rfl,rfl⟩:=i;have a1:len<=m:=by grind
 have key:∀ k,k<=len->∃ l:List α,l.length=k/\(l.flatMap X).length=k*sz/\(∀ j u,(l.flatMap X)[j]?=some u->w.cell? (a.add j)=some u)/\∀ z∈l,R z:=by
  intro k;induction k with
  | zero=>intro _;exact⟨[],rfl,by simp,(λj u G=>by simp at G),(λz J=>by cases J)⟩
  | succ k ih=>
   intro hk;obtain⟨l,h1,h2,h3,h4⟩:=ih om;obtain⟨cs',B,O⟩:=hel k om;obtain⟨z,rfl,J⟩:=hX n cs' _ O;rw[hc]at B;obtain⟨_,Z,U⟩:=World.cells?_some B;refine⟨l++[z],by simp[h1],?_,?_,?_⟩
   .grind
   .intro j u G;rw[List.flatMap_append]at G;simp only[List.flatMap_cons,List.flatMap_nil,List.append_nil]at G;rcases Nat.lt_or_ge j (k*sz) with hj|hj
    .grind
    rw[List.getElem?_append_right om,h2]at G;have hb:j-k*sz<sz:=by grind
    have:=U (j-k*sz) hb;rw[Jbs]at this;grind
   repeat grind
 obtain⟨l,h1,h2,h3,h4⟩:=key len (Nat.le_refl _);grind [rd_of]
end
end Go.Wk
namespace Go.Proofs.YtebiphhfkdbpfaaGreatDoor
open Go.RowKit Pl Go.Wk Go.ChangeShapes Go.WideShapes
variable {B0 e fuel t:Nat}{v:Value}{W w:World}
section
variable {H:Type} {enc:TypeId×Value->H} {P:Program} {w:World} {base:Nat} {spare:Nat->Bool} {held:Bool}
theorem Qzc{α:Type}{sz:Nat}{cs:List Value}{x:DataW H×List MemPlace}(X:α->List Value)(R:α->Prop)(ht:P.underlying t=some (.slice e))(hc:P.cellsOf e=sz)(hX:∀(n:Nat) (cs':List Value) (y:DataW H×List MemPlace),DataW.trod enc P w base spare held n e cs'=some y->∃ z:α,cs'=X z/\R z)(h:DataW.trod enc P w base spare held fuel t cs=some x): ∃(l:List α) (A:Option Addr) (cap:Nat),cs=[.slice A l.length cap]/\Rd w sz A l.length (l.flatMap X)/\(∀ z∈l,R z)/\l.length<=cap:=by
 have key:∀(A:Option Addr) (len cap:Nat),cs=[.slice A len cap]->∃(l:List α) (A:Option Addr) (cap:Nat),cs=[.slice A l.length cap]/\Rd w sz A l.length (l.flatMap X)/\(∀ z∈l,R z)/\l.length<=cap:=λA len cap e=>by
  subst e;obtain⟨l,G,B,u,j,_⟩:=Qzd X R ht hc hX h;subst G;exact⟨l,A,cap,rfl,B,u,j⟩
 rcases Go.Deep.open_slice ht h with⟨i,_⟩|⟨a,len,cap,m,n,D,Pl,i,_⟩
 .exact key _ _ _ i
 exact key _ _ _ i
end
section
variable {H:Type} {enc:TypeId×Value->H} {w:World} {base b0:Nat} {spare:Nat->Bool} {held:Bool}
def Jpw(w:World)(v:Value): Prop:=∃ zs,IntsM w v zs/\∀ z∈zs,-9223372036854775808<=z
theorem Qyb(l:List Int): l.flatMap (λz=>[Value.int .i64 z])=Jl l:=by
 induction l with
 | nil=>rfl
 | cons a r ih=>rw[List.flatMap_cons,ih];rfl
theorem Qzb{d:DataW H}{p:List MemPlace}(hv:Value.okWide Tryz.prog w .any b0 22 v)(h:DataW.Trod enc Tryz.prog w base spare held 22 v d p): Jpw w v:=by
 obtain⟨a,len,Z,rfl⟩:=okWide_slice Tryz.underlying22 hv;obtain⟨u,G⟩:=h;obtain⟨l,A,B,i,j,O,J⟩:=Qzc (sz:=1) (λz:Int=>[Value.int .i64 z]) (λz=>-9223372036854775808<=z) Tryz.underlying22 kr (λn U y D=>by
  obtain⟨z,e,_,w0⟩:=DataW.trod_int Tryz.underlying3 D;exact⟨z,e,(bounds_i64 w0).1⟩) G
 injection i with i _
 injection i with i e2 e3
 subst i;subst e2;subst e3;rw[Qyb]at j;exact⟨l,⟨_,_,rfl,J,j⟩,O⟩
end
theorem gFibT: (Tryz.prog.globals[0]?).map (·.type)=some 105:=kr
theorem fb_of(h:laidMetH Tryz.prog [("ordinal/cost.fibonacci",Rows.laid_ordinal_cost_fibonacci)] W): FB W.heap.size W:=by
 refine⟨Nat.le_refl _,Lib.tabBelow_of_tabIs ?_⟩;have i:=h.filter (λx=>x.1 == "ordinal/cost.fibonacci");exact Lib.tabIs_of_head (rest:=[]) gFib gFibT Tryz.underlying105 Tryz.underlying3 kr kr i
theorem Qbz(hT:FB B0 w)(h:Jpw w v): Ret Tryz.prog 3 [v] w λu w'=>u=.bool true/\Ext w w':=by
 obtain⟨D,B,j⟩:=h;exact Qcb hT B j λi=>(Qfr (hT.ext i)).mono λu w' ⟨e,y⟩=>⟨e,i.trans y⟩
def layOn(d:DataW Unit): Obj->Obj
 | .cells _ t z=>.cells (match d with
  | .agg ps=>(ps.map fun
   | .lit (.int k z)=>Value.int k z
   | _=>Value.bool false).toArray
  | _=>#[]) t z
 | o=>o
end Go.Proofs.YtebiphhfkdbpfaaGreatDoor
