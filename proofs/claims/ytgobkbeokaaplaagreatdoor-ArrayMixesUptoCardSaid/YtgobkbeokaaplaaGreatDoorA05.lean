/- Part 5. -/
import Derived.Test.YtgobkbeokaaplaaGreatDoorA04
import Derived.Lib.ItoaLen
set_option linter.unusedVariables false
set_option maxRecDepth 100000
set_option maxHeartbeats 40000000
namespace Go.Proofs.YtgobkbeokaaplaaGreatDoor
open Go.RowKit Pl Go.Wk Go.Lib
def decV(l:List UInt8): Nat:=l.foldl (λa c=>10*a+(c.toNat-48)) 0
theorem Qzk{k:Nat}(h:k<10): (UInt8.ofNat (48+k)).toNat=48+k:=by
 rw[UInt8.toNat_ofNat'];omega
theorem Xql(u:Nat): decV (decDigits u)=u:=by
 induction u using Nat.strongRecOn with
 | ind u ih=>
  rw[decDigits];split
  repeat grind [decV,Qzk]
theorem Jll(u:Nat): ∀ c∈decDigits u,48<=c.toNat/\c.toNat<=57:=by
 induction u using Nat.strongRecOn with
 | ind u ih=>
  rw[decDigits];split
  repeat grind [List.mem_singleton.1,Qzk,List.mem_append.1]
theorem Jzn(i:Int): ∀ c∈itoa i,c≠44:=by
 intro c j e;subst e;unfold itoa at j;split at j
 .rcases List.mem_cons.1 j with h|h
  .grind
  have:=Jll _ _ h;grind
 have:=Jll _ _ j;grind
theorem Jhr{i j:Int}(h:itoa i=itoa j): i=j:=by
 have key:∀(a:Nat) (l:List UInt8),decDigits a≠45::l:=λa l e=>by
  have:=Jll a 45 (by grind);grind
 unfold itoa at h;split at h<;>split at h
 repeat grind [decV,List.cons.inj,Xql]
theorem Jlr{a b x y:List UInt8}(ha:∀ c∈a,c≠44)(hb:∀ c∈b,c≠44)(h:a++44::x=b++44::y): a=b/\x=y:=by
 induction a generalizing b with
 | nil=>cases b with
  | nil=>simpa using h
  | cons c b=>simp only[List.nil_append,List.cons_append,List.cons.injEq]at h;exact absurd h.1.symm (hb c mC)
 | cons d a ih=>cases b with
  | nil=>simp only[List.nil_append,List.cons_append,List.cons.injEq]at h;exact absurd h.1 (ha d mC)
  | cons c b=>
   grind
theorem Jwx(v:V)(r:Row): idn (v::r)=itoa v.kind++44::(itoa v.num++44::(itoa (v.str.size:Int)++44::(v.bytes++idn r))):=by
 simp only[idn,List.flatMap_cons,Ia,List.append_assoc,List.cons_append,List.nil_append]
theorem Jcb: ∀ {r s:Row},idn r=idn s->r=s
 | [],[],_=>rfl
 | [],v::s,h=>by
  rw[Jwx]at h;have:=congrArg List.length h;simp[idn]at this
 | v::r,[],h=>by
  rw[Jwx]at h;have:=congrArg List.length h;simp[idn]at this
 | v::r,u::s,h=>by
  rw[Jwx,Jwx]at h;obtain⟨h1,h⟩:=Jlr (Jzn _) (Jzn _) h;obtain⟨h2,h⟩:=Jlr (Jzn _) (Jzn _) h;obtain⟨h3,h⟩:=Jlr (Jzn _) (Jzn _) h;have h3:=Jhr h3;rw[Jkt,Jkt]at h3;obtain⟨h4,h5⟩:=List.append_inj h om;have:=Jcb h5;subst this;have e:v=u:=by
   obtain⟨k1,n1,s1⟩:=v;obtain⟨k2,n2,s2⟩:=u;have a1:k1=k2:=Jhr h1;have a2:n1=n2:=Jhr h2;have a3:s1=s2:=by
    apply ByteArray.ext
    exact Array.toList_inj.1 h4
   rw[a1,a2,a3]
  rw[e]
theorem Qxl: ∀ {r:Row},(∀ v∈r,Zr v/\v.bytes.length<=24)->(idn r).length<=r.length*90
 | [],_=>by simp[idn]
 | v::r,h=>by
  have ih:=Qxl (r:=r) λu hu=>h u (List.mem_cons_of_mem _ hu);obtain⟨⟨h1,h2⟩,h3⟩:=h v mC;have a1:=itoa_length_le _ h1.1 h1.2;have a2:=itoa_length_le _ h2.1 h2.2;have a3:=itoa_length_le (v.str.size:Int) om (by rw[Jkt];omega);grind [Jwx,List.length_append,List.length_cons]
open Go.RowKit Pl Go.Wk _root_.Go.Proofs.Tryz
attribute [local irreducible] WC WL QX WD WDB WP WN WG
variable {cs vars:List Nat}{cc d k s:Nat}{C D:Option Addr}{x:Row}{w:World}
theorem Jmc(v:V)(w:World): (Instr.buildSlice 59 1 #[(0,v.val)]).run prog w=.ok (.slice (some ⟨w.heap.size,0,none⟩) 1 1) (w.alloc (.cells v.cells.toArray 147)):=kr
theorem rowC_app'(a b:Row): Jr (a++b)=Jr a++Jr b:=by simp[Jr]
theorem rowC_one''(v:V): Jr [v]=v.cells:=by simp[Jr]
theorem Qlv(h:k<cs.length): pmR (cs.take (k+1)) x=pmR (cs.take k) x++[x.getD (cs.getD k 0) V0]:=by grind [pmR,Qr]
theorem Qjb{vx:Value}(hx:RowV w vx x)(hC:Rd w 1 C cs.length (Jp (nz cs)))(hlt:∀ c∈cs,c<x.length)(hl:cs.length<=1000):
  Ret prog 130 [vx,.slice C cs.length cc] w λu w'=>RowV w' u (pmR cs x)/\Ext w w':=by
 obtain⟨A,c,rfl,aa,a9,hR⟩:=hx;refine enE func130 ntmps130 ?_;refine ρ ?_;refine mk0 EV cs.length om (by unfold maxLen;omega) ?_;intro w0 O Z a3;refine ρ ?_;refine Jo (fun (k:Nat) (U:Value)=>[(0,.slice A x.length c),(5,U),(11,.slice C cs.length cc),(12,.int .i64 (cs.length:Int)),(13,.int .i64 (k:Int))])
  (λk U w'=>k<=cs.length/\Ext w w'/\Xl w' w.heap.size U (pmR (cs.take k) x)) (λk _=>cs.length-k) 0 (.slice O 0 cs.length) sB
  ⟨Nat.zero_le _,Z,a3⟩ ?_
 rintro k U w1 ⟨hk,i,G⟩;refine ciR (λh=>?_) (λh=>?_)
 .have lk:k<cs.length:=by have:=oT h;omega
  clear h;have J:RdR w1 A x:=Rd.ext hR i;have D:=hlt _ (getD_mem' 0 cs lk);refine ixR k (hC.ext i) lk ?_;refine ldR ((hC.ext i).cell (Xf lk)) ?_;refine Qs 3 (cs.getD k 0) J D ?_;refine Jt (cs:=(x.getD (cs.getD k 0) V0).cells) (λj u hu=>RdR.cell J D hu) ?_;refine Qk (Jmc _) ?_;intro w2 b o hb hB;have a1:=Qlv (x:=x) lk;have a8:(pmR (cs.take k) x).length=k:=by rw[Qf,List.length_take];omega
  refine ρ ?_;refine apb (m':=1) (news:=(x.getD (cs.getD k 0) V0).cells) EV (Jk G o) (hB.rd (n:=1) rfl) (V.one _) (by unfold maxLen;omega) om (i.trans o).size ?_;intro v3 w3 a2 a5 a7;refine ρ ?_;refine Jl (k+1) v3 sO ⟨lk,Qh (i.trans o) a5 (Km (Jk G o)),?_⟩ om;rw[Xl,a1,List.length_append,rowC_app',rowC_one''];exact a2
 have a4:k=cs.length:=by grind
 rw[a4,List.take_length]at G;obtain⟨A3,c3,rfl,a6,_⟩:=Jv G;refine ρ ?_;refine Jj ⟨⟨A3,c3,rfl,a6,by rw[Qf];omega,Rd.own G⟩,i⟩
theorem Qzw(hD:Rd w 1 D vars.length (Jp (nz vars)))(hs:s<4294967296)(hv:∀ v∈vars,v<32)(hl:vars.length<=32):
  Ret prog 126 [.slice D vars.length d,.int .u32 (s:Int)] w λu w'=>Zh w' w.heap.size u (Qu vars s)/\Ext w w':=by
 refine enE func126 ntmps126 ?_;refine ρ ?_;refine Jo (fun (k:Nat) (vc:Value)=>[(1,.int .u32 (s:Int)),(5,vc),(8,.slice D vars.length d),(9,.int .i64 (vars.length:Int)),(10,.int .i64 (k:Int))])
  (λk vc w'=>k<=vars.length/\Ext w w'/\Zh w' w.heap.size vc (Zk vars s k)) (λk _=>vars.length-k) 0 (.slice none 0 0) sB
  ⟨Nat.zero_le _,Ext.refl _,Zc _ _ _ _⟩ ?_
 rintro k vc w1 ⟨hk,j,C⟩;refine ciR (λh=>?_) (λh=>?_)
 .have lk:k<vars.length:=by have:=oT h;omega
  clear h;have a1:(Zk vars s k).length<=k:=by
   have:=List.length_filter_le (λi=>s.testBit (vars.getD i 0)) (List.range k);rw[List.length_range]at this;exact this
  refine ixR k (hD.ext j) lk ?_;refine ldR ((hD.ext j).cell (Xf lk)) ?_;refine ρ ?_;refine Iy (s:=s) (v:=vars.getD k 0) (by grind [getD_mem',lk]) ?_;refine ciR (λh=>?_) (λh=>?_)
  .rw[Gm hs]at h;refine Qk (bs1Int'' _) ?_;intro w2 b o hb hB;refine ρ ?_;refine apI (Jk C o) hB om (j.trans o).size ?_;intro O w3 U J Z;refine ρ ?_;refine Jl (k+1) O sO ⟨lk,Qh (j.trans o) J (Km (Jk C o)),?_⟩ om;grind [Ke]
  rw[Gm hs]at h;refine ρ ?_;refine Jl (k+1) vc sO ⟨lk,j,?_⟩ om;grind [Ke]
 have G:k=vars.length:=by grind
 rw[G]at C;refine ρ ?_;exact Jj ⟨C,j⟩
open Go.RowKit Pl Go.Wk
variable {a b l os:List UInt32}{c i k m n x y:Nat}
theorem Jpp(c:UInt32)(h:k<l.length): val (l.set k c)+4294967296^k*(l.getD k 0).toNat=val l+4294967296^k*c.toNat:=by
 induction l generalizing k with
 | nil=>simp at h
 | cons x l ih=>
  cases k with
  | zero=>simp[val];omega
  | succ k=>
   have:=ih (k:=k) (by simpa using h);simp only[List.set_cons_succ,val,List.getD_cons_succ,Nat.pow_succ];grind
structure MulO(a b:List UInt32)(i:Nat)(os:List UInt32): Prop where
 len:os.length=a.length+b.length
 val:val os=val (a.take i)*val b
 zero:∀ k,i+b.length<=k->os.getD k 0=0
structure MulI(a b:List UInt32)(i j c:Nat)(os:List UInt32): Prop where
 len:os.length=a.length+b.length
 small:c<4294967296
 val:val os+4294967296^(i+j)*c=Pl.val (a.take i)*Pl.val b+4294967296^i*(a.getD i 0).toNat*Pl.val (b.take j)
 zero:∀ k,i+b.length<=k->os.getD k 0=0
theorem Qtx(c:UInt32)(h:k≠m): (l.set k c).getD m 0=l.getD m 0:=by grind
theorem Qjv(hx:x<4294967296)(hy:y<4294967296): x*y<=18446744065119617025:=by
 have:=Nat.mul_le_mul (show x<=4294967295 by omega) (show y<=4294967295 by omega);omega
theorem MulO.first: MulO a b 0 (List.replicate (a.length+b.length) 0):=by
 refine⟨by simp,?_,λk _=>?_⟩
 .have:∀ n,Pl.val (List.replicate n (0:UInt32))=0:=λn=>by
   induction n with
   | zero=>rfl
   | succ n ih=>rw[List.replicate_succ];simp[Pl.val,ih]
  rw[this];simp[Pl.val]
 repeat grind
theorem MulO.start(h:MulO a b i os): MulI a b i 0 0 os :=
 ⟨h.len,om,by rw[h.val];simp[Pl.val],h.zero⟩
theorem MulI.step{j s:Nat}(h:MulI a b i j c os)(hi:i<a.length)(hj:j<b.length)(hs:s=c+((a.getD i 0).toNat*(b.getD j 0).toNat+(os.getD (i+j) 0).toNat)):
  MulI a b i (j+1) (s / 4294967296) (os.set (i+j) (UInt32.ofNat s))/\s<18446744073709551616:=by
 obtain⟨h1,h2,h3,h4⟩:=h;have G:(a.getD i 0).toNat<4294967296:=(a.getD i 0).toNat_lt;have D:(b.getD j 0).toNat<4294967296:=(b.getD j 0).toNat_lt;have O:(os.getD (i+j) 0).toNat<4294967296:=(os.getD (i+j) 0).toNat_lt;have hm:=Qjv G D;have o:s<18446744073709551616:=om
 refine⟨⟨by grind,om,?_,λk hk=>by grind⟩,o⟩;have e:=Jpp (UInt32.ofNat s) (show i+j<os.length by omega);rw[UInt32.toNat_ofNat']at e;rw[Jkq];generalize hX:(a.getD i 0).toNat=X at *
 generalize hY:(b.getD j 0).toNat=Y at *
 generalize hZ:(os.getD (i+j) 0).toNat=Z at *
 generalize Pl.val (os.set (i+j) (UInt32.ofNat s))=V' at *
 generalize Pl.val os=V at *
 generalize Pl.val (b.take j)=W at *
 generalize Pl.val (a.take i)*Pl.val b=U at *
 have C:4294967296^(i+(j+1))*(s / 4294967296)=4294967296^(i+j)*(4294967296*(s / 4294967296)):=by grind
 have u:4294967296^i*X*(W+4294967296^j*Y)=4294967296^i*X*W+4294967296^(i+j)*(X*Y):=by grind
 have J:4294967296^(i+j)*(s % 2^32)+4294967296^(i+j)*(4294967296*(s / 4294967296))=4294967296^(i+j)*c+(4294967296^(i+j)*(X*Y)+4294967296^(i+j)*Z):=by
  rw[<-Nat.mul_add,<-Nat.mul_add,<-Nat.mul_add];congr 1
  omega
 rw[C,u];omega
theorem MulI.last(h:MulI a b i b.length c os)(hi:i<a.length): MulO a b (i+1) (os.set (i+b.length) (UInt32.ofNat c)):=by
 obtain⟨D,C,o,j⟩:=h;refine⟨by grind,?_,λk u=>by grind [Qtx]⟩;have e:=Jpp (UInt32.ofNat c) (show i+b.length<os.length by omega);rw[j _ (nR _),UInt32.toNat_ofNat',show c % 2^32=c by omega,show(0:UInt32).toNat=0 from rfl,Nat.mul_zero,Nat.add_zero]at e;rw[e,o,List.take_length,Jkq,Nat.add_mul]
theorem Qpg{z:Nat}(hc:c<4294967296)(hx:x<4294967296)(hy:y<4294967296)(hz:z<4294967296):
  IntKind.u64.wrap ((c:Int)+IntKind.u64.wrap (IntKind.u64.wrap (IntKind.u64.wrap (x:Int)*IntKind.u64.wrap (y:Int))+IntKind.u64.wrap (z:Int)))=((c+(x*y+z):Nat):Int):=by
 have i:=Qjv hx hy;have w:∀ n:Nat,n<18446744073709551616->IntKind.u64.wrap (n:Int)=(n:Int):=λn hn=>by rw[IntKind.wrap_u64];omega
 rw[w x om,w y om,w z om,<-Int.natCast_mul,w _ om,<-Int.natCast_add,w _ om,<-Int.natCast_add,w _ om]
theorem Jzj{v u:Value}{w:World}(hv:NatV w v n)(hu:NatV w u m)(hln:(Jq n).length<=1000)(hlm:(Jq m).length<=1000): Ret Tryz.prog 135 [v,u] w λr w'=>NatV w' r (n*m)/\Fresh w r/\Ext w w':=by
 refine enE Tryz.func135 Tryz.ntmps135 ?_;refine clR (Uw hv) ?_;rintro v' w' ⟨⟨A,rfl,ha⟩,rfl⟩;refine clR (Uw hu) ?_;rintro u' G ⟨⟨B,rfl,hb⟩,rfl⟩;generalize hL:(Jq n).length=L at *
 generalize hM:(Jq m).length=M at *
 refine ρ ?_;refine mkn EN (L+M) om (by unfold maxLen;omega) ?_;intro w1 O aa ag hO;have a6:Vh w1 G.heap.size (.slice O (L+M) (L+M)) (List.replicate (L+M) 0):=by
  have e:(madeCells (Value.int .u32 0).cells ((L+M)*1)).toList=Nc (List.replicate (L+M) 0):=by rw[Nat.mul_one,<-Jmz];exact Yu _ _
  grind
 refine ρ ?_;refine Jo (fun (i:Nat) (o:List UInt32)=>[(0,.slice A L L),(1,.slice B M M),(5,.slice O (L+M) (L+M)),(20,.int .i64 (L:Int)),(21,.int .i64 (i:Int))])
  (λi o w2=>i<=L/\Ext G w2/\MulO (Jq n) (Jq m) i o/\Vh w2 G.heap.size (.slice O (L+M) (L+M)) o) (λi _=>L-i) 0 (List.replicate (L+M) 0) sB
  ⟨Nat.zero_le _,aa,by grind [MulO.first],a6⟩ ?_
 rintro i o w2 ⟨hi,a5,hI,a4⟩;refine ciR (λh=>?_) (λh=>?_)
 .have li:i<L:=by have:=oT h;omega
  clear h;refine ρ ?_;refine Zq (fun (j c:Nat) (o:List UInt32)=>[(0,.slice A L L),(1,.slice B M M),(5,.slice O (L+M) (L+M)),(6,.int .i64 (i:Int)),(7,.int .u64 (c:Int)),(20,.int .i64 (L:Int)),(21,.int .i64 (i:Int)),(25,.int .i64 (M:Int)),(26,.int .i64 (j:Int))])
   (λj c o w3=>j<=M/\Ext G w3/\MulI (Jq n) (Jq m) i j c o/\Vh w3 G.heap.size (.slice O (L+M) (L+M)) o) (λj _ _=>M-j) 0 0 o sB
   ⟨Nat.zero_le _,a5,hI.start,a4⟩ ?_
  clear hI a4;rintro j c o w3 ⟨hj,Z,hI,J⟩;have C:o.length=L+M:=by rw[hI.len,hL,hM]
  refine ciR (λh=>?_) (λh=>?_)
  .have lj:j<M:=by have:=oT h;omega
   clear h;have U:Ext w3 w3.drew:=(Ext.refl w3).drew;have a9:=ha.ext (Z.trans U);have a8:=hb.ext (Z.trans U);have D:=Jk J U;rw[C]at D;have a3:Rd w3.drew 1 O (L+M) (Nc o):=Rd.own D;refine drR (scq 22 []) ?_;refine Jc i a9 li ?_;refine Jz (a9.cell (Zl (show i<(Jq n).length by omega))) ?_;refine Jc j a8 lj ?_;refine Jz (a8.cell (Zl (show j<(Jq m).length by omega))) ?_;refine Jc (i+j) a3 om ?_;refine Jz (a3.cell (Zl (show i+j<o.length by omega))) ?_;refine ρd ?_;have hx:((Jq n).getD i 0).toNat<4294967296:=((Jq n).getD i 0).toNat_lt;have hy:((Jq m).getD j 0).toNat<4294967296:=((Jq m).getD j 0).toNat_lt;have hz:(o.getD (i+j) 0).toNat<4294967296:=(o.getD (i+j) 0).toNat_lt;obtain⟨a2,af⟩:=hI.step (s:=c+(((Jq n).getD i 0).toNat*((Jq m).getD j 0).toNat+(o.getD (i+j) 0).toNat)) om om rfl;have a7:=Qpg hI.small hx hy hz;refine ρ ?_
   generalize c+(((Jq n).getD i 0).toNat*((Jq m).getD j 0).toNat+(o.getD (i+j) 0).toNat)=s at *
   refine kv 7 (u:=.int .u64 (s:Int)) (congrArg (Value.int .u64) a7) ?_;refine kv 55 (u:=.int .u32 ((UInt32.ofNat s).toNat:Int)) (congrArg (Value.int .u32) ((congrArg IntKind.u32.wrap a7).trans (Gk s))) ?_;obtain⟨s1,s2,s3,s4,s5⟩:=Zm D (q:=i+j) om (.int .u32 ((UInt32.ofNat s).toNat:Int));refine ixR (i+j) a3 om ?_;refine sto (s1.trans (Zl (show i+j<o.length by omega))) s2 ?_;refine ρ ?_;refine Uk rfl rfl (by decide) rfl ?_;refine ρ ?_;refine Xj (j+1) (s / 4294967296) (o.set (i+j) (UInt32.ofNat s)) ?_ ⟨lj,(Z.trans U).setCell s4 _,a2,?_⟩ om
   .rw[Jdw];exact sB
   rw[Vh,List.length_set,C,<-Jkh];exact s3
  have ac:j=M:=by grind
  subst ac;clear h;have ab:MulI (Jq n) (Jq m) i (Jq m).length c o:=by rw[hM];exact hI
  have hl:=ab.last (show i<(Jq n).length by omega);have D:=J;rw[Vh,C]at D;obtain⟨s1,s2,s3,s4,s5⟩:=Zm D (q:=i+j) om (.int .u32 ((UInt32.ofNat c).toNat:Int));refine ixR (i+j) (Rd.own D) om ?_;rw[Gk];refine sto (s1.trans (Zl (show i+j<o.length by omega))) s2 ?_;refine ρ ?_;rw[hM]at hl;refine Jl (i+1) (o.set (i+j) (UInt32.ofNat c)) sO ⟨li,Z.setCell s4 _,hl,?_⟩ om;rw[Vh,List.length_set,C,<-Jkh];exact s3
 have ae:i=L:=by grind
 have C:o.length=L+M:=by rw[hI.len,hL,hM]
 have a1:=hI.val;rw[ae,List.take_of_length_le om,Yq,Yq]at a1;have J:=a4;rw[Vh,C]at J;have hr:=Rd.own J;refine ρ ?_;rw[<-C]at hr ⊢;refine cl (Jjn hr (nR _) om) ?_;rintro t w4 ⟨rfl,rfl⟩;have:=Jxl hr om;rw[a1]at this ⊢;refine ρ ?_;exact Jj ⟨this,λad _ _ e=>hO ad (by injection e),a5⟩
open Go.RowKit Pl Go.Wk _root_.Go.Proofs.Tryz
variable {l os:List UInt32}{c d k m n r x:Nat}{A:Option Addr}{w:World}
theorem Qrr(h0:n≠0)(h:n<4294967296): Jq n=[UInt32.ofNat n]:=by grind [Jbr,limbs_0]
theorem Qkp{cs:List Value}(hr:Rd w 1 A n cs)(h1:∀ u∈cs,u.oneCell'=true)(hb:n*4<=140737488355328):
  Ret prog 64 [.slice A n c] w λv w'=>w'.ownsRow w.heap.size 64 1 v n cs/\Ext w w':=by
 refine enE func64 ntmps64 ?_;refine ρ ?_;refine Jjt ?_;refine ciR (λh=>?_) (λh=>?_)
 .have J:A=none:=by simpa using h
  subst J;have hn:n=0:=by
   rcases Nat.eq_zero_or_pos n with h0|h0
   .exact h0
   obtain⟨ad,O,_⟩:=hr.isome h0 om;cases O
  subst hn;have D:cs=[]:=List.eq_nil_of_length_eq_zero (by rw[hr.len]);subst D;refine ρ ?_;exact Jj ⟨Zc _ _ _ _,Ext.refl w⟩
 refine Qk Qwj ?_;intro Z b i G C;refine ρ ?_;refine apo i EN (C.own (n:=0) G rfl (Nat.zero_le _)) (hr.ext i) h1 (by unfold maxLen;omega) om ?_;intro v2 U j o _ _;refine ρ ?_;rw[Nat.zero_add,List.nil_append]at j;exact Jj ⟨j,o⟩
theorem Jpq(h:k<l.length): val (l.drop k)=(l.getD k 0).toNat+4294967296*val (l.drop (k+1)):=by grind [List.drop_eq_getElem_cons,val,List.getD,List.getElem?_eq_getElem]
structure DivI(l:List UInt32)(d k r:Nat)(os:List UInt32): Prop where
 len:os.length=l.length
 lt:r<d
 old:∀ j,j<k->os.getD j 0=l.getD j 0
 val:val (l.drop k)=Pl.val (os.drop k)*d+r
theorem DivI.step{s:Nat}(h:DivI l d (k+1) r os)(hk:k<l.length)(hd:d<4294967296)(hs:s=r*4294967296+(l.getD k 0).toNat): DivI l d k (s % d) (os.set k (UInt32.ofNat (s / d)))/\s<18446744073709551616:=by
 obtain⟨Z,U,O,o⟩:=h;have D:(l.getD k 0).toNat<4294967296:=(l.getD k 0).toNat_lt;have i:s<4294967296*d:=by rw[hs];omega
 have G:s / d<4294967296:=Nat.div_lt_of_lt_mul (by grind);refine⟨⟨by grind,Nat.mod_lt _ om,λj J=>by grind,?_⟩,om⟩;rw[Jpq hk,Jpq (l:=os.set k (UInt32.ofNat (s / d))) (k:=k) (by grind),o];have C:(os.set k (UInt32.ofNat (s / d))).getD k 0=UInt32.ofNat (s / d):=by grind
 have u:(os.set k (UInt32.ofNat (s / d))).drop (k+1)=os.drop (k+1):=List.drop_set_of_lt om;rw[C,u,UInt32.toNat_ofNat',Nat.mod_eq_of_lt (show s / d<2^32 by omega)];grind [Nat.div_add_mod,Nat.mul_add,Nat.add_mul,Nat.mul_assoc,Nat.mul_comm]
theorem Xqb(hr:r<4294967296)(hx:x<4294967296): bits .or .u64 (IntKind.u64.wrap ((r:Int)*2^min (32:Int).toNat IntKind.u64.bits)) (IntKind.u64.wrap (x:Int))=((r*4294967296+x:Nat):Int):=by
 have o:(2:Int)^min (32:Int).toNat IntKind.u64.bits=4294967296:=by decide
 have j:IntKind.u64.wrap ((r:Int)*4294967296)=((r*4294967296:Nat):Int):=by rw[IntKind.wrap_u64];omega
 have i:IntKind.u64.wrap (x:Int)=(x:Int):=by rw[IntKind.wrap_u64];omega
 rw[o,j,i,u64_or_nat _ _ om om,nat_join 32 (r*4294967296) x (by simp) om]
theorem Xqc{L base:Nat}(hL:l.length=L)(hLm:L<=1100)(ho:w.ownsRow base 64 1 (.slice A L c) L (Nc l))(h0:0<d)(hd:d<4294967296):
  Ret prog 181 [.slice A L c,.int .u32 (d:Int)] w λr w'=>r=.int .u32 ((val l % d:Nat):Int)/\(∃ os:List UInt32,os.length=L/\val os=val l / d/\w'.ownsRow base 64 1 (.slice A L c) L (Nc os))/\w.grownBy w' (Value.slice A L c).ownBlock:=by
 refine enE func181 ntmps181 ?_;refine ρ ?_;refine Zq (fun (k r:Nat) (os:List UInt32)=>[(0,.slice A L c),(1,.int .u32 (d:Int)),(5,.int .u64 (r:Int)),(6,.int .i64 ((k:Int)-1))])
  (λk r os U=>k<=L/\DivI l d k r os/\U.ownsRow base 64 1 (.slice A L c) L (Nc os)/\w.grownBy U (Value.slice A L c).ownBlock) (λk _ _=>k) L 0 l sB
  ⟨nR _,⟨rfl,h0,λ_ _=>rfl,by grind [List.drop_of_length_le,val]⟩,ho,Vj (Ext.refl w) _⟩ ?_
 rintro k r os U ⟨hk,J,C,G⟩;have a1:os.length=L:=by rw[J.len,hL]
 refine ciR (λh=>?_) (λh=>?_)
 .obtain⟨k,rfl⟩:∃ j,k=j+1:=⟨k-1,by grind⟩;clear h;obtain⟨s,hs⟩:∃ s,s=r*4294967296+(l.getD k 0).toNat:=⟨_,rfl⟩;obtain⟨i,a3⟩:=J.step om hd hs;have hx:(l.getD k 0).toNat<4294967296:=(l.getD k 0).toNat_lt;have a4:=J.lt;have o:Rd U 1 A L (Nc os):=Rd.own C;have D:=J.old k om;refine ρ ?_;refine wshl rfl rfl (by decide) rfl ?_;refine ixR k o om ?_;refine ldR (o.cell (Zl (show k<os.length by omega))) ?_;rw[D];refine ρ ?_;have O:bits .or .u64 (IntKind.u64.wrap ((r:Int)*2^min (32:Int).toNat IntKind.u64.bits)) (IntKind.u64.wrap ((l.getD k 0).toNat:Int))=(s:Int):=by grind [Xqb]
  refine kv 5 (u:=.int .u64 (s:Int)) (congrArg (Value.int .u64) O) ?_;refine kv 24 (u:=.int .u64 (s:Int)) (congrArg (Value.int .u64) O) ?_;have ed:IntKind.u64.wrap (d:Int)=(d:Int):=by rw[IntKind.wrap_u64];omega
  refine kv 26 (u:=.int .u64 (d:Int)) (congrArg (Value.int .u64) ed) ?_;refine Jkp rfl rfl om rfl ?_;have hq:s / d<=s:=Nat.div_le_self _ _;have e2:IntKind.u32.wrap (IntKind.u64.wrap ((s:Int).tdiv d))=((UInt32.ofNat (s / d)).toNat:Int):=by grind [Vr,Gk]
  obtain⟨s1,s2,s3,s4,s5⟩:=Zm C (q:=k) om (.int .u32 ((UInt32.ofNat (s / d)).toNat:Int));refine ixR k o om ?_;rw[e2];refine sto (s1.trans (Zl (show k<os.length by omega))) s2 ?_;refine ρ ?_;refine kv 32 (u:=.int .u64 (d:Int)) (congrArg (Value.int .u64) ed) ?_;refine wrem rfl rfl om rfl ?_;refine ρ ?_;refine Xj k (s % d) (os.set k (UInt32.ofNat (s / d))) ?_ ⟨om,i,?_,Zp G s5⟩ om
  .have e3:(s:Int).tmod d=((s % d:Nat):Int):=rfl;rw[e3];exact sO
  rw[<-Jkh];exact s3
 have a2:k=0:=by have:=oF h;omega
 subst a2;obtain⟨i1,i2,_,Z⟩:=J;rw[List.drop_zero,List.drop_zero]at Z;have hm:r=val l % d:=by rw[Z,Nat.add_comm,Nat.add_mul_mod_self_right,Nat.mod_eq_of_lt i2]
 have hv:val os=val l / d:=by
  rw[Z,Nat.add_comm,Nat.add_mul_div_right _ _ h0,Nat.div_eq_of_lt i2,Nat.zero_add]
 refine ρ ?_;refine Jj ⟨?_,⟨os,a1,hv,C⟩,G⟩;rw[Gk,UInt32.toNat_ofNat',Nat.mod_eq_of_lt (show r<2^32 by omega),hm]
theorem Qpf{v u:Value}(hv:NatV w v n)(hu:NatV w u m)(hn:(Jq n).length<=1000)(h0:0<m)(hm:m<4294967296):
  Ret prog 144 [v,u] w λr w'=>(∃ x y,r=.tuple #[x,y,.int .i64 0]/\NatV w' x (n / m)/\NatV w' y (n % m))/\Ext w w':=by
 have C:Jq m=[UInt32.ofNat m]:=Qrr om hm;refine enE func144 ntmps144 ?_;refine clR (Uw hv) ?_;rintro v' w' ⟨⟨A,rfl,ha⟩,rfl⟩;refine clR (Uw hu) ?_;rintro u' U ⟨⟨B,rfl,hb⟩,rfl⟩;rw[C]at hb ⊢;refine clR (Va (n:=n) (m:=m) ⟨A,_,rfl,Nat.le_refl _,om,ha⟩ ⟨B,1,by rw[C],by rw[C];simp,by rw[C];simp,by rw[C];exact hb⟩) ?_;rintro t w' ⟨rfl,i⟩;refine ciR (λh=>?_) (λh=>?_)
 .have a3:n<m:=by
   have:=oT h;unfold Zg at this;grind
  refine clR (Qkq (ha.ext i) (Jcs _) om) ?_;rintro v' w1 ⟨⟨A',c',rfl,O,hr⟩,hx⟩;refine ρ ?_;refine Zz ⟨⟨.slice none 0 0,_,rfl,?_,?_⟩,i.trans hx⟩
  .grind [Nat.div_eq_of_lt,NatV.nil]
  rw[Nat.mod_eq_of_lt a3];exact⟨A',c',rfl,O,om,hr⟩
 refine clR (Qkp (ha.ext i) (Jcs _) om) ?_;rintro q w1 ⟨ho,G⟩;obtain⟨A',c',rfl,O,hf⟩:=Jv ho;have J:=(hb.ext i).ext G;refine ixR 0 J (by simp) ?_;refine ldR (J.cell (Zl (l:=[UInt32.ofNat m]) (k:=0) (by simp))) ?_;have em:(([UInt32.ofNat m].getD 0 0).toNat:Int)=(m:Int):=by grind [UInt32.ofNat,UInt32.toNat_ofNat',Nat.mod_eq_of_lt]
 rw[em];refine clR (Xqc rfl om ho h0 hm) ?_;rintro r w2 ⟨rfl,⟨os,a1,j,a2⟩,a4⟩;rw[Yq]at j ⊢;have Z:Ext U w2:=Qh (i.trans G) a4 (λk e=>nL i.size (hf k e).1);have o:=Rd.own a2;rw[<-a1]at o O ⊢;refine clR (Jjn o O om) ?_;rintro t w3 ⟨rfl,rfl⟩;have:=Jxl o om;rw[j]at this ⊢;have hr:n % m<m:=Nat.mod_lt _ h0;refine ρ ?_;rw[Vr om];refine cl (Ge (n % m) om _) ?_;rintro y w4 ⟨hy,D⟩;refine ρ ?_;exact Zz ⟨⟨_,y,rfl,this.ext D,hy⟩,Z.trans D⟩
end Go.Proofs.YtgobkbeokaaplaaGreatDoor
namespace Go.Wk
variable {d n t ty:Nat}
theorem dbx{P:Program}{al:AL}{w:World}{Q:Exit->Act->World->Prop}{ops:Array Oper}{drest:List (Nat×Oper)}{pos:String}{aft:Array Edge}{x:Operand}{v:Value}{cs:List Value}(kk:∀ w1 b,Ext w w1->w.heap.size<=b->Blk w1 b t cs->WD P n ops Q drest ((d,.pointer (some ⟨b,0,none⟩))::al) w1)(hx:ev al x=some v:=by rfl)(hv:v.cells=cs.toArray:=by rfl)(hd:Nat.blt d n=true:=by rfl): WD P n ops Q ((1,⟨some d,.box t x,ty,pos,aft,none⟩)::drest) al w :=
 by grind [Gf,bx,Jf,Gd]
end Go.Wk
namespace Go.Proofs.YtgobkbeokaaplaaGreatDoor
open Go.RowKit Pl Go.Wk _root_.Go.Proofs.Tryz
attribute [local irreducible] WC WL QX WD WDB WP WN WG
variable {c m n:Nat}{N N':Nat->Prop}{l r t:Tr}{pl pr u v wt:Value}{w w':World}
theorem Qqn(h:0<(Jq n).length): n≠0:=by grind [limbs_0]
def NatX(N:Nat->Prop)(w:World)(v:Value)(n:Nat): Prop:=NatV w v n/\(n≠0->∀ ad m c,v=.slice (some ad) m c->¬ N ad.block)
theorem NatX.ext{N:Nat->Prop}{w w':World}{v:Value}{n:Nat}(h:NatX N w v n)(hx:Ext w w'): NatX N w' v n:=⟨h.1.ext hx,h.2⟩
theorem NatX.gr(h:NatX N w v n)(hg:GrN N w w'): NatX N w' v n:=by
 obtain⟨⟨A,c,rfl,u,o,j⟩,i⟩:=h;exact⟨⟨A,c,rfl,u,o,Vs j hg (λh0 C e=>i (Qqn (by grind [Qyj])) C _ _ (by rw[e]))⟩,i⟩
theorem NatX.nil{N:Nat->Prop}(w:World): NatX N w (.slice none 0 0) 0:=⟨NatV.nil w,λ_ i m c e=>by cases e⟩
theorem limbs_pos'(h:n≠0): 0<(Jq n).length:=by rw[Jbr h];simp
theorem NatX.old(h:NatX N w v n)(hs:∀ k,N' k->N k∨w.heap.size<=k): NatX N' w v n:=⟨h.1,λh0 j m c e i=>by
 rcases hs _ i with h1|h1
 .exact h.2 h0 j m c e h1
 obtain⟨A,C,u,_,_,o⟩:=h.1;grind [Rd.isome,limbs_pos']⟩
theorem Fresh.x(h:Fresh w v)(hn:NatV w' v n)(hN:∀ k,N k->k<w.heap.size): NatX N w' v n :=
 ⟨hn,λ_ j m c e i=>by have:=h j m c e;have:=hN _ i;omega⟩
def TrV(N:Nat->Prop)(w:World): Tr->Value->Prop
 | .nil,u=>u=.pointer none
 | .node l v x r,u=>∃ b wt pl pr st,u=.pointer (some ⟨b,0,none⟩)/\(Blk w b 232 (v.cells++[wt,pl,pr,.int .i64 ((Tr.node l v x r).ht:Int),.int .i64 ((Tr.node l v x r).sz:Int),st])/\¬ N b)/\NatX N w wt x/\NatX N w st (Tr.node l v x r).sum/\TrV N w l pl/\TrV N w r pr
theorem TrV.gr{N:Nat->Prop}{w w':World}: ∀ {t:Tr} {u:Value},TrV N w t u->GrN N w w'->TrV N w' t u
 | .nil,u,h,_=>h
 | .node l v x r,u,h,hx=>by
  obtain⟨b,wt,pl,pr,st,h1,⟨h2,h2'⟩,h3,h4,h5,h6⟩:=h;exact⟨b,wt,pl,pr,st,h1,⟨Jy h2 hx h2',h2'⟩,h3.gr hx,h4.gr hx,h5.gr hx,h6.gr hx⟩
theorem TrV.ext{N:Nat->Prop}{w w':World}{t:Tr}{u:Value}(h:TrV N w t u)(hx:Ext w w'): TrV N w' t u:=h.gr (GrN.ext hx)
theorem TrV.old{N N':Nat->Prop}{w:World}(hs:∀ k,N' k->N k∨w.heap.size<=k): ∀ {t:Tr} {u:Value},TrV N w t u->TrV N' w t u
 | .nil,u,h=>h
 | .node l v x r,u,h=>by
  obtain⟨b,wt,pl,pr,st,h1,⟨h2,h2'⟩,h3,h4,h5,h6⟩:=h;exact⟨b,wt,pl,pr,st,h1,⟨h2,λhk=>(hs _ hk).elim h2' (λh=>by have:=h2.lt;omega)⟩,h3.old hs,h4.old hs,h5.old hs,h6.old hs⟩
theorem TrV.ptr(h:TrV N w t u): ∃ p,u=.pointer p:=by
 cases t with
 | nil=>exact⟨none,h⟩
 | node l v x r=>obtain⟨b,_,_,_,_,i,_⟩:=h;exact⟨_,i⟩
theorem Jgs(hv:NatV w v n)(hs:(Jq n).length<=1000): Ret prog 86 [v] w λr w'=>NatV w' r n/\Fresh w r/\Ext w w':=by
 refine enE func86 ntmps86 ?_;refine clR (Uw hv) ?_;rintro j w' ⟨⟨A,rfl,D⟩,rfl⟩;refine clR (Qkp D (Jcs _) om) ?_;rintro j U ⟨i,o⟩;obtain⟨O,G,rfl,C,u⟩:=Jv i;refine ρ ?_;refine Jj ⟨⟨O,G,rfl,C,om,Rd.own i⟩,λJ m c e=>?_,o⟩;injection e with e1 e2 e3
 subst e1;exact(u J.block rfl).1
theorem Qvc: ∃ k:Nat,k=900:=⟨_,rfl⟩
noncomputable def bK: Nat:=Classical.choose Qvc
theorem Jmn: bK=900:=Classical.choose_spec Qvc
def Nb(n:Nat): Prop:=n<4294967296^bK
theorem Nb.len(h:Nb n): (Jq n).length<=1000:=by
 rcases Nat.eq_zero_or_pos n with h0|h0
 .rw[h0,limbs_0];simp
 have i:=Jhb (n:=n) om;rcases Nat.lt_or_ge bK ((Jq n).length-1) with h2|h2
 .exact absurd (nM h (nL (Nat.pow_le_pow_right (by decide) (Nat.le_of_lt h2)) i)) (Nat.lt_irrefl _)
 rw[Jmn]at h2;omega
theorem Nb.le(h:Nb n)(hm:m<=n): Nb m:=Nat.lt_of_le_of_lt hm h
theorem Ie(h:TrV N w t u): Ret prog 81 [u] w λr w'=>r=.int .i64 (t.ht:Int)/\w'=w:=by
 refine enE func81 ntmps81 ?_;cases t with
 | nil=>
  obtain rfl:u=.pointer none:=h;refine ρ ?_;refine pnl ?_;refine ρ ?_;exact Jj ⟨rfl,rfl⟩
 | node l v x r=>
  obtain⟨b,o,D,C,st,rfl,⟨j,_⟩,U,O,J,G⟩:=h;refine ρ ?_;refine pnl ?_;refine ldR (j.at (i:=6) rfl) ?_;refine ρ ?_;exact Jj ⟨rfl,rfl⟩
theorem Jrw(h:TrV N w t u): Ret prog 82 [u] w λr w'=>r=.int .i64 (t.sz:Int)/\w'=w:=by
 refine enE func82 ntmps82 ?_;cases t with
 | nil=>
  obtain rfl:u=.pointer none:=h;refine ρ ?_;refine pnl ?_;refine ρ ?_;exact Jj ⟨rfl,rfl⟩
 | node l v x r=>
  obtain⟨b,o,D,C,st,rfl,⟨j,_⟩,U,O,J,G⟩:=h;refine ρ ?_;refine pnl ?_;refine ldR (j.at (i:=7) rfl) ?_;refine ρ ?_;exact Jj ⟨rfl,rfl⟩
theorem Jxm(h:TrV N w t u): Ret prog 176 [u] w λr w'=>NatX N w r t.sum/\w'=w:=by
 refine enE func176 ntmps176 ?_;cases t with
 | nil=>
  obtain rfl:u=.pointer none:=h;refine ρ ?_;refine pnl ?_;refine ρ ?_;exact Jj ⟨NatX.nil _,rfl⟩
 | node l v x r=>
  obtain⟨b,C,G,D,st,rfl,⟨o,_⟩,U,j,O,J⟩:=h;refine ρ ?_;refine pnl ?_;refine ldR (o.at (i:=8) rfl) ?_;refine ρ ?_;exact Jj ⟨j,rfl⟩
structure NatsV(w:World)(A:Option Addr)(us:List Value)(ns:List Nat): Prop where
 rd:Rd w 1 A us.length us
 len:us.length=ns.length
 nat:∀ i,i<ns.length->NatV w (us.getD i (.int .i64 0)) (ns.getD i 0)
theorem Qpb{A:Option Addr}{us:List Value}{ns:List Nat}(h:NatsV w A us ns)(hN:Nb (ns.foldl (· + ·) 0))(hl:ns.length<=1000)(hsub:∀ i,i<=ns.length->Nb ((ns.take i).foldl (· + ·) 0))(hone:∀ x∈ns,Nb x):
  Ret prog 227 [.slice A us.length c] w λr w'=>NatV w' r (ns.foldl (· + ·) 0)/\Fresh w r/\Ext w w':=by
 have Z:=h.len;refine enE func227 ntmps227 ?_;refine ρ ?_;refine Jo (fun (i:Nat) (vs:Value)=>[(0,.slice A us.length c),(3,vs),(6,.int .i64 (us.length:Int)),(7,.int .i64 (i:Int))])
  (λi vs w'=>i<=ns.length/\Ext w w'/\NatV w' vs ((ns.take i).foldl (· + ·) 0)/\Fresh w vs) (λi _=>ns.length-i) 0 (.slice none 0 0) sB
  ⟨Nat.zero_le _,Ext.refl _,NatV.nil _,λad m c e=>by cases e⟩ ?_
 rintro i vs w1 ⟨hi,j,C,G⟩;refine ciR (λO=>?_) (λO=>?_)
 .have U:i<ns.length:=by have:=oT O;omega
  clear O;refine ixR i (h.rd.ext j) om ?_;have o:us[i]?=some (us.getD i (.int .i64 0)):=by grind
  refine ldR ((h.rd.ext j).cell o) ?_;refine clR (Ih C ((h.nat i U).ext j) (hsub i hi).len (hone _ (by grind)).len) ?_;rintro r w2 ⟨hr,J,u⟩;refine ρ ?_;refine Jl (i+1) r sO ⟨U,j.trans u,?_,λad m c e=>nL j.size (J ad m c e)⟩ om;grind [Qr]
 have D:i=ns.length:=by grind
 rw[D,List.take_length]at C;refine ρ ?_;exact Jj ⟨C,G,j⟩
theorem Xkg(v:V)(wt st:Value)(A1 A2:Option Addr)(n1 n2 c1 c2:Nat)(pl pr:Option Addr)(y z:Int)(h1:wt=.slice A1 n1 c1)(h2:st=.slice A2 n2 c2)(w:World): (Instr.build 232 #[(0,.agg (v.cells++[wt]).toArray),(1,.pointer pl),(2,.pointer pr),(3,.int .i64 y),(4,.int .i64 z),(5,st)]).run prog w=.ok (.agg (v.cells++[wt,.pointer pl,.pointer pr,.int .i64 y,.int .i64 z,st]).toArray) w:=by
 subst h1;subst h2;kernel_rfl
theorem Xzd(v1 v2 v3:Value)(A1 A2 A3:Option Addr)(n1 n2 n3 c1 c2 c3:Nat)(h1:v1=.slice A1 n1 c1)(h2:v2=.slice A2 n2 c2)(h3:v3=.slice A3 n3 c3)(w:World): (Instr.buildSlice 349 3 #[(0,v1),(1,v2),(2,v3)]).run prog w=.ok (.slice (some ⟨w.heap.size,0,none⟩) 3 3) (w.alloc (.cells [v1,v2,v3].toArray 45)):=by
 subst h1;subst h2;subst h3;kernel_rfl
theorem Ub{v:V}{x:Nat}(hl:TrV N w l pl)(hr:TrV N w r pr)(hw:NatX N w wt x)(hN:∀ k,N k->k<w.heap.size)(hb:Nb (Tr.node l v x r).sum)(hs:(Tr.node l v x r).sz<=1000000):
  Ret prog 199 [pl,.agg (v.cells++[wt]).toArray,pr] w λu w'=>TrV N w' (.node l v x r) u/\Ext w w':=by
 obtain⟨ql,rfl⟩:=hl.ptr;obtain⟨qr,rfl⟩:=hr.ptr;refine enE func199 ntmps199 ?_;refine bxR (cs:=v.cells++[wt]) ?_;intro w1 b a9 aj hB;refine ρ ?_;have a1:Ext w1 w1.drew:=(Ext.refl w1).drew;have C:=a9.trans a1;have a7:=hB.ext a1;have J:=hl.ext C;have G:=hr.ext C;have U:=hw.ext C;have ag:=Tr.ht_le l;have af:=Tr.ht_le r;simp only[Tr.sz]at hs;refine dr [(0,0),(0,1),(0,2),(0,3),(0,5),(0,9),(0,12),(0,15),(0,17),(0,18),(0,19),(1,4),(1,6),(0,7),(0,8),(1,10),(0,11),(1,13),(0,14),(1,16),(1,20),(1,21),(1,22),(0,23),(1,24),(0,25)] kr ?_;refine Qn (cs:=v.cells++[wt]) (λj u hu=>a7.at hu) ?_;refine Jz (a7.at (i:=3) rfl) ?_;refine Jg (Ie J) ?_;rintro u2 Z ⟨rfl,rfl⟩;refine⟨Ext.refl _,?_⟩;refine Jg (Ie G) ?_;rintro u2 Z ⟨rfl,rfl⟩;refine⟨Ext.refl _,?_⟩;refine Jg (Jrw J) ?_;rintro u2 Z ⟨rfl,rfl⟩;refine⟨Ext.refl _,?_⟩;refine Jg (Jrw G) ?_;rintro u2 Z ⟨rfl,rfl⟩
 refine⟨Ext.refl _,?_⟩;refine Jg (Jxm J) ?_;rintro ul Z ⟨a4,rfl⟩;refine⟨Ext.refl _,?_⟩;refine Jg (Jxm G) ?_;rintro ur Z ⟨a3,rfl⟩;refine⟨Ext.refl _,?_⟩;obtain⟨A1,c1,e1,_⟩:=id a4.1;obtain⟨A2,c2,e2,_⟩:=id U.1;obtain⟨A3,c3,e3,_⟩:=id a3.1;refine ρd ?_;refine Ut (Xzd _ _ _ _ _ _ _ _ _ _ _ _ e1 e2 e3) ?_;intro w3 b3 D ai ae;have ab:NatsV w3 (some ⟨b3,0,none⟩) [ul,wt,ur] [l.sum,x,r.sum]:=by
  refine⟨ae.rd (n:=3) rfl,rfl,λi hi=>?_⟩;match i,hi with
  | 0,_=>exact a4.1.ext D
  | 1,_=>exact U.1.ext D
  | 2,_=>exact a3.1.ext D
 simp only[Tr.sum]at hb;refine Jg (Qpb (us:=[ul,wt,ur]) ab (hb.le (by simp)) (by simp) (λi hi=>hb.le ?_) (λy hy=>hb.le ?_)) ?_
 .match i,hi with
  | 0,_=>simp
  | 1,_=>simp;omega
  | 2,_=>simp
  | 3,_=>simp
 .grind
 rintro st w4 ⟨a6,ad,O⟩;refine⟨O,?_⟩;obtain⟨A4,c4,e4,_⟩:=id a6;refine ρd ?_;refine dbld (Xkg v wt st A2 A4 _ _ _ _ ql qr _ _ e2 e4) ?_;refine ρd ?_;refine dbx (cs:=v.cells++[wt,.pointer ql,.pointer qr,.int .i64 _,.int .i64 _,st]) ?_;intro w5 b5 a2 ah a8;refine ρd ?_;refine ρ ?_;have e5:(if(l.ht:Int)<(r.ht:Int) then(r.ht:Int) else(l.ht:Int))+1=((Tr.node l v x r).ht:Int):=by simp only[Tr.ht];split<;>omega
 have e6:(l.sz:Int)+1+r.sz=((Tr.node l v x r).sz:Int):=by simp only[Tr.sz];omega
 rw[e5,e6]at a8;have o:=(D.trans O).trans a2;have aa:=nL C.size D.size;have a5:NatX N w5 st (Tr.node l v x r).sum:=by
  have:=a6.ext a2;simp only[List.foldl_cons,List.foldl_nil,Nat.zero_add]at this;exact ad.x this λk hk=>nM (hN k hk) aa
 have ac:¬ N b5:=λhk=>by have:=hN _ hk;have:=O.size;omega
 exact Jj ⟨⟨b5,wt,_,_,st,rfl,⟨a8,ac⟩,U.ext o,a5,J.ext o,G.ext o⟩,C.trans o⟩
end Go.Proofs.YtgobkbeokaaplaaGreatDoor
namespace Go.Wk
theorem _root_.Go.Wk.Blk.pre{w:World}{b t:Nat}{cs ds:List Value}(h:Blk w b t (cs++ds))(j:Nat)(u:Value)(hu:cs[j]?=some u): w.cell? ((⟨b,0,none⟩:Addr).add j)=some u :=
 h.at (by grind)
end Go.Wk
namespace Go.Proofs.YtgobkbeokaaplaaGreatDoor
open Go.RowKit Pl Go.Wk
attribute [local irreducible] WC WL QX WD WDB WP WN WG
theorem Qws{N:Nat->Prop}{w:World}{l r:Tr}{pl pr wt:Value}{v:V}{x:Nat}(hl:TrV N w l pl)(hr:TrV N w r pr)(hw:NatX N w wt x)(hN:∀ k,N k->k<w.heap.size)(hb:Nb (Tr.node l v x r).sum)(hs:(Tr.node l v x r).sz<=1000000):
  Ret Tryz.prog 200 [pl,.agg (v.cells++[wt]).toArray,pr] w λu w'=>TrV N w' (Tr.bal l v x r) u/\Ext w w':=by
 obtain⟨ql,rfl⟩:=hl.ptr;obtain⟨qr,rfl⟩:=hr.ptr;have bc:=Tr.ht_le l;have bb:=Tr.ht_le r;have ah:l.sz+1+r.sz<=1000000:=hs;have U:Nb (l.sum+x+r.sum):=hb;refine enE Tryz.func200 Tryz.ntmps200 ?_;refine bxR (cs:=v.cells++[wt]) ?_;intro w1 b G bd hB;have ac:=hl.ext G;have a9:=hr.ext G;have a8:=hw.ext G;refine clR (Ie ac) ?_;rintro u2 w2 ⟨rfl,rfl⟩;refine clR (Ie a9) ?_;rintro u2 w2 ⟨rfl,rfl⟩;have a6:Ext w2 w2.drew:=(Ext.refl w2).drew;refine ρ ?_;by_cases hc:r.ht+1<l.ht
 .cases l with
  | nil=>simp[Tr.ht]at hc
  | node ll lv lx lr=>
   obtain⟨bl,wl,b8,b7,sl,e1,⟨ag,b3⟩,ar,ba,am,ak⟩:=id ac;obtain rfl:ql=some ⟨bl,0,none⟩:=by injection e1
   obtain⟨b4,rfl⟩:=am.ptr;obtain⟨ap,rfl⟩:=ak.ptr;simp only[Tr.sum,Tr.sz]at U ah;have ae:decide ((r.ht:Int)+1<((Tr.node ll lv lx lr).ht:Int))=true:=decide_eq_true om;refine dr [(0,0),(0,1),(0,2),(0,3),(0,4),(0,5),(0,6),(0,7),(0,8),(0,10),(0,11),(0,12),(0,13),(1,9),(1,14),(0,15),(0,16),(0,17)] kr ?_;refine ρd ?_;refine dkt 20 ae ?_;refine Jz ((ag.ext a6).at (i:=4) rfl) ?_;refine Jz ((ag.ext a6).at (i:=5) rfl) ?_;refine Jg (Ie (am.ext a6)) ?_;rintro u3 w3 ⟨rfl,rfl⟩;refine⟨Ext.refl _,?_⟩;refine Jg (Ie (ak.ext a6)) ?_;rintro u3 w3 ⟨rfl,rfl⟩;refine⟨Ext.refl _,?_⟩;refine ρd ?_;refine ciR (λJ=>?_) (λJ=>?_)
   .have J:lr.ht<=ll.ht:=by have:=oT J;omega
    have o:Ext w2 w2.drew.drew:=a6.drew;have a5:=ag.ext o;refine drR (scq 17 [14,15]) ?_;refine Jz (a5.at (i:=4) rfl) ?_;refine Qn (cs:=lv.cells++[wl]) (Blk.pre (cs:=lv.cells++[wl]) a5) ?_;refine Jz (a5.at (i:=5) rfl) ?_;refine Qn (cs:=v.cells++[wt]) (λj u hu=>(hB.ext o).at hu) ?_;refine Jg (Ub (ak.ext o) (a9.ext o) (a8.ext o) (λk O=>nM (hN k O) (G.trans o).size) (U.le (by simp only[Tr.sum];omega)) (by simp only[Tr.sz];omega)) ?_;rintro uj w4 ⟨hj,a1⟩;refine⟨a1,?_⟩;have C:=o.trans a1;refine Jg (Ub (am.ext C) hj (ar.ext C) (λk O=>nM (hN k O) (G.trans C).size) (U.le (by simp only[Tr.sum];omega)) (by simp only[Tr.sz];omega)) ?_;rintro uk w5 ⟨O,Z⟩;refine⟨Z,?_⟩;refine ρd ?_;refine ρ ?_;refine Jj ⟨?_,(G.trans C).trans Z⟩;have e:Tr.bal (.node ll lv lx lr) v x r=.node ll lv lx (.node lr v x r):=by simp only[Tr.bal,if_pos hc,if_pos J]
    rw[e];exact O
   have J:ll.ht<lr.ht:=by grind
   refine ctR ae ?_;cases lr with
   | nil=>simp[Tr.ht]at J
   | node ml mv mx mr=>
    obtain⟨bm,wm,az,ay,sm,e2,⟨ao,au⟩,an,b1,ab,aa⟩:=id ak;obtain rfl:ap=some ⟨bm,0,none⟩:=by injection e2
    obtain⟨ax,rfl⟩:=ab.ptr;obtain⟨aw,rfl⟩:=aa.ptr;simp only[Tr.sum,Tr.sz]at U ah;refine ldR ((ag.ext a6).at (i:=5) rfl) ?_;refine ρ ?_;have o:Ext w2 w2.drew.drew:=a6.drew;have a5:=ag.ext o;have a3:=ao.ext o;refine dr [(0,0),(0,1),(0,2),(0,3),(0,4),(0,5),(0,6),(0,7),(0,8),(0,9),(0,10),(0,11),(0,13),(0,14),(0,15),(0,16),(0,17),(0,18),(0,19),(0,20),(0,21),(0,22),(1,12),(1,23),(1,24),(0,25)] kr ?_;refine Jz (a5.at (i:=4) rfl) ?_;refine Qn (cs:=lv.cells++[wl]) (Blk.pre (cs:=lv.cells++[wl]) a5) ?_;refine Jz (a3.at (i:=4) rfl) ?_;refine Qn (cs:=mv.cells++[wm]) (Blk.pre (cs:=mv.cells++[wm]) a3) ?_;refine Jz (a3.at (i:=5) rfl) ?_;refine Qn (cs:=v.cells++[wt]) (λj u hu=>(hB.ext o).at hu) ?_;refine Jg (Ub (am.ext o) (ab.ext o) (ar.ext o) (λk O=>nM (hN k O) (G.trans o).size) (U.le (by simp only[Tr.sum];omega)) (by simp only[Tr.sz];omega)) ?_;rintro uj w4 ⟨hj,a1⟩
    refine⟨a1,?_⟩;have C:=o.trans a1;refine Jg (Ub (aa.ext C) (a9.ext C) (a8.ext C) (λk O=>nM (hN k O) (G.trans C).size) (U.le (by simp only[Tr.sum];omega)) (by simp only[Tr.sz];omega)) ?_;rintro uk w5 ⟨O,Z⟩;refine⟨Z,?_⟩;have a2:=C.trans Z;refine Jg (Ub (hj.ext Z) O (an.ext a2) (λk O=>nM (hN k O) (G.trans a2).size) (U.le (by simp only[Tr.sum];omega)) (by simp only[Tr.sz];omega)) ?_;rintro uo w6 ⟨ho,a7⟩;refine⟨a7,?_⟩;refine ρd ?_;refine ρ ?_;refine Jj ⟨?_,(G.trans a2).trans a7⟩;have e:Tr.bal (.node ll lv lx (.node ml mv mx mr)) v x r=.node (.node ll lv lx ml) mv mx (.node mr v x r):=by simp only[Tr.bal,if_pos hc,if_neg (Nat.not_le.2 J)]
    rw[e];exact ho
 refine dr [(0,0),(0,1),(0,2),(0,3),(0,4),(0,5),(0,6),(0,7),(0,8),(0,10),(0,11),(0,12),(0,13),(1,9),(1,14),(0,15),(0,16),(0,17)] kr ?_;refine ρd ?_;have ae:decide ((r.ht:Int)+1<(l.ht:Int))=false:=dF om;refine dkf 20 ae ?_;refine ρd ?_;refine cfR ae ?_;refine ρ ?_;by_cases hd:l.ht+1<r.ht
 .cases r with
  | nil=>simp[Tr.ht]at hd
  | node rl rv rx rr=>
   obtain⟨br,wr,b6,b5,sr,e1,⟨af,b2⟩,aq,b9,aj,ai⟩:=id a9;obtain rfl:qr=some ⟨br,0,none⟩:=by injection e1
   obtain⟨av,rfl⟩:=aj.ptr;obtain⟨ap,rfl⟩:=ai.ptr;simp only[Tr.sum,Tr.sz]at U ah;have o:Ext w2 w2.drew.drew:=a6.drew;have ad:decide ((l.ht:Int)+1<((Tr.node rl rv rx rr).ht:Int))=true:=decide_eq_true om;refine dr [(0,0),(0,1),(0,2),(0,3),(0,4),(0,5),(0,6),(0,7),(0,8),(0,10),(0,11),(0,12),(0,13),(1,9),(1,14),(0,15),(0,16),(0,17)] kr ?_;refine ρd ?_;refine dkt 88 ad ?_;refine Jz ((af.ext o).at (i:=5) rfl) ?_;refine Jz ((af.ext o).at (i:=4) rfl) ?_;refine Jg (Ie (ai.ext o)) ?_;rintro u3 w3 ⟨rfl,rfl⟩;refine⟨Ext.refl _,?_⟩;refine Jg (Ie (aj.ext o)) ?_;rintro u3 w3 ⟨rfl,rfl⟩;refine⟨Ext.refl _,?_⟩;refine ρd ?_;refine ciR (λJ=>?_) (λJ=>?_)
   .have J:rl.ht<=rr.ht:=by have:=oT J;omega
    have D:Ext w2 w2.drew.drew.drew:=o.drew;have a4:=af.ext D;refine drR [(0,0),(0,1),(0,2),(0,3),(0,4),(0,5),(0,7),(0,8),(0,9),(0,10),(0,11),(0,12),(0,13),(0,14),(1,6),(1,15),(0,16)] ?_;refine Qn (cs:=v.cells++[wt]) (λj u hu=>(hB.ext D).at hu) ?_;refine Jz (a4.at (i:=4) rfl) ?_;refine Qn (cs:=rv.cells++[wr]) (Blk.pre (cs:=rv.cells++[wr]) a4) ?_;refine Jz (a4.at (i:=5) rfl) ?_;refine Jg (Ub (ac.ext D) (aj.ext D) (a8.ext D) (λk O=>nM (hN k O) (G.trans D).size) (U.le (by simp only[Tr.sum];omega)) (by simp only[Tr.sz];omega)) ?_;rintro uj w4 ⟨hj,a1⟩;refine⟨a1,?_⟩;have C:=D.trans a1;refine Jg (Ub hj (ai.ext C) (aq.ext C) (λk O=>nM (hN k O) (G.trans C).size) (U.le (by simp only[Tr.sum];omega)) (by simp only[Tr.sz];omega)) ?_;rintro uk w5 ⟨O,Z⟩;refine⟨Z,?_⟩;refine ρd ?_;refine ρ ?_;refine Jj ⟨?_,(G.trans C).trans Z⟩;have e:Tr.bal l v x (.node rl rv rx rr)=.node (.node l v x rl) rv rx rr:=by simp only[Tr.bal,if_neg hc,if_pos hd,if_pos J]
    rw[e];exact O
   have J:rr.ht<rl.ht:=by grind
   refine ctR ad ?_;cases rl with
   | nil=>simp[Tr.ht]at J
   | node ml mv mx mr=>
    obtain⟨bm,wm,az,ay,sm,e2,⟨ao,au⟩,an,b1,ab,aa⟩:=id aj;obtain rfl:av=some ⟨bm,0,none⟩:=by injection e2
    obtain⟨ax,rfl⟩:=ab.ptr;obtain⟨aw,rfl⟩:=aa.ptr;simp only[Tr.sum,Tr.sz]at U ah;refine ldR ((af.ext o).at (i:=4) rfl) ?_;refine ρ ?_;have D:Ext w2 w2.drew.drew.drew:=o.drew;have a4:=af.ext D;have a3:=ao.ext D;refine dr [(0,0),(0,1),(0,2),(0,3),(0,4),(0,5),(0,7),(0,8),(0,9),(0,10),(0,11),(0,12),(0,13),(0,14),(0,15),(0,16),(0,17),(0,18),(0,19),(0,20),(0,21),(0,22),(1,6),(1,23),(1,24),(0,25)] kr ?_;refine Qn (cs:=v.cells++[wt]) (λj u hu=>(hB.ext D).at hu) ?_;refine Jz (a3.at (i:=4) rfl) ?_;refine Qn (cs:=mv.cells++[wm]) (Blk.pre (cs:=mv.cells++[wm]) a3) ?_;refine Jz (a3.at (i:=5) rfl) ?_;refine Qn (cs:=rv.cells++[wr]) (Blk.pre (cs:=rv.cells++[wr]) a4) ?_;refine Jz (a4.at (i:=5) rfl) ?_;refine Jg (Ub (ac.ext D) (ab.ext D) (a8.ext D) (λk O=>nM (hN k O) (G.trans D).size) (U.le (by simp only[Tr.sum];omega)) (by simp only[Tr.sz];omega)) ?_;rintro uj w4 ⟨hj,a1⟩
    refine⟨a1,?_⟩;have C:=D.trans a1;refine Jg (Ub (aa.ext C) (ai.ext C) (aq.ext C) (λk O=>nM (hN k O) (G.trans C).size) (U.le (by simp only[Tr.sum];omega)) (by simp only[Tr.sz];omega)) ?_;rintro uk w5 ⟨O,Z⟩;refine⟨Z,?_⟩;have a2:=C.trans Z;refine Jg (Ub (hj.ext Z) O (an.ext a2) (λk O=>nM (hN k O) (G.trans a2).size) (U.le (by simp only[Tr.sum];omega)) (by simp only[Tr.sz];omega)) ?_;rintro uo w6 ⟨ho,a7⟩;refine⟨a7,?_⟩;refine ρd ?_;refine ρ ?_;refine Jj ⟨?_,(G.trans a2).trans a7⟩;have e:Tr.bal l v x (.node (.node ml mv mx mr) rv rx rr)=.node (.node l v x ml) mv mx (.node mr rv rx rr):=by simp only[Tr.bal,if_neg hc,if_pos hd,if_neg (Nat.not_le.2 J)]
    rw[e];exact ho
 refine dr [(0,0),(0,1),(0,2),(0,3),(0,4),(0,5),(0,6),(0,7),(0,8),(0,10),(0,11),(0,12),(0,13),(1,9),(1,14),(0,15),(0,16),(0,17)] kr ?_;refine ρd ?_;have ad:decide ((l.ht:Int)+1<(r.ht:Int))=false:=dF om;refine dkf 88 ad ?_;refine ρd ?_;refine cfR ad ?_;have o:Ext w2 w2.drew.drew:=a6.drew;refine Jt (cs:=v.cells++[wt]) (λj u hu=>(hB.ext o).at hu) ?_;refine clR (Ub (ac.ext o) (a9.ext o) (a8.ext o) (λk O=>nM (hN k O) (G.trans o).size) hb hs) ?_;rintro uj w4 ⟨hj,a1⟩;refine ρ ?_;refine Jj ⟨?_,(G.trans o).trans a1⟩;have e:Tr.bal l v x r=.node l v x r:=by simp only[Tr.bal,if_neg hc,if_neg hd]
 rw[e];exact hj
open Go.RowKit Pl Go.Wk _root_.Go.Proofs.Tryz
variable {d:Bool}{x:Nat}{N:Nat->Prop}{p p0:Option Addr}{a b v:V}{wt:Value}{w:World}
theorem neg_lt: neg d (cmpV a b)=if d=true then cmpV b a else cmpV a b:=by
 unfold neg;split
 .exact(cmp_V.anti a b).symm
 rfl
theorem Qkf: Ret prog 180 [.agg #[.bool d,.pointer p],a.val,b.val] w λu w'=>u=.int .i64 (neg d (cmpV a b))/\Ext w w':=by
 rw[neg_lt];refine enE func180 ntmps180 ?_;refine bxR ?_;intro w1 b1 O a5 a2;refine bxR (cs:=a.cells) ?_;intro w2 b2 G a4 a1;refine bxR (cs:=b.cells) ?_;intro w3 b3 o a3 U;have Z:=(a2.ext G).ext o;have C:=a1.ext o;refine ldR (Z.at (i:=0) rfl) ?_;refine ciR (λh=>?_) (λh=>?_)
 .refine Jt (cs:=b.cells) (λj u J=>U.at J) ?_;refine Jt (cs:=a.cells) (λj u J=>C.at J) ?_;refine clR (Jxj b a _) ?_;rintro u w4 ⟨rfl,D⟩;refine ρ ?_;refine Jj ⟨?_,((O.trans G).trans o).trans D⟩;rw[if_pos h]
 refine Jt (cs:=a.cells) (λj u J=>C.at J) ?_;refine Jt (cs:=b.cells) (λj u J=>U.at J) ?_;refine clR (Jxj a b _) ?_;rintro u w4 ⟨rfl,D⟩;refine ρ ?_;refine Jj ⟨?_,((O.trans G).trans o).trans D⟩;rw[if_neg (by rw[h];simp)]
theorem Qwv(l:Tr)(v:V)(x:Nat)(r:Tr): (Tr.bal l v x r).sum=l.sum+x+r.sum:=by
 have:=congrArg tot (Tr.toL_bal l v x r);rw[<-Tr.sum_eq,Jkr,tot,<-Tr.sum_eq,<-Tr.sum_eq]at this;grind
theorem Jwh(d:Bool)(v:V)(x:Nat): ∀ t:Tr,(Tr.put d v x t).sum<=t.sum+x
 | .nil=>by simp[Tr.put,Tr.sum]
 | .node l a y r=>by
  have h1:=Jwh d v x l;have h2:=Jwh d v x r;unfold Tr.put;split
  .rw[Qwv,Tr.sum];omega
  split
  .rw[Qwv,Tr.sum];omega
  rw[Tr.sum,Tr.sum];omega
theorem Qll: ∀(t:Tr) (p:Value) (w:World),TrV N w t p->NatX N w wt x->(∀ k,N k->k<w.heap.size)->Nb (t.sum+x)->t.sz+1<=1000000 ->
  Ret prog 175 [.agg #[.bool d,.pointer p0],p,.agg (v.cells++[wt]).toArray] w λu w'=>TrV N w' (Tr.put d v x t) u/\Ext w w':=by
 intro t;induction t with
 | nil=>
  intro p w hp hw hN hb hs;obtain rfl:p=.pointer none:=hp;refine enE func175 ntmps175 ?_;refine bxR ?_;intro w1 b1 a8 ah ad;refine bxR (cs:=v.cells++[wt]) ?_;intro w2 b2 a6 ag aa;have hx:=a8.trans a6;refine ρ ?_;refine pnl ?_;refine Jt (cs:=v.cells++[wt]) (λj u O=>aa.at O) ?_;refine clR (Ub (l:=.nil) (r:=.nil) (show TrV N w2 .nil (.pointer none) from rfl) (show TrV N w2 .nil (.pointer none) from rfl) (hw.ext hx) (λk hk=>nM (hN k hk) hx.size) (hb.le (by simp[Tr.sum])) (by simp[Tr.sz])) ?_;rintro u w3 ⟨O,J⟩;refine ρ ?_;exact Jj ⟨O,hx.trans J⟩
 | node l a y r ihl ihr=>
  intro p w hp hw hN hb hs;obtain⟨bn,wn,pl,pr,sn,rfl,⟨a7,ai⟩,ab,aj,hl,hr⟩:=id hp;obtain⟨ql,rfl⟩:=hl.ptr;obtain⟨qr,rfl⟩:=hr.ptr;simp only[Tr.sum]at hb;simp only[Tr.sz]at hs;refine enE func175 ntmps175 ?_;refine bxR ?_;intro w1 b1 a8 ah ad;refine bxR (cs:=v.cells++[wt]) ?_;intro w2 b2 a6 ag aa;have hx:=a8.trans a6;refine ρ ?_;refine pnl ?_;refine ρ ?_;have a5:Ext w2 w2.drew:=(Ext.refl w2).drew;have ac:=a7.ext (hx.trans a5);have a4:=(ad.ext a6).ext a5;have Z:=aa.ext a5;refine dr (scq 10 [8]) kr ?_;refine Qn (cs:=[.bool d,.pointer p0]) (λj u O=>a4.at O) ?_;refine Qn (cs:=v.cells) (Blk.pre (cs:=v.cells) Z) ?_;refine Qn (cs:=a.cells) (Blk.pre (cs:=a.cells) ac) ?_;refine Jg (Qkf (a:=v) (b:=a)) ?_;rintro u w3 ⟨rfl,J⟩;refine⟨J,?_⟩;refine ρd ?_;refine ρ ?_;have a2:=(hx.trans a5).trans J;refine ci (λhc=>?_) (λhc=>?_)
  .have hc:=oT hc;have C:Ext w3 w3.drew:=(Ext.refl w3).drew;have o:=a2.trans C;have D:=a7.ext o;refine drR [(0,0),(0,1),(0,2),(0,3),(0,4),(0,5),(0,7),(0,8),(0,9),(0,10),(0,11),(0,12),(0,13),(0,14),(1,6),(1,15),(0,16)] ?_;refine Qn (cs:=[.bool d,.pointer p0]) (λj u O=>((a4.ext J).ext C).at O) ?_;refine Jz (D.at (i:=4) rfl) ?_;refine Qn (cs:=v.cells++[wt]) (λj u O=>((Z.ext J).ext C).at O) ?_;refine Qn (cs:=a.cells++[wn]) (Blk.pre (cs:=a.cells++[wn]) D) ?_;refine Jz (D.at (i:=5) rfl) ?_;refine Jg (ihl _ _ (hl.ext o) (hw.ext o) (λk hk=>nM (hN k hk) o.size) (hb.le om) om) ?_;rintro u w4 ⟨a3,G⟩;refine⟨G,?_⟩;have af:=Tr.put_sz d v x l;have ae:=Jwh d v x l;refine Jg (Qws a3 (hr.ext (o.trans G)) (ab.ext (o.trans G)) (λk hk=>nM (hN k hk) (o.trans G).size) (hb.le (by simp only[Tr.sum];omega)) (by simp only[Tr.sz];omega)) ?_
   rintro u w5 ⟨a9,a1⟩;refine⟨a1,?_⟩;refine ρd ?_;refine ρ ?_;refine Jj ⟨?_,(o.trans G).trans a1⟩;rw[Tr.put,if_pos hc];exact a9
  have hc:=oF hc;refine ciR (λU=>?_) (λU=>?_)
  .have U:=oT U;have C:Ext w3 w3.drew:=(Ext.refl w3).drew;have o:=a2.trans C;have D:=a7.ext o;refine drR (scq 17 [14,15]) ?_;refine Jz (D.at (i:=4) rfl) ?_;refine Qn (cs:=a.cells++[wn]) (Blk.pre (cs:=a.cells++[wn]) D) ?_;refine Qn (cs:=[.bool d,.pointer p0]) (λj u O=>((a4.ext J).ext C).at O) ?_;refine Jz (D.at (i:=5) rfl) ?_;refine Qn (cs:=v.cells++[wt]) (λj u O=>((Z.ext J).ext C).at O) ?_;refine Jg (ihr _ _ (hr.ext o) (hw.ext o) (λk hk=>nM (hN k hk) o.size) (hb.le om) om) ?_;rintro u w4 ⟨a3,G⟩;refine⟨G,?_⟩;have af:=Tr.put_sz d v x r;have ae:=Jwh d v x r;refine Jg (Qws (hl.ext (o.trans G)) a3 (ab.ext (o.trans G)) (λk hk=>nM (hN k hk) (o.trans G).size) (hb.le (by simp only[Tr.sum];omega)) (by simp only[Tr.sz];omega)) ?_;rintro u w5 ⟨a9,a1⟩;refine⟨a1,?_⟩;refine ρd ?_;refine ρ ?_;refine Jj ⟨?_,(o.trans G).trans a1⟩
   rw[Tr.put,if_neg hc,if_pos U];exact a9
  have U:=oF U;have C:Ext w3 w3.drew:=(Ext.refl w3).drew;have o:=a2.trans C;have D:=a7.ext o;refine drR (scq 11 [9]) ?_;refine Jz (D.at (i:=4) rfl) ?_;refine Qn (cs:=v.cells++[wt]) (λj u O=>((Z.ext J).ext C).at O) ?_;refine Jz (D.at (i:=5) rfl) ?_;refine Jg (Ub (hl.ext o) (hr.ext o) (hw.ext o) (λk hk=>nM (hN k hk) o.size) (hb.le (by simp only[Tr.sum];omega)) (by simp only[Tr.sz];omega)) ?_;rintro u w4 ⟨a3,G⟩;refine⟨G,?_⟩;refine ρd ?_;refine ρ ?_;refine Jj ⟨?_,o.trans G⟩;rw[Tr.put,if_neg hc,if_neg U];exact a3
theorem Vn: Qt prog 76=some (.agg #[.bool false,.pointer none]):=kr
theorem Xzw(d:Bool)(p:Option Addr)(w:World): (Instr.build 76 #[(0,.bool d),(1,.pointer p)]).run prog w=.ok (.agg #[.bool d,.pointer p]) w:=kr
theorem Xzt(d:Bool)(w:World): (Instr.build 76 #[(0,.bool d)]).run prog w=.ok (.agg #[.bool d,.pointer none]) w:=kr
theorem Xkp(v:V)(wt:Value)(A:Option Addr)(n c:Nat)(h:wt=.slice A n c)(w:World): (Instr.build 230 #[(0,v.val),(1,wt)]).run prog w=.ok (.agg (v.cells++[wt]).toArray) w:=by subst h;kernel_rfl
theorem Qnh: ∀ u∈[Value.bool d,.pointer p],u.oneCell'=true:=λu i=>by
 simp only[List.mem_cons,List.not_mem_nil,or_false]at i;rcases i with rfl|rfl<;>rfl
theorem Qnz: Ret prog 132 [.bool d] w λu w'=>u=.agg #[.bool d,.pointer none]/\Ext w w':=by
 refine enE func132 ntmps132 ?_;refine Jb Vn ?_;intro O b j D G;refine Xo (Xzt d _) ?_;refine Xa G ?_;intro J o C i;refine ρ ?_;exact Kx o ⟨rfl,i w j D⟩
theorem Jpz{p:Value}{t:Tr}(h:TrV N w t p)(hv:Xg v=true)(hw:NatV w wt x)(hN:∀ k,N k->k<w.heap.size)(h0:x≠0)(hn:Nb (t.sum+x))(hs:t.sz+1<=1000000):
  Ret prog 133 [.agg #[.bool d,p],v.val,wt] w λu w'=>∃ q,u=.tuple #[.agg #[.bool d,q],.int .i64 0]/\TrV N w' (Tr.put d v x t) q/\Ext w w':=by
 obtain⟨q,rfl⟩:=h.ptr;refine enE func133 ntmps133 ?_;refine bxR ?_;intro w1 b1 a5 aw ap;refine bxR (cs:=v.cells) ?_;intro w2 b2 O av ao;refine Jb Vn ?_;intro w3 b3 a4 ab ae;have C:=(a5.trans O).trans a4;have ag:=(ap.ext O).ext a4;have a1:=ao.ext a4;refine Jt (cs:=v.cells) (λj u Z=>a1.at Z) ?_;refine clR (Jpm v _) ?_;rintro u w4 ⟨rfl,J⟩;rw[hv];refine clR (Jgs (hw.ext (C.trans J)) (hn.le om).len) ?_;rintro wn w5 ⟨a9,am,a6⟩;have a8:=(C.trans J).trans a6;obtain⟨A,c,rfl,hc,hm,au⟩:=id a9;have aq:0<(Jq x).length:=by
  rcases Nat.eq_zero_or_pos (Jq x).length with h1|h1
  .have:=List.eq_nil_of_length_eq_zero h1;have e:=Yq x;rw[this]at e;exact absurd e.symm h0
  exact h1
 refine cfR ?_ ?_
 .exact Jmj om
 refine ρ ?_;refine drN (λ_=>False) 10 (scq 12 [8,110,111]) kr ?_;have a2:Ext w5 w5.drew:=(Ext.refl w5).drew;have o:=(J.trans a6).trans a2;have G:=ag.ext o;have af:=a1.ext o;have ad:=ae.ext o;have U:=a8.trans a2;refine ρn ?_;refine nld (Js (G.at (i:=0) rfl) (λe=>e)) ?_;refine ρn ?_;refine Xp (cs:=[.bool d,.pointer q]) (λw' hg j u Z=>(Jy G hg (λe=>e)).at Z) ?_;refine ρn ?_;refine nld (Js (G.at (i:=1) rfl) (λe=>e)) ?_;refine ρn ?_;refine Xp (cs:=v.cells) (λw' hg j u Z=>(Jy af hg (λe=>e)).at Z) ?_;refine ρn ?_;refine Jqh (Xkp v _ A _ c rfl) ?_;refine ρn ?_;refine nop ?_;have aa:b3<w3.heap.size:=ae.lt;have ar:=C.size;have ac:∀ k,(N k∨k=b3)->k<w3.heap.size:=λk D=>D.elim (λh=>nM (hN k h) C.size) (λe=>by rw[e];exact aa);have hh:TrV (λk=>N k∨k=b3) w5.drew t (.pointer q):=(h.old (N':=λk=>N k∨k=b3) λk D=>D.imp id λe=>by rw[e];exact nL (a5.trans O).size ab).ext U
 have ai:NatX (λk=>N k∨k=b3) w5.drew (.slice A (Jq x).length c) x:=am.x (a9.ext a2) λk D=>nM (ac k D) J.size;refine cl (Qll t _ _ hh ai (λk D=>nM (ac k D) o.size) hn hs) ?_;rintro u w6 ⟨Z,a3⟩;obtain⟨q2,rfl⟩:=Z.ptr;refine ρ ?_;refine Je (GrN.ext a3) ?_;refine ρn ?_;refine Jqh (Xzw d q2) ?_;refine ρn ?_;refine Xh ?_;refine stW (ad.ext a3) ?_;intro w7 an ak ah;refine ρ ?_;refine Gy ?_;refine Xh ?_;refine ρ ?_;have a7:Ext w w7:=ah w (U.trans a3) (nL (a5.trans O).size ab);have aj:=(Z.gr (GrN.by ak (λk D=>.inr (by injection D with D;exact D.symm)))).old (N':=N) λk D=>.inl (.inl D);exact Vv an ⟨_,rfl,aj,a7⟩
open Go.RowKit Pl Go.Wk _root_.Go.Proofs.Tryz
variable {d:Bool}{t:Tr}
theorem Jpl{N:Nat->Prop}{J:Tr->World->Prop}{D:World->Prop}{fid:FuncId}{cap:Array Value}{p:Value}{w:World}(hp:TrV N w t p)(hj:J t w)(hht:t.ht<=1000000)(hx:∀ s w w',J s w->Ext w w'->J s w')(hnil:∀ w,J .nil w->D w)(hcall:∀ l v x r u w,TrV N w (.node l v x r) u->J (.node l v x r) w->Ret prog fid ((#[]:Array Value).toList++[u]++cap.toList) w λz w'=>∃ c,z=.int .i64 c/\GrN N w w'/\(c<0->J l w')/\(0<c->J r w')/\(c=0->D w')):
  Ret prog 178 [.agg #[.bool d,p],.func (.func fid) #[] cap] w λz w'=>(∃ k:Nat,z=.int .i64 (k:Int)/\k<=t.ht)/\D w'/\GrN N w w':=by
 obtain⟨q,rfl⟩:=hp.ptr;refine enE func178 ntmps178 ?_;refine bxR ?_;intro w1 b G hb hB;refine ldR (hB.at (i:=1) rfl) ?_;refine ρ ?_;refine Zq (fun (k:Nat) (s:Tr) (q:Option Addr)=>[(1,.func (.func fid) #[] cap),(5,.int .i64 (k:Int)),(6,.pointer q)])
  (λk s q w'=>k+s.ht<=t.ht/\TrV N w' s (.pointer q)/\J s w'/\GrN N w w') (λ_ s _=>s.sz) 0 t q sB
  ⟨om,hp.ext G,hx _ _ _ hj G,GrN.ext G⟩ ?_
 rintro k s q2 w2 ⟨hk,hs,Z,a1⟩;refine ρ ?_;cases s with
 | nil=>
  obtain rfl:q2=none:=by have:Value.pointer q2=.pointer none:=hs;injection this
  refine pnn ?_;refine ρ ?_;refine Jj ⟨⟨k,rfl,om⟩,hnil _ Z,a1⟩
 | node l v x r=>
  obtain⟨bn,wn,pl,pr,sn,e,⟨a2,U⟩,a7,a8,hl,hr⟩:=id hs;obtain rfl:q2=some ⟨bn,0,none⟩:=by injection e
  obtain⟨ql,rfl⟩:=hl.ptr;obtain⟨qr,rfl⟩:=hr.ptr;have a6:l.ht+1<=(Tr.node l v x r).ht:=by simp only[Tr.ht];omega
  have a5:r.ht+1<=(Tr.node l v x r).ht:=by simp only[Tr.ht];omega
  have a4:l.sz<(Tr.node l v x r).sz:=by simp only[Tr.sz];omega
  have a3:r.sz<(Tr.node l v x r).sz:=by simp only[Tr.sz];omega
  refine pnn ?_;refine ρ ?_;refine clv (hcall l v x r _ w2 hs Z) ?_;rintro z w3 ⟨c,rfl,o,k1,k2,k3⟩;have hg:=a1.trans o;have C:=Jy a2 o U;refine ciR (λO=>?_) (λO=>?_)
  .have O:=oT O;refine ldR (C.at (i:=4) rfl) ?_;refine ρ ?_;exact Xj (k+1) l ql sO ⟨om,hl.gr o,k1 O,hg⟩ om
  have O:=oF O;refine ciR (λj=>?_) (λj=>?_)
  .have j:=oT j;refine ldR (C.at (i:=5) rfl) ?_;refine ρ ?_;exact Xj (k+1) r qr sO ⟨om,hr.gr o,k2 j,hg⟩ om
  have j:=oF j;refine ρ ?_;refine Jj ⟨⟨k+1,rfl,om⟩,k3 om,hg⟩
structure BefB(bT bV bS bF:Nat)(d:Bool)(q:Option Addr)(v:V)(w:World)(sv:Value)(f:Bool): Prop where
 tb:Blk w bT 76 [.bool d,.pointer q]
 vb:Blk w bV 147 v.cells
 sb:Blk w bS 45 [sv]
 fb:Blk w bF 4 [.bool f]
theorem BefB.ext{bT bV bS bF:Nat}{d:Bool}{q:Option Addr}{v:V}{w w':World}{sv:Value}{f:Bool}(h:BefB bT bV bS bF d q v w sv f)(hx:Ext w w'): BefB bT bV bS bF d q v w' sv f :=
 ⟨h.tb.ext hx,h.vb.ext hx,h.sb.ext hx,h.fb.ext hx⟩
def BefJ(bT bV bS bF:Nat)(d:Bool)(q:Option Addr)(v:V)(t:Tr)(s:Tr)(w:World): Prop :=
 ∃ sv m,BefB bT bV bS bF d q v w sv false/\NatX (λk=>k=bS∨k=bF) w sv m/\m+Tr.befT d v s=Tr.befT d v t/\Tr.hasT d v s=Tr.hasT d v t/\m+s.sum<=t.sum
def BefD(bT bV bS bF:Nat)(d:Bool)(q:Option Addr)(v:V)(t:Tr)(w:World): Prop :=
 ∃ sv,BefB bT bV bS bF d q v w sv (Tr.hasT d v t)/\NatX (λk=>k=bS∨k=bF) w sv (Tr.befT d v t)
theorem Xwc{bT bV bS bF:Nat}{q:Option Addr}{v:V}(hne:bT≠bS/\bT≠bF/\bV≠bS/\bV≠bF/\bS≠bF)(hb:Nb t.sum):
  ∀ l a x r u w,TrV (λk=>k=bS∨k=bF) w (.node l a x r) u->BefJ bT bV bS bF d q v t (.node l a x r) w ->
  Ret prog 179 ((#[]:Array Value).toList++[u]++(#[.pointer (some ⟨bT,0,none⟩),.pointer (some ⟨bV,0,none⟩),.pointer (some ⟨bS,0,none⟩),.pointer (some ⟨bF,0,none⟩)]:Array Value).toList) w λz w'=>∃ c,z=.int .i64 c/\GrN (λk=>k=bS∨k=bF) w w'/\(c<0->BefJ bT bV bS bF d q v t l w')/\(0<c->BefJ bT bV bS bF d q v t r w')/\(c=0->BefD bT bV bS bF d q v t w'):=by
 obtain⟨n1,n2,n3,n4,n5⟩:=hne;rintro l a x r u w hs ⟨sv,m,hB,hm,e1,e2,e3⟩;obtain⟨bn,wn,pl,pr,sn,rfl,⟨ad,aj⟩,aw,b9,hl,hr⟩:=id hs;obtain⟨ql,rfl⟩:=hl.ptr;obtain⟨qr,rfl⟩:=hr.ptr;simp only[Tr.sum]at e3;refine enE func179 ntmps179 ?_;refine ρ ?_;have ac:Ext w w.drew:=(Ext.refl w).drew;have au:=hB.ext ac;have ap:=ad.ext ac;refine dr (scq 9 [7]) kr ?_;refine Qn (cs:=[.bool d,.pointer q]) (λj u hu=>au.tb.at hu) ?_;refine Qn (cs:=v.cells) (λj u hu=>au.vb.at hu) ?_;refine Qn (cs:=a.cells) (Blk.pre (cs:=a.cells) ap) ?_;refine Jg (Qkf (a:=v) (b:=a)) ?_;rintro u w1 ⟨rfl,ag⟩;refine⟨ag,?_⟩;refine ρd ?_;have O:=ac.trans ag;have av:=hB.ext O;have b1:=hm.ext O;refine ciR (λhc=>?_) (λhc=>?_)
 .have hc:=oT hc;refine ρ ?_;refine Jj ⟨neg d (cmpV v a),rfl,GrN.ext O,λ_=>⟨sv,m,av,b1,?_,?_,om⟩,λh=>om,λh=>om⟩
  .rw[<-e1,Tr.befT,if_pos hc]
  rw[<-e2,Tr.hasT,if_pos hc]
 have hc:=oF hc;have a8:Ext w1 w1.drew:=(Ext.refl w1).drew;have J:=O.trans a8;have ar:=ad.ext J;have D:=av.ext a8;refine ρ ?_;refine drN (λ_=>False) 10 (scq 8 [5,6,107]) kr ?_;refine ρn ?_;refine nld (Js (D.sb.at (i:=0) rfl) (λe=>e)) ?_;refine ρn ?_;refine nld (Js (ar.at (i:=4) rfl) (λe=>e)) ?_;refine ρn ?_;refine nop ?_;refine cl (Jxm (hl.ext J)) ?_;rintro ul w2 ⟨ax,rfl⟩;refine ρ ?_;refine Je (GrN.refl _ _) ?_;refine ρn ?_;refine nop ?_;refine cl (Ih (hm.ext J).1 ax.1 (hb.le om).len (hb.le om).len) ?_;rintro us w3 ⟨ai,b2,a1⟩;refine ρ ?_;refine Je (GrN.ext a1) ?_;refine ρn ?_;refine Xh ?_;obtain⟨A3,c3,rfl,bb,_⟩:=id ai;refine Kc (D.ext a1).sb ?_ rfl;intro w4 b4 a7 b8;refine ρ ?_;have af:=D.ext a1;have ah:=J.trans a1;have ao:∀ k,(k=bS∨k=bF)->k<w1.drew.heap.size:=λk G=>G.elim (λe=>by rw[e];exact D.sb.lt) (λe=>by rw[e];exact D.fb.lt)
 have az:NatX (λk=>k=bS∨k=bF) w3 (.slice A3 (Jq (m+l.sum)).length c3) (m+l.sum):=b2.x ai ao;have a2:GrN (λk=>k=bS∨k=bF) w3 w4:=GrN.by a7 λk G=>.inl (by injection G with G;exact G.symm)
 have ak:=az.gr a2;have a4:BefB bT bV bS bF d q v w4 (.slice A3 (Jq (m+l.sum)).length c3) false:=⟨af.tb.grown a7 (by simpa using n1),af.vb.grown a7 (by simpa using n3),b4,af.fb.grown a7 (by simpa using n5.symm)⟩;have U:GrN (λk=>k=bS∨k=bF) w w4:=(GrN.ext ah).trans a2;refine ci (λC=>?_) (λC=>?_)
 .have C:neg d (cmpV v a)=0:=Zx C;refine ρ ?_;refine Kc a4.fb ?_ rfl;intro w5 b5 a6 Z;refine ρ ?_;have ab:GrN (λk=>k=bS∨k=bF) w4 w5:=GrN.by a6 λk G=>.inr (by injection G with G;exact G.symm)
  refine Jj ⟨0,rfl,U.trans ab,λh=>om,λh=>om,λ_=>⟨_,⟨a4.tb.grown a6 (by simpa using n2),a4.vb.grown a6 (by simpa using n4),a4.sb.grown a6 (by simpa using n5),?_⟩,?_⟩⟩
  .rw[<-e2,Tr.hasT,if_neg hc,if_pos C];exact b5
  rw[<-e1,Tr.befT,if_neg hc,if_pos C];exact ak.gr ab
 have C:neg d (cmpV v a)≠0:=Xu C;have o:Ext w4 w4.drew:=(Ext.refl w4).drew;have a3:=a4.ext o;have aq:=(Jy ad U aj).ext o;refine ρ ?_;refine drN (λ_=>False) 10 (scq 8 [6,107]) kr ?_;refine ρn ?_;refine nld (Js (a3.sb.at (i:=0) rfl) (λe=>e)) ?_;refine ρn ?_;refine nld (Js (aq.at (i:=3) rfl) (λe=>e)) ?_;refine ρn ?_;refine nop ?_;refine cl (Ih (ak.ext o).1 ((aw.gr U).ext o).1 (hb.le om).len (hb.le om).len) ?_;rintro b6 w5 ⟨a9,an,Z⟩;refine ρ ?_;refine Je (GrN.ext Z) ?_;refine ρn ?_;refine Xh ?_;obtain⟨A5,c5,rfl,ba,_⟩:=id a9;refine Kc (a3.ext Z).sb ?_ rfl;intro w6 b3 a5 b7;refine ρ ?_;have ae:=a3.ext Z;have ay:NatX (λk=>k=bS∨k=bF) w5 (.slice A5 (Jq (m+l.sum+x)).length c5) (m+l.sum+x):=an.x a9 λk G=>nM (ao k G) (nL a1.size (a2.trans (GrN.ext o)).size);have aa:GrN (λk=>k=bS∨k=bF) w5 w6:=GrN.by a5 λk G=>.inl (by injection G with G;exact G.symm)
 have am:GrN (λk=>k=bS∨k=bF) w w6:=((U.trans (GrN.ext o)).trans (GrN.ext Z)).trans aa;refine Jj ⟨neg d (cmpV v a),rfl,am,λh=>om,λh=>⟨_,m+l.sum+x,⟨ae.tb.grown a5 (by simpa using n1),ae.vb.grown a5 (by simpa using n3),b3,ae.fb.grown a5 (by simpa using n5.symm)⟩,ay.gr aa,?_,?_,om⟩,λh=>om⟩
 .rw[<-e1,Tr.befT,if_neg hc,if_neg C];omega
 rw[<-e2,Tr.hasT,if_neg hc,if_neg C]
end Go.Proofs.YtgobkbeokaaplaaGreatDoor
namespace Go.Wk
theorem Jlh{P:Program}{n:Nat}{al:AL}{w:World}{tt:TT}[h:Tab P tt]{fn:Func}{Φ:Value->World->Prop}{c t t1 t2 t3 b:Nat}{k:TK}{cs:List Value}{x y z:Value}(hb:Blk w b t cs)(hp:Φ (.tuple #[.agg cs.toArray,x,y,z]) w)(hr:fn.results = #[.cell c t,.tmp t1,.tmp t2,.tmp t3]:=by rfl)(ht:tk tt t=some k:=by rfl)(hk:k.desc=.invalid:=by rfl)(hs:k.size=cs.length:=by rfl)(hc:lk al c=some (.pointer (some ⟨b,0,none⟩)):=by rfl)(h1:lk al t1=some x:=by rfl)(h2:lk al t2=some y:=by rfl)(h3:lk al t3=some z:=by rfl):
  QX n (Vl P fn Φ) .ret al w :=
 Jzx (rs:=[.cell c t,.tmp t1,.tmp t2,.tmp t3]) (vs:=[.agg cs.toArray,x,y,z]) hr ⟨⟨_,hc,Jjw h.ok ht hk hs (λj u i=>hb.at i)⟩,h1,h2,h3,trivial⟩ rfl hp
end Go.Wk
namespace Go.Proofs.YtgobkbeokaaplaaGreatDoor
open Go.RowKit Pl Go.Wk _root_.Go.Proofs.Tryz
attribute [local irreducible] WC WL QX WD WDB WP WN WG
variable {d:Bool}{a b k:Nat}{N:Nat->Prop}{t:Tr}{p:Value}{w:World}
theorem zNat: Qt prog 45=some (.slice none 0 0):=kr
theorem Jnh: Qt prog 4=some (.bool false):=kr
theorem Qwr{v:V}(h:TrV N w t p)(hb:Nb t.sum)(hs:t.sz<=1000000):
  Ret prog 141 [.agg #[.bool d,p],v.val] w λu w'=>∃ sv,∃ k:Nat,u=.tuple #[sv,.bool (Tr.hasT d v t),.int .i64 (k:Int)]/\k<=t.ht/\NatV w' sv (Tr.befT d v t)/\Ext w w':=by
 obtain⟨q,rfl⟩:=h.ptr;refine enE func141 ntmps141 ?_;refine bxR ?_;intro w1 bT a8 ar hT;refine bxR (cs:=v.cells) ?_;intro w2 bV a6 aq hV;refine Jb zNat ?_;intro w3 O o au hS;refine Jb Jnh ?_;intro w4 U a7 ae hF;refine ρ ?_;refine Kc hF ?_ rfl;intro w5 ah ap ab;have lT:=hT.lt;have lV:=hV.lt;have lS:=hS.lt;have am:=a6.size;have ak:=o.size;have aj:=a7.size;have nT:bT≠O/\bT≠U/\bV≠O/\bV≠U/\O≠U:=by grind
 obtain⟨n1,n2,n3,n4,n5⟩:=nT;have j:Ext w3 w5:=ab w3 a7 ae;have C:Ext w w5:=((a8.trans a6).trans o).trans j;have aa:=((hT.ext a6).ext o).ext j;have af:=(hV.ext o).ext j;have ag:=hS.ext j;have an:=a8.size;have hN:TrV (λk=>k=O∨k=U) w5 t (.pointer q):=(h.old (N':=λk=>k=O∨k=U) λk hk=>.inr (by grind)).ext C;have ao:=Tr.ht_le t;refine Qy aa ?_;refine clR (Jpl (N:=λk=>k=O∨k=U) (J:=BefJ bT bV O U d q v t) (D:=BefD bT bV O U d q v t) hN ⟨_,0,⟨aa,af,ag,ah⟩,NatX.nil _,om,rfl,om⟩ om ?_ ?_ (Xwc ⟨n1,n2,n3,n4,n5⟩ hb)) ?_
 .rintro s w w' ⟨sv,m,a1,a2,a3,a4,a5⟩ hx;exact⟨sv,m,a1.ext hx,a2.ext hx,a3,a4,a5⟩
 .rintro w ⟨sv,m,a1,a2,a3,a4,a5⟩;simp only[Tr.befT,Tr.hasT,Nat.add_zero]at a3 a4;refine⟨sv,?_,?_⟩;repeat grind
 rintro z w6 ⟨⟨k,rfl,hk⟩,⟨sv,ai,ac⟩,ad⟩;have a9:Ext w w6:=ad.old C λk hk=>by grind
 have Z:Ext w6 w6.drew:=(Ext.refl w6).drew;have G:=ai.ext Z;refine drR (scq 6 []) ?_;refine Jz (G.sb.at (i:=0) rfl) ?_;refine Jz (G.fb.at (i:=0) rfl) ?_;refine ρd ?_;refine ρ ?_;exact Zz ⟨sv,k,rfl,hk,(ac.ext Z).1,a9.trans Z⟩
structure FndB(bS bK bV bR:Nat)(w:World)(sv kv:Value)(v:V): Prop where
 sb:Blk w bS 45 [sv]
 kb:Blk w bK 45 [kv]
 vb:Blk w bV 147 v.cells
 rb:Blk w bR 147 V0.cells
theorem FndB.ext{bS bK bV bR:Nat}{w w':World}{sv kv:Value}{v:V}(h:FndB bS bK bV bR w sv kv v)(hx:Ext w w'): FndB bS bK bV bR w' sv kv v:=⟨h.sb.ext hx,h.kb.ext hx,h.vb.ext hx,h.rb.ext hx⟩
def FndJ(bS bK bV bR:Nat)(kv:Value)(k:Nat)(t:Tr)(s:Tr)(w:World): Prop :=
 ∃ sv m v,FndB bS bK bV bR w sv kv v/\NatX (λj=>j=bS∨j=bV∨j=bR) w sv m/\NatX (λj=>j=bS∨j=bV∨j=bR) w kv k/\m<=k/\k<m+s.sum/\m+s.sum<=t.sum/\Tr.findT k t=((Tr.findT (k-m) s).1,m+(Tr.findT (k-m) s).2)
def FndD(bS bK bV bR:Nat)(kv:Value)(k:Nat)(t:Tr)(w:World): Prop :=
 ∃ sv,FndB bS bK bV bR w sv kv (Tr.findT k t).1/\NatX (λj=>j=bS∨j=bV∨j=bR) w sv (Tr.findT k t).2
theorem cmpN_lt: Zg a b<0↔a<b:=by
 unfold Zg;grind
theorem Xjk{bS bK bV bR:Nat}{kv:Value}(hne:bS≠bK/\bS≠bV/\bK≠bV/\bS≠bR/\bV≠bR)(hb:Nb t.sum):
  ∀ l a x r u w,TrV (λj=>j=bS∨j=bV∨j=bR) w (.node l a x r) u->FndJ bS bK bV bR kv k t (.node l a x r) w ->
  Ret prog 183 ((#[]:Array Value).toList++[u]++(#[.pointer (some ⟨bS,0,none⟩),.pointer (some ⟨bK,0,none⟩),.pointer (some ⟨bV,0,none⟩)]:Array Value).toList) w λz w'=>∃ c,z=.int .i64 c/\GrN (λj=>j=bS∨j=bV∨j=bR) w w'/\(c<0->FndJ bS bK bV bR kv k t l w')/\(0<c->FndJ bS bK bV bR kv k t r w')/\(c=0->FndD bS bK bV bR kv k t w'):=by
 obtain⟨n1,n2,n3,n4,n5⟩:=hne;rintro l a x r u w hs ⟨sv,m,v,hB,hm,hk,e1,e2,e3,e4⟩;obtain⟨bn,wn,pl,pr,sn,rfl,⟨ab,au⟩,ak,aw,hl,hr⟩:=id hs;obtain⟨ql,rfl⟩:=hl.ptr;obtain⟨qr,rfl⟩:=hr.ptr;simp only[Tr.sum]at e2 e3;refine enE func183 ntmps183 ?_;refine ρ ?_;have Z:Ext w w.drew:=(Ext.refl w).drew;have a7:=hB.ext Z;have af:=ab.ext Z;refine dr (scq 8 [5,6]) kr ?_;refine Jz (a7.sb.at (i:=0) rfl) ?_;refine Jz (af.at (i:=4) rfl) ?_;refine Jg (Jxm (hl.ext Z)) ?_;rintro ul w1 ⟨am,rfl⟩;refine⟨Ext.refl _,?_⟩;refine Jg (Ih (hm.ext Z).1 am.1 (hb.le om).len (hb.le om).len) ?_;rintro us w2 ⟨ac,an,aa⟩;refine⟨aa,?_⟩;refine ρd ?_;have a1:=Z.trans aa;have ai:=hB.ext a1;refine ldR (ai.kb.at (i:=0) rfl) ?_;refine clR (Va (hk.ext a1).1 ac) ?_;rintro u w3 ⟨rfl,a5⟩;have o:=a1.trans a5;have ah:=ai.ext a5;have ae:∀ j,(j=bS∨j=bV∨j=bR)->j<w.drew.heap.size:=λj J=>J.elim (λe=>by rw[e];exact a7.sb.lt) (λe=>e.elim (λe=>by rw[e];exact a7.vb.lt) (λe=>by rw[e];exact a7.rb.lt))
 have a2:NatX (λj=>j=bS∨j=bV∨j=bR) w3 us (m+l.sum):=an.x (ac.ext a5) ae;refine ciR (λhc=>?_) (λhc=>?_)
 .have hc:k<m+l.sum:=cmpN_lt.1 (oT hc);refine ρ ?_;refine Jj ⟨-1,rfl,GrN.ext o,λ_=>⟨sv,m,v,ah,hm.ext o,hk.ext o,e1,hc,om,?_⟩,λh=>om,λh=>om⟩;rw[e4,Tr.findT,if_pos om]
 have hc:¬ k<m+l.sum:=λh=>oF hc (cmpN_lt.2 h);refine ldR ((ab.ext o).at (i:=3) rfl) ?_;refine clR (Ih a2.1 (ak.ext o).1 (hb.le om).len (hb.le om).len) ?_;rintro ua w4 ⟨ad,ao,a4⟩;have ag:=ah.ext a4;refine ldR (ag.kb.at (i:=0) rfl) ?_;refine clR (Va ((hk.ext o).ext a4).1 ad) ?_;rintro u w5 ⟨rfl,a3⟩;have O:=(o.trans a4).trans a3;have G:=ag.ext a3;have a8:NatX (λj=>j=bS∨j=bV∨j=bR) w5 ua (m+l.sum+x):=ao.x (ad.ext a3) λj J=>nM (ae j J) (aa.trans a5).size;obtain⟨A1,c1,ea,_⟩:=id a8.1;obtain⟨A2,c2,es,_⟩:=id a2.1;have oa:ua.oneCell'=true:=by rw[ea];rfl
 have os:us.oneCell'=true:=by rw[es];rfl
 refine ciR (λU=>?_) (λU=>?_)
 .have U:m+l.sum+x<=k:=by
   have:=oT U;rcases Nat.lt_or_ge k (m+l.sum+x) with h|h
   .have:=cmpN_lt.2 h;omega
   exact h
  refine ρ ?_;refine Kc G.sb ?_ oa;intro w6 ar D aj;refine ρ ?_;have C:GrN (λj=>j=bS∨j=bV∨j=bR) w5 w6:=GrN.by D λj J=>.inl (by injection J with J;exact J.symm)
  refine Jj ⟨1,rfl,(GrN.ext O).trans C,λh=>om,λ_=>⟨ua,m+l.sum+x,v,⟨ar,G.kb.grown D (by simpa using n1.symm),G.vb.grown D (by simpa using n2.symm),G.rb.grown D (by simpa using n4.symm)⟩,a8.gr C,(hk.ext O).gr C,U,om,om,?_⟩,λh=>om⟩;rw[e4,Tr.findT,if_neg om,if_pos om,show k-m-(l.sum+x)=k-(m+l.sum+x) by omega];simp only[Prod.mk.injEq,true_and];omega
 have U:k<m+l.sum+x:=by
  rcases Nat.lt_or_ge k (m+l.sum+x) with h|h
  .exact h
  exact absurd (Int.not_lt.1 λh'=>by have:=cmpN_lt.1 h';omega) (oF U)
 have e5:Tr.findT k t=(a,m+l.sum):=by rw[e4,Tr.findT,if_neg om,if_neg om]
 refine Jt (cs:=a.cells) (Blk.pre (cs:=a.cells) (ab.ext O)) ?_;refine Qb (cs':=a.cells) G.vb ?_ (V.one a);intro w6 ap D aj;refine ρ ?_;refine Kc (G.sb.grown D (by simpa using n2)) ?_ os;intro w7 aq a6 av;refine ρ ?_;have C:GrN (λj=>j=bS∨j=bV∨j=bR) w5 w6:=GrN.by D λj J=>.inr (.inl (by injection J with J;exact J.symm))
 have a9:GrN (λj=>j=bS∨j=bV∨j=bR) w6 w7:=GrN.by a6 λj J=>.inl (by injection J with J;exact J.symm)
 refine Jj ⟨0,rfl,((GrN.ext O).trans C).trans a9,λh=>om,λh=>om,λ_=>⟨us,⟨aq,(G.kb.grown D (by simpa using n3)).grown a6 (by simpa using n1.symm),?_,(G.rb.grown D (by simpa using n5.symm)).grown a6 (by simpa using n4.symm)⟩,?_⟩⟩
 .rw[e5];exact ap.grown a6 (by simpa using n2.symm)
 rw[e5];exact(((a2.ext a4).ext a3).gr C).gr a9
theorem Xjj{kv:Value}(h:TrV N w t p)(hkv:NatV w kv k)(hk:k<t.sum)(hb:Nb t.sum)(hs:t.sz<=1000000):
  Ret prog 145 [.agg #[.bool d,p],kv] w λu w'=>∃ sv,∃ n:Nat,u=.tuple #[(Tr.findT k t).1.val,sv,.int .i64 (n:Int),.int .i64 0]/\n<=t.ht/\NatV w' sv (Tr.findT k t).2/\Ext w w':=by
 obtain⟨q,rfl⟩:=h.ptr;obtain⟨Ak,ck,ek,_⟩:=id hkv;refine enE func145 ntmps145 ?_;refine bxR ?_;intro w1 bT ac b9 hT;refine bxR (cs:=[kv]) ?_ (hv:=by rw[ek];rfl);intro w2 bK a9 bb hK;refine Jb (cs:=V0.cells) Gj ?_;intro w3 bR a8 au hR;have aa:=(ac.trans a9).trans a8;have C:Ext w3 w3.drew:=(Ext.refl w3).drew;have G:=aa.trans C;have ah:=(hT.ext a9).ext a8;have ai:=hK.ext a8;refine drR (scq 6 [3,4]) ?_;refine Jz ((ai.ext C).at (i:=0) rfl) ?_;refine Jz ((ah.ext C).at (i:=1) rfl) ?_;refine Jg (Jxm (h.ext G)) ?_;rintro ut w4 ⟨ao,rfl⟩;refine⟨Ext.refl _,?_⟩;refine Jg (Va (hkv.ext G) ao.1) ?_;rintro u w4 ⟨rfl,a7⟩;refine⟨a7,?_⟩;refine ρd ?_;have am:¬ (0<=Zg k t.sum):=Int.not_le.2 (cmpN_lt.2 hk);refine cfR (dF am) ?_;have az:=G.trans a7;refine Jb (cs:=V0.cells) Gj ?_;intro w5 U ad b8 hV;refine Jb zNat ?_;intro w6 Z ab ba hS;have lT:=hT.lt;have lK:=hK.lt
 have lR:=hR.lt;have lV:=hV.lt;have b6:=ac.size;have b5:=a9.size;have b4:=a8.size;have b3:=(C.trans a7).size;have b2:=ad.size;have b1:=ab.size;have n1:Z≠bK:=om
 have n2:Z≠U:=om
 have n3:bK≠U:=om
 have n4:Z≠bR:=om
 have n5:U≠bR:=om
 have o:Ext w3 w6:=((C.trans a7).trans ad).trans ab;have O:Ext w w6:=aa.trans o;have aw:=ah.ext o;have ay:=ai.ext o;have av:=hV.ext ab;have hN:TrV (λk=>k=Z∨k=U∨k=bR) w6 t (.pointer q):=(h.old (N':=λk=>k=Z∨k=U∨k=bR) λk hk=>.inr (by rcases hk with rfl|rfl|rfl<;>omega)).ext O;have aq:NatX (λk=>k=Z∨k=U∨k=bR) w kv k:=NatX.old (N:=λ_=>False) ⟨hkv,λ_ _ _ _ _ h=>h⟩ λk hk=>.inr (by rcases hk with rfl|rfl|rfl<;>omega);have b7:=Tr.ht_le t;refine Qy aw ?_;refine clR (Jpl (N:=λk=>k=Z∨k=U∨k=bR) (J:=FndJ Z bK U bR kv k t) (D:=FndD Z bK U bR kv k t) hN ⟨_,0,V0,⟨hS,ay,av,hR.ext o⟩,NatX.nil _,aq.ext O,om,om,om,by simp⟩ om ?_ ?_ (Xjk ⟨n1,n2,n3,n4,n5⟩ hb)) ?_
 .rintro s w w' ⟨sv,m,v,a1,a2,a3,a4⟩ hx;exact⟨sv,m,v,a1.ext hx,a2.ext hx,a3.ext hx,a4⟩
 .rintro w ⟨sv,m,v,a1,a2,a3,a4,a5,_⟩;simp only[Tr.sum]at a5;omega
 rintro z w7 ⟨⟨n,rfl,hn⟩,⟨sv,ak,ap⟩,ar⟩;have ae:Ext w w7:=ar.old O λk hk=>by rcases hk with rfl|rfl|rfl<;>omega
 refine ρ ?_;refine drN (λk=>k=bR) 10 (scq 7 [3]) kr ?_;have a6:Ext w7 w7.drew:=(Ext.refl w7).drew;have aj:=ak.ext a6;refine ρn ?_;refine Xp (cs:=(Tr.findT k t).1.cells) (λw' hg j u hu=>(Jy aj.vb hg n5).at hu) ?_;refine ρn ?_;refine nld (Js (aj.sb.at (i:=0) rfl) n4) ?_;refine ρn ?_;refine nop ?_;refine stb (cs':=(Tr.findT k t).1.cells) (ak.rb.ext a6) ?_ (V.one _);intro w8 ax ag an;refine ρ ?_;refine Je (GrN.by ag λj hj=>by injection hj with hj;exact hj.symm) ?_;refine ρn ?_;refine ρ ?_;have af:GrN (λk=>k=Z∨k=U∨k=bR) w7.drew w8:=GrN.by ag λj hj=>.inr (.inr (by injection hj with hj;exact hj.symm))
 exact Jlh ax ⟨sv,n,rfl,hn,((ap.ext a6).gr af).1,an w (ae.trans a6) (nL (ac.trans a9).size au)⟩
end Go.Proofs.YtgobkbeokaaplaaGreatDoor
namespace Go.Wk
open Maps
variable {d n ty:Nat}
theorem dmlk{P:Program}{al:AL}{w:World}{Q:Exit->Act->World->Prop}{ops:Array Oper}{drest:List (Nat×Oper)}{pos:String}{aft:Array Edge}{tt:TT}[hT:Tab P tt]{t k e b m:Nat}{kd:TK}{f:Lit->Option Value}{x y:Operand}{key z:Value}{kl:Lit}(K:Keyed P k)(hM:MapS P k w b m f)(hz:Qt P e=some z)(hkey:keyOf P k key=some kl)(kk:WD P n ops Q drest ((d,(f kl).getD z)::al) w)(ht:tk tt t=some kd:=by rfl)(hk:kd.desc=.map k e:=by rfl)(hx:ev al x=some (.map (some b)):=by rfl)(hy:ev al y=some key:=by rfl)(hd:Nat.blt d n=true:=by rfl):
  WD P n ops Q ((0,⟨some d,.lookup t x y false,ty,pos,aft,none⟩)::drest) al w :=
 dy (λw' j a i=>by
  have:=((hM.ext j).look K (Yc hT.ok ht hk rfl) (Jfj hz w') hkey).2;simp[execOp,i.ev hx,i.ev hy,this]) hd kk
end Go.Wk
namespace Go.Proofs.YtgobkbeokaaplaaGreatDoor
open Go.RowKit Pl Go.Wk _root_.Go.Proofs.Tryz
attribute [local irreducible] WC WL QX WD WDB WP WN WG
variable {chs l:List (Nat×List Nat)}{cs ta va:List Value}{B0 b c cv f k n:Nat}{T:Nat->Row->Nat}{A VA:Option Addr}{r x:Row}{u vch vx:Value}{w w':World}
theorem Gh(hx:Ext w w'){p:Addr}(h:w.cell? p=some u): w'.cell? p=some u:=by
 have i:p.block<w.heap.size:=by
  rcases Nat.lt_or_ge p.block w.heap.size with h1|h1
  .exact h1
  unfold World.cell? at h;rw[Array.getElem?_eq_none h1]at h;simp at h
 rw[hx.cell i];exact h
theorem KS: Maps.Keyed prog 9:=Maps.string_keyed underlying9
def FitR(r:Row): Prop:=r.length<=32/\∀ v∈r,Zr v/\v.bytes.length<=24
theorem FitR.len(h:FitR r): (idn r).length<=2880:=by have:=Qxl h.2;have:=h.1;omega
theorem FitR.pm{cs:List Nat}(h:FitR r)(hc:∀ c∈cs,c<r.length)(hl:cs.length<=32): FitR (pmR cs r) :=
 ⟨by rw[Qf];exact hl,λv i=>by
  obtain⟨c,j,rfl⟩:=List.mem_map.1 i;exact h.2 _ (getD_mem' V0 r (hc c j))⟩
theorem Kj(h:FitR r): keyOf prog 9 (.string (str (idn r)))=some (.string (idn r)) :=
 WideMaps.keyOf_string_mk underlying9 (by have:=h.len;show(idn r).toArray.size<=maxLen;rw[List.size_toArray];unfold maxLen;omega)
def ChG(w:World)(cs:List Value)(p:Nat×List Nat): Prop:=∃ A c,cs=[.int .i64 (p.1:Int),.slice A p.2.length c]/\p.2.length<=c/\p.2.length<=32/\Rd w 1 A p.2.length (Jp (nz p.2))
theorem ChG.ext{w w':World}{cs:List Value}{p:Nat×List Nat}(h:ChG w cs p)(hx:Ext w w'): ChG w' cs p:=by
 obtain⟨A,c,u,o,j,i⟩:=h;exact⟨A,c,u,o,j,i.ext hx⟩
def DnV(AR:Nat->Prop)(T:Row->Nat)(w:World)(x:Value): Prop:=∃ mb m fm,x=.map (some mb)/\m<=1000000/\(MapS prog 9 w mb m fm/\¬ AR mb)/\(∀ k:Row,fm (.string (idn k))=if 0<T k then some (.bool true) else none)/\∀ kl,fm kl≠none->∃ k:Row,kl=.string (idn k)
def DnT(AR:Nat->Prop)(T:Row->Nat)(w:World)(x:Value): Prop:=∃ mb m fm,x=.map (some mb)/\m<=1000000/\(MapS prog 9 w mb m fm/\¬ AR mb)/\∀ k:Row,(fm (.string (idn k))=none/\T k=0)∨∃ y,fm (.string (idn k))=some y/\0<T k/\NatX AR w y (T k)
theorem DnV.gr{AR:Nat->Prop}{T:Row->Nat}{w w':World}{x:Value}(h:DnV AR T w x)(hg:GrN AR w w'): DnV AR T w' x:=by
 obtain⟨j,m,fm,D,C,⟨u,i⟩,o⟩:=h;exact⟨j,m,fm,D,C,⟨u.gr hg i,i⟩,o⟩
theorem DnT.gr{AR:Nat->Prop}{T:Row->Nat}{w w':World}{x:Value}(h:DnT AR T w x)(hg:GrN AR w w'): DnT AR T w' x:=by
 obtain⟨j,m,fm,D,C,⟨u,i⟩,o⟩:=h;refine⟨j,m,fm,D,C,⟨u.gr hg i,i⟩,λk=>?_⟩;rcases o k with h6|⟨y,h6,h7,h8⟩
 .exact .inl h6
 exact .inr ⟨y,h6,h7,h8.gr hg⟩
def wtL(T:Nat->Row->Nat)(x:Row): List (Nat×List Nat)->Nat
 | []=>1
 | p::l=>T p.1 (pmR p.2 x)*wtL T x l
theorem Jkn(T:Nat->Row->Nat)(x:Row): ∀ l m,wtL T x (l++m)=wtL T x l*wtL T x m
 | [],m=>by rw[List.nil_append,wtL,Nat.one_mul]
 | p::l,m=>by rw[List.cons_append,wtL,wtL,Jkn T x l m,Nat.mul_assoc]
theorem Qyv{p:Nat×List Nat}(hp:p∈l)(h0:T p.1 (pmR p.2 x)=0): wtL T x l=0:=by
 obtain⟨a,b,rfl⟩:=List.append_of_mem hp;rw[Jkn,wtL,h0,Nat.zero_mul,Nat.mul_zero]
theorem Jdc{T:Nat->Row->Nat}{x:Row}: ∀ {l:List (Nat×List Nat)},(∀ p∈l,T p.1 (pmR p.2 x)<=4294967296^20)->wtL T x l<=(4294967296^20)^l.length
 | [],_=>by simp[wtL]
 | p::l,h=>by
  rw[wtL,List.length_cons,Nat.pow_succ,Nat.mul_comm];exact Nat.mul_le_mul (Jdc λq hq=>h q (List.mem_cons_of_mem _ hq)) (h p mC)
theorem Nb.pow(h:n<=(4294967296^20)^k)(hk:k<=32): Nb n:=by
 refine Nat.lt_of_le_of_lt h ?_;rw[<-Nat.pow_mul];exact Nat.pow_lt_pow_right (by decide) (by rw[Jmn];omega)
theorem Qyr: Qt prog 271=some (.agg #[.int .i64 0,.slice none 0 0]):=kr
theorem Qnj{a:Int}: ∀ u∈[Value.int .i64 a,.slice A n c],u.oneCell'=true:=λu i=>by
 simp only[List.mem_cons,List.not_mem_nil,or_false]at i;rcases i with rfl|rfl<;>rfl
theorem Jbm(n:Nat)(h:n<18446744073709551616)(w:World): Ret prog 28 [.int .u64 (n:Int)] w λv w'=>NatV w' v n/\Fresh w v/\Ext w w':=by
 refine enE func28 ntmps28 ?_;refine ρ ?_;refine Uk rfl rfl (by decide) rfl ?_;refine Qk (bsN _ _) ?_;intro u b j C i;rw[Gk,Jpt]at i;have o:Rd u 1 (some ⟨b,0,none⟩) 2 (Nc [UInt32.ofNat n,UInt32.ofNat (n / 4294967296)]):=i.rd rfl;refine clR (Jjn (l:=[UInt32.ofNat n,UInt32.ofNat (n / 4294967296)]) (c:=2) o (nR _) (by simp)) ?_;rintro v D ⟨rfl,rfl⟩;have:=Jxl o (by simp);rw[Jpn n h]at this ⊢;refine ρ ?_;exact Jj ⟨this,λG _ _ e=>by grind,j⟩
theorem Jpg{AR:Nat->Prop}{TA:Option Addr}{ct:Nat}(hTB:TB B0 w)(hB:Blk w b 159 cs)(c1:cs[1]?=some (.int .i64 (f:Int)))(c7:cs[7]?=some (.slice VA n cv))(c8:cs[8]?=some (.slice TA n ct))(hV:Rd w 1 VA n va)(hTa:Rd w 1 TA n ta)(hch:GV 2 ChG w vch chs)(hlen:chs.length<=32)(hn:∀ p∈chs,p.1<n/\∀ c∈p.2,c<x.length)(hx:RowV w vx x)(hfit:FitR x)(hdv:∀ p∈chs,f<=p.1->DnV AR (T p.1) w (va.getD p.1 (.map none)))(hdt:∀ p∈chs,p.1<f->DnT AR (T p.1) w (ta.getD p.1 (.map none)))(hT1:∀ p∈chs,f<=p.1->∀ k,T p.1 k<=1)(hTb:∀ p∈chs,∀ k,T p.1 k<=4294967296^20):
  Ret prog 128 [.pointer (some ⟨b,0,none⟩),vch,vx] w λu w'=>NatV w' u (wtL T x chs)/\Fresh w u/\Ext w w':=by
 obtain⟨A,c,cc,rfl,be,bd,b3,b2⟩:=hch.parts;refine enE func128 ntmps128 ?_;refine clR (Jbm 1 (by decide) _) ?_;rintro vp w1 ⟨ar,b1,ap⟩;refine ρ ?_;refine Jo (fun (i:Nat) (vp:Value)=>[(0,.pointer (some ⟨b,0,none⟩)),(2,vx),(7,vp),(12,.slice A chs.length c),(13,.int .i64 (chs.length:Int)),(14,.int .i64 (i:Int))])
  (λi vp w'=>i<=chs.length/\Ext w w'/\NatV w' vp (wtL T x (chs.take i))/\Fresh w vp) (λi _=>chs.length-i) 0 vp sB
  ⟨Nat.zero_le _,ap,by rw[List.take_zero];exact ar,b1⟩ ?_
 rintro i vp w2 ⟨hi,aa,a4,ai⟩;refine ciR (λh=>?_) (λh=>?_)
 .have li:i<chs.length:=by have:=oT h;omega
  clear h;obtain⟨ce,bb,⟨CA,cC,rfl,b4,a8,ak⟩,ae⟩:=b2 i li;have G:chs[i]∈chs:=List.getElem_mem li;have ac:wtL T x (chs.take (i+1))=wtL T x (chs.take i)*T chs[i].1 (pmR chs[i].2 x):=by
   rw[List.take_succ_eq_append_getElem li,Jkn,wtL,wtL,Nat.mul_one]
  have av:wtL T x (chs.take i)<=(4294967296^20)^i:=by
   have:=Jdc (T:=T) (x:=x) (l:=chs.take i) λp hp=>hTb p (List.mem_of_mem_take hp) _;grind
  have au:Nb (wtL T x (chs.take i)):=Nb.pow av om;have aj:Nb (T chs[i].1 (pmR chs[i].2 x)):=Nb.pow (k:=1) (by grind) om;generalize hq:chs[i]=q at *
  obtain⟨ch,C⟩:=q;simp only at b4 a8 ak ae ac aj;have a2:=hn _ G;simp only at a2;refine Qs 2 i (b3.ext aa) li ?_;refine ρ ?_;have a5:∀ j u,([.int .i64 (ch:Int),.slice CA C.length cC]:List Value)[j]?=some u->w2.cell? ((adr A (i*2)).add j)=some u:=by grind [Gh]
  refine lds (cs:=[.int .i64 (ch:Int),.slice CA C.length cC]) a5 ?_;refine Jb Qyr ?_;intro w3 bc ao b5 b7;refine Xa b7 ?_;intro w4 J ba an;have Z:Ext w2 w4:=an w2 ao b5;have a1:=aa.trans Z;refine ldR (J.at (i:=1) rfl) ?_;refine clR (Qjb (cs:=C) (hx.ext a1) (ak.ext a1) a2.2 om) ?_;rintro vk w5 ⟨ax,U⟩;have a7:=a1.trans U;have a3:FitR (pmR C x):=hfit.pm a2.2 a8;obtain⟨KA,kc,rfl,b9,b8,aw⟩:=id ax;refine clR (Jzq (r:=pmR C x) (hTB.ext a7) aw (λv hv=>(a3.2 v hv).1) (by have:=a3.len;omega) (by have:=a3.1;omega)) ?_;rintro u w6 ⟨rfl,O⟩;have a6:=a7.trans O;have a9:Ext w6 w6.drew:=(Ext.refl w6).drew;have am:=((J.ext U).ext O).ext a9;have b6:=hB.ext (a6.trans a9);refine drR (scq 8 []) ?_;refine Jz (am.at (i:=0) rfl) ?_;refine Jz (b6.at (i:=1) c1) ?_;refine ρd ?_;refine ρ ?_;have D:Ext w6 w6.drew.drew:=a9.drew;have o:=a6.trans D;refine ci (λh=>?_) (λh=>?_)
  .have lf:ch<f:=by have:=oT h;omega
   obtain⟨mb,m,fm,e1,e2,⟨e3,e4⟩,e5⟩:=hdt _ G lf;simp only at e1 e5;have ab:ta[ch]?=some (.map (some mb)):=by grind
   refine drR (scq 13 [11]) ?_;refine Jz ((hB.ext o).at (i:=8) c8) ?_;refine Jz ((((J.ext U).ext O).ext D).at (i:=0) rfl) ?_;refine Jc ch (hTa.ext o) a2.1 ?_;refine Jz ((hTa.ext o).cell ab) ?_;refine ρd ?_;refine dmlk KS (e3.ext o) zNat (Kj a3) ?_;have ag:NatV w6.drew.drew ((fm (.string (idn (pmR C x)))).getD (.slice none 0 0)) (T ch (pmR C x)):=by
    rcases e5 (pmR C x) with⟨h6,h7⟩|⟨y,h6,h7,h8⟩
    .rw[h6,h7];exact NatV.nil _
    rw[h6];exact h8.1.ext o
   refine Jg (Jzj (a4.ext ((Z.trans U).trans O |>.trans D)) ag au.len aj.len) ?_;rintro vr w7 ⟨aq,ah,af⟩;refine⟨af,?_⟩;refine ρd ?_;refine ρ ?_;refine Jl (i+1) vr sO ⟨li,o.trans af,?_,λad m c e=>nL o.size (ah ad m c e)⟩ om;rw[ac];exact aq
  have lf:f<=ch:=by have:=oF h;omega
  obtain⟨mb,m,fm,e1,e2,⟨e3,e4⟩,e5,e6⟩:=hdv _ G lf;simp only at e1 e5;have ab:va[ch]?=some (.map (some mb)):=by grind
  refine drR (scq 11 []) ?_;refine Jz ((hB.ext o).at (i:=7) c7) ?_;refine Jz ((((J.ext U).ext O).ext D).at (i:=0) rfl) ?_;refine Jc ch (hV.ext o) a2.1 ?_;refine Jz ((hV.ext o).cell ab) ?_;refine ρd ?_;refine dmlk KS (e3.ext o) Jnh (Kj a3) ?_;rw[e5];by_cases h0:0<T ch (pmR C x)
  .rw[if_pos h0];have h1:=hT1 _ G lf (pmR C x);simp only at h1;refine ρd ?_;refine ρ ?_;refine Jl (i+1) vp sO ⟨li,o,?_,ai⟩ om;rw[ac,show T ch (pmR C x)=1 by omega,Nat.mul_one];exact a4.ext ((Z.trans U).trans O |>.trans D)
  rw[if_neg h0];refine ρd ?_;refine ρ ?_;have az:Fresh w (.slice none 0 0):=λad m c e=>by cases e
  refine Jj ⟨?_,az,o⟩;grind [Qyv,pmR,NatV.nil]
 have ay:i=chs.length:=by grind
 rw[ay,List.take_length]at a4;refine ρ ?_;exact Jj ⟨a4,ai,aa⟩
open Go.RowKit Pl Go.Wk _root_.Go.Proofs.Tryz
def chK(kf:Nat->Nat)(pf:Nat->Int)(v k:Nat): List (Nat×List Nat):=((List.range k).filter λc=>decide (pf c=(v:Int))).map λc=>(c,Qu (bk (kf v ||| 2^v) 32) (kf c))
theorem Jcj(kf:Nat->Nat)(pf:Nat->Int)(v k:Nat): chK kf pf v (k+1)=chK kf pf v k++if pf k=(v:Int) then[(k,Qu (bk (kf v ||| 2^v) 32) (kf k))] else[]:=by
 unfold chK;rw[List.range_succ,List.filter_append,List.map_append];grind
theorem Jkd(kf:Nat->Nat)(pf:Nat->Int)(v k:Nat): (chK kf pf v k).length<=k:=by grind [chK,List.length_map,List.length_filter_le,List.range,List.length_range]
theorem Jlv(vars:List Nat)(s:Nat): (Qu vars s).length<=vars.length:=by
 have:=List.length_filter_le (λi=>s.testBit (vars.getD i 0)) (List.range vars.length);rw[List.length_range]at this;exact this
theorem EC: ElT prog 214 271 2 32 (.agg #[.int .i64 0,.slice none 0 0]):=⟨underlying214,info_parts kr,rfl,by decide⟩
theorem Xkq(z:Int)(v:Value)(A:Option Addr)(n c:Nat)(h:v=.slice A n c)(w:World): (Instr.build 271 #[(0,.int .i64 z),(1,v)]).run prog w=.ok (.agg [.int .i64 z,v].toArray) w:=by subst h;kernel_rfl
theorem Xzj(z:Int)(v:Value)(A:Option Addr)(n c:Nat)(h:v=.slice A n c)(w:World): (Instr.buildSlice 214 1 #[(0,.agg [.int .i64 z,v].toArray)]).run prog w=.ok (.slice (some ⟨w.heap.size,0,none⟩) 1 1) (w.alloc (.cells [.int .i64 z,v].toArray 271)):=by subst h;kernel_rfl
theorem Qkt{w:World}{b n v cb:Nat}{cs:List Value}{BA:Option Addr}{vR:Value}{kf:Nat->Nat}{pf:Nat->Int}{R:Nat->List Row}(hB:Blk w b 159 cs)(c5:cs[5]?=some (.slice BA n cb))(c6:cs[6]?=some vR)(hBags:Rd w 3 BA n (Qe n (Qp kf pf)))(hR:GV 3 AtG w vR ((List.range n).map λv=>Yl (kf v ||| 2^v) (R v)))(hn:n<=32)(hv:v<n)(hk:∀ v,v<n->kf v<4294967296):
  Ret prog 125 [.pointer (some ⟨b,0,none⟩),.int .i64 (v:Int)] w λu w'=>OwnG 271 2 ChG w' w.heap.size u (chK kf pf v n)/\Ext w w':=by
 obtain⟨RA,rc,am,rfl,ac,ab,a7,ah⟩:=hR.parts;rw[List.length_map,List.length_range]at c6 ac ab a7;obtain⟨re,ak,⟨t,rfl,a8⟩,O⟩:=ah v (by simpa using hv);simp only[List.getElem_map,List.getElem_range]at a8;obtain⟨⟨PA,pc,a9,ao,an,ad⟩,ay,aa⟩:=id a8;obtain⟨t1,t2,t3⟩:=t;simp only[Yl]at a9;subst a9;have a4:(nz (bk (kf v ||| 2^v) 32)).length=(bk (kf v ||| 2^v) 32).length:=Qg _;refine enE func125 ntmps125 ?_;refine ldR (hB.at (i:=5) c5) ?_;refine ρ ?_;refine Jo (fun (k:Nat) (vl:Value)=>[(0,.pointer (some ⟨b,0,none⟩)),(1,.int .i64 (v:Int)),(5,vl),(11,.int .i64 (n:Int)),(12,.int .i64 (k:Int))])
  (λk vl w'=>k<=n/\Ext w w'/\OwnG 271 2 ChG w' w.heap.size vl (chK kf pf v k)) (λk _=>n-k) 0 (.slice none 0 0) sB
  ⟨Nat.zero_le _,Ext.refl _,OwnG.nil _ _⟩ ?_
 rintro k vl w1 ⟨ar,C,U⟩;refine ciR (λh=>?_) (λh=>?_)
 .have lk:k<n:=by have:=oT h;omega
  clear h;have aj:=hB.ext C;have G:∀ {w'} (hx:Ext w w') j u,(Qp kf pf k)[j]?=some u->w'.cell? ((adr BA (k*3)).add j)=some u:=λhx j u hu=>by
   have hj:j<3:=by grind [Nat.lt_or_ge,List.getElem?_eq_none,Qp]
   rw[Xt];exact(hBags.ext hx).cell ((Jqt (sz:=3) (λ_ _=>rfl) lk hj).trans hu)
  refine ldR (aj.at (i:=5) c5) ?_;refine Qs 3 k (hBags.ext C) lk ?_;refine ldR (G C 2 _ rfl) ?_;refine ciR (λh=>?_) (λh=>?_)
  .have hp:pf k=(v:Int):=Zx h;have Z:Ext w1 w1.drew:=(Ext.refl w1).drew;have o:=C.trans Z;have ax:=hB.ext o;obtain⟨LA,lc,az,aq,a2⟩:=U.form;refine ρ ?_;refine drN (λk=>w.heap.size<=k) 10 (scq 23 [18,20,21]) kr ?_;have au:¬ w.heap.size<=b:=by have:=hB.lt;omega
   have D:∀ {p:Addr} {u:Value},w.cell? p=some u->∀ w',GrN (λk=>w.heap.size<=k) w1.drew w'->w'.cell? p=some u:=fun {p u} h w' hg=>
    Gh ((hg.old o λk hk=>hk)) h
   refine ρn ?_;refine nld (D (hB.at (i:=6) c6)) ?_;refine ρn ?_;refine Ye 3 v (a7.ext o) hv ?_;refine ρn ?_;refine nld (D (O 0 _ rfl)) ?_;refine ρn ?_;refine nld (D (hB.at (i:=5) c5)) ?_;refine ρn ?_;refine Ye 3 k (hBags.ext o) lk ?_;refine ρn ?_;refine nld (D (G (Ext.refl w) 1 _ rfl)) ?_;refine ρn ?_;refine nop ?_;rw[a4];refine cl (Qzw (vars:=bk (kf v ||| 2^v) 32) (a4 ▸ ad.ext o) (hk k lk) (λu hu=>(bk_mem.1 hu).1) (Ux _ _)) ?_;rintro uc w2 ⟨a6,a3⟩;refine ρ ?_;refine Je (GrN.ext a3) ?_;obtain⟨CA,cc,rfl,ag,af⟩:=Jv a6;refine ρn ?_;refine Jqh (Xkq _ _ CA _ cc rfl) ?_;refine ρn ?_;refine nop ?_;refine bsl (Xzj _ _ CA _ cc rfl) ?_;intro w3 b3 a1 av ai;refine ρ ?_;refine Je (GrN.ext a1) ?_;refine ρn ?_;refine nop ?_;have J:Ext w1 w3:=(Z.trans a3).trans a1;have hΦ:Off (Xq w.heap.size vl) w3 (λu=>ChG u [.int .i64 (k:Int),.slice CA (Qu (bk (kf v ||| 2^v) 32) (kf k)).length cc] (k,Qu (bk (kf v ||| 2^v) 32) (kf k))):=by
    have h1:=Jxx (Jk a6 a1) (N:=Xq w.heap.size vl) λg eg hN=>by
     have:=(af g eg).1;rcases hN with h'|h'
     .have:=o.size;omega
     have:=(a2 g h').2;have:=Z.size;omega
    refine h1.imp λu h=>⟨CA,cc,rfl,ag,?_,Rd.own h⟩;grind [Nat.le_trans,Jlv,bk,kf,Ux]
   refine apG EC (Φ:=ChG) (U.ext J) ai rfl Qnj hΦ (by grind [Jkd,kf]) om (C.trans J).size ?_;intro v4 w4 aw a5 ap;refine ρ ?_;refine Je (GrN.by a5 λg eg=>(a2 g eg).1) ?_;refine ρn ?_;refine ρ ?_;refine Jl (k+1) v4 sO ⟨lk,Qh (C.trans J) a5 (λg eg=>(a2 g eg).1),?_⟩ om;grind [Jcj]
  have hp:pf k≠(v:Int):=Xu h;refine ρ ?_;refine Jl (k+1) vl sO ⟨lk,C,?_⟩ om;grind [Jcj]
 have ae:k=n:=by grind
 rw[ae]at U;refine ρ ?_;exact Jj ⟨U,C⟩
open Go.RowKit Pl Go.Wk
variable {cols:List Nat}{rows:List Row}{cs ta va:List Value}{b cv n:Nat}{pf:Nat->Int}{BA VA:Option Addr}{k:Row}{W:Row->Nat}{w w' wF:World}
structure FixW(B0 n f:Nat)(kf:Nat->Nat)(pf:Nat->Int)(R:Nat->List Row)(vR:Value)(BA:Option Addr)(wF:World): Prop where
 tb:TB B0 wF
 bags:Rd wF 3 BA n (Qe n (Qp kf pf))
 rels:GV 3 AtG wF vR ((List.range n).map λv=>Yl (kf v ||| 2^v) (R v))
 n32:n<=32
 fn:f<=n
 kb:∀ v,v<n->kf v<4294967296
 pn:∀ c,c<n->pf c≠(c:Int)
 rows:∀ v,v<n->∀ x∈R v,x.length=(bk (kf v ||| 2^v) 32).length/\FitR x
 rlen:∀ v,v<n->(R v).length<=65536
def bCs(n f:Nat)(Dv Pv Av:Value)(BA:Option Addr)(cb:Nat)(vR:Value)(VA:Option Addr)(cv:Nat)(TA:Option Addr)(ct:Nat)(Kv:Value): List Value :=
 [.int .i64 (n:Int),.int .i64 (f:Int),Dv,Pv,Av,.slice BA n cb,vR,.slice VA n cv,.slice TA n ct,Kv]
def ARk(n f:Nat)(VA:Option Addr)(cv:Nat)(TA:Option Addr)(ct:Nat)(Kv:Value)(k:Nat): Prop:=(Value.slice VA n cv).ownBlock=some k∨(Value.slice TA n ct).ownBlock=some k∨Kv.ownBlock=some k
structure BldW(wF:World)(b n:Nat)(cs:List Value)(VA:Option Addr)(cv:Nat)(TA:Option Addr)(ct:Nat)(w:World)(va ta:List Value): Prop where
 ext:Ext wF w
 blk:Blk w b 159 cs
 va:w.ownsRow wF.heap.size 213 1 (.slice VA n cv) n va
 ta:w.ownsRow wF.heap.size 221 1 (.slice TA n ct) n ta
theorem BldW.ext'{TA:Option Addr}{ct:Nat}(h:BldW wF b n cs VA cv TA ct w va ta)(hx:Ext w w'): BldW wF b n cs VA cv TA ct w' va ta :=
 ⟨h.ext.trans hx,h.blk.ext hx,Jk h.va hx,Jk h.ta hx⟩
def Za(kf:Nat->Nat)(v:Nat): List Nat:=Qu (bk (kf v ||| 2^v) 32) (kf v)
open Classical in
noncomputable def Um (rows:List Row) (cols:List Nat) (W:Row->Nat) (k:Row):Nat:=if ∃ x∈rows,0<W x/\pmR cols x=k then 1 else 0
theorem redT_pos: 0<Um rows cols W k↔∃ x∈rows,0<W x/\pmR cols x=k:=by
 unfold Um;split
 repeat grind
theorem Jth: Um rows cols W k<=1:=by
 unfold Um;split<;>omega
theorem Jmr{a:Atm}(h:AtG w cs a)(hx:Ext w w'): AtG w' cs a:=by
 obtain⟨t,e,i⟩:=h;exact⟨t,e,i.ext hx⟩
theorem Jqj{kf:Nat->Nat}{v:Nat}{p:Nat×List Nat}(h:p∈chK kf pf v n): p.1<n/\pf p.1=(v:Int)/\p.2=Qu (bk (kf v ||| 2^v) 32) (kf p.1):=by
 obtain⟨c,i,rfl⟩:=List.mem_map.1 h;grind
theorem Jhf{v:Value}(h:NatV w v n): ∃ A c,v=.slice A (Jq n).length c/\(0<(Jq n).length↔0<n):=by
 obtain⟨A,c,e,_⟩:=h;grind [Nat.pos_of_ne_zero,Qqn,limbs_pos']
theorem Qhs{B0 f v cb ct:Nat}{kf:Nat->Nat}{R:Nat->List Row}{vR Dv Pv Av Kv:Value}{TA:Option Addr}{T:Nat->Row->Nat}{AR:Nat->Prop}(hF:FixW B0 n f kf pf R vR BA wF)(hW:BldW wF b n (bCs n f Dv Pv Av BA cb vR VA cv TA ct Kv) VA cv TA ct w va ta)(hv:v<n)(hdv:∀ c,c<n->pf c=(v:Int)->f<=c->DnV AR (T c) w (va.getD c (.map none)))(hdt:∀ c,c<n->pf c=(v:Int)->c<f->DnT AR (T c) w (ta.getD c (.map none)))(hT1:∀ c,f<=c->∀ k,T c k<=1)(hTb:∀ c k,T c k<=4294967296^20)(hAR:∀ k,ARk n f VA cv TA ct Kv k->AR k)(hARl:∀ k,AR k->k<w.heap.size):
  Ret Tryz.prog 75 [.pointer (some ⟨b,0,none⟩),.int .i64 (v:Int)] w λu w'=>u=.tuple #[]/\∃ mv,BldW wF b n (bCs n f Dv Pv Av BA cb vR VA cv TA ct Kv) VA cv TA ct w' (va.set v mv) ta/\GrN (λk=>(Value.slice VA n cv).ownBlock=some k) w w' /\
   DnV AR (Um (R v) (Za kf v) λx=>wtL T x (chK kf pf v n)) w' mv:=by
 obtain⟨bh,hB,a7,c0⟩:=hW;have bn:=hF.n32;refine enE Tryz.func75 Tryz.ntmps75 ?_;refine ldR (hB.at (i:=7) rfl) ?_;refine ρ ?_;refine mkm 9 ?_;intro w1 O J ck hM;obtain⟨s1,s2,s3,s4,s5⟩:=Zm (Jk a7 J) (q:=v) om (.map (some O));have d9:va.length=n:=by have:=a7.1;omega
 refine ixR v (Rd.own (Jk a7 J)) om ?_;refine Xk (s1.trans (show va[v]?=some (va.getD v (.map none)) by simp[List.getD,List.getElem?_eq_getElem (show v<va.length by omega)])) s2 ?_;refine ρ ?_;obtain⟨w2,bi⟩:∃ w2,w2=w1.setCell (adr VA v) (.map (some O)):=⟨_,rfl⟩;rw[<-bi]at s3 s5 ⊢;clear bi;have ai:∀ g,(Value.slice VA n cv).ownBlock=some g->wF.heap.size<=g/\g<w.heap.size:=(Jv a7).choose_spec.choose_spec.2.2;have be:∀ g,(Value.slice TA n ct).ownBlock=some g->wF.heap.size<=g/\g<w.heap.size:=(Jv c0).choose_spec.choose_spec.2.2;have d2:=J.size;have d5:=hM.lt;have ah:Blk w2 b 159 _:=(hB.ext J).grown s5 ((hB.ext J).ne_own (Jk a7 J) rfl);have aw:w2.ownsRow wF.heap.size 221 1 (.slice TA n ct) n ta:=Zn (Jk c0 J) (Jk a7 J) s5 rfl;have c3:MapS Tryz.prog 9 w2 O 0 (λ_=>none):=hM.kept s5 (λe=>by have:=(ai O e.symm).2;omega);have bt:GrN AR w w2:=(GrN.ext J).trans (GrN.by s5 λk C=>hAR k (.inl C))
 have a2:Ext wF w2:=Qh (bh.trans J) s5 λk C=>(ai k C).1;have bp:wF.heap.size<=O:=nL bh.size ck;have au:=c3.lt;obtain⟨RA,rc,d8,c5,cg,ce,ba,cr⟩:=hF.rels.parts;rw[List.length_map,List.length_range]at c5 cg ce ba;obtain⟨re,d3,⟨t,d1,bc⟩,a4⟩:=cr v (by simpa using hv);subst d1;simp only[List.getElem_map,List.getElem_range]at bc;obtain⟨⟨PA,pc,c7,db,da,ch⟩,c6,c8⟩:=id bc;obtain⟨t1,t2,t3⟩:=t;simp only[Yl]at c7 c6;subst c7;subst c6;have bm:(nz (bk (kf v ||| 2^v) 32)).length=(bk (kf v ||| 2^v) 32).length:=Qg _;have ap:∀ j u,(Qp kf pf v)[j]?=some u->wF.cell? ((adr BA (v*3)).add j)=some u:=λj u hu=>by
  have hj:j<3:=by
   rcases Nat.lt_or_ge j 3 with h'|h'
   .exact h'
   rw[List.getElem?_eq_none (by simp[Qp];omega)]at hu;cases hu
  rw[Xt];exact hF.bags.cell ((Jqt (sz:=3) (λ_ _=>rfl) hv hj).trans hu)
 subst c5;have aj:Ext w2 w2.drew:=(Ext.refl w2).drew;have D:=a2.trans aj;have bb:=ah.ext aj;refine dr [(0,0),(0,1),(0,3),(0,4),(0,5),(0,6),(0,7),(0,8),(0,9),(0,10),(0,11),(0,12),(0,13),(0,14),(0,15),(0,16),(0,17),(0,18),(1,2),(1,19),(0,20),(0,21)] kr ?_;refine Jz (bb.at (i:=6) rfl) ?_;refine Ka 3 v (ba.ext D) hv ?_;refine Jz (Gh D (a4 0 _ rfl)) ?_;refine Jz (bb.at (i:=5) rfl) ?_;refine Ka 3 v (hF.bags.ext D) hv ?_;refine Jz (Gh D (ap 1 _ rfl)) ?_;refine Jg (Qkt (R:=R) bb rfl rfl (hF.bags.ext D) (hF.rels.ext D λcs a h=>Jmr h D) bn hv hF.kb) ?_;rintro vl w3 ⟨cx,am⟩;refine⟨am,?_⟩;have bg:=D.trans am;refine ρd ?_;rw[bm];refine dcl (Qzw (vars:=bk (kf v ||| 2^v) 32) (bm ▸ ch.ext bg) (hF.kb v hv) (λu hu=>(bk_mem.1 hu).1) (Ux _ _)) ?_;rintro uc w4 ⟨bv,b3⟩;refine⟨b3,?_⟩;obtain⟨CA,cc,rfl,df,cp⟩:=Jv bv;refine ρd ?_;refine ρ ?_;have a3:=(aj.trans am).trans b3
 have a9:=a2.trans a3;have d0:=ah.ext a3;have b5:∀ j u,([.int .i64 ((bk (kf v ||| 2^v) 32).length:Int),t3]:List Value)[j]?=some u->w4.cell? (((adr RA (v*3)).add 1).add j)=some u:=λj u hu=>by
  have:=a4 (1+j) u (by rw[Nat.add_comm];exact hu);rw[Xt]at this;rw[Xt,Xt,Nat.add_assoc];exact Gh a9 this
 refine ld (d0.at (i:=6) rfl) ?_;refine Qs 3 v (ba.ext a9) hv ?_;refine Jt (cs:=[.int .i64 ((bk (kf v ||| 2^v) 32).length:Int),t3]) b5 ?_;refine clR (Jft (ar:=(bk (kf v ||| 2^v) 32).length) (ls:=R v) ((bc.ext a9).rel)) ?_;rintro ur w5 ⟨b2,an⟩;obtain⟨ps,GA,gc,bd,rfl,de,d4,bl,b4⟩:=an;have U:(R v).length=ps.length:=by rw[bd,List.length_map]
 have aa:=a3.trans b2;have bo:O<w4.heap.size:=nM au a3.size;have b6:b≠O:=λe=>by have Z:=hB.lt;omega
 refine ρ ?_;refine Zq (fun (i:Nat) (m:Nat) (fm:Lit->Option Value)=>[(0,.pointer (some ⟨b,0,none⟩)),(1,.int .i64 (v:Int)),(4,vl),(5,.slice CA (Za kf v).length cc),(43,.slice GA ps.length gc),(44,.int .i64 (ps.length:Int)),(45,.int .i64 (i:Int))])
  (λi m fm w'=>i<=ps.length/\GrN (λk=>k=O) w5 w'/\MapS Tryz.prog 9 w' O m fm/\m<=i/\(∀ k:Row,fm (.string (idn k))=if 0<Um ((R v).take i) (Za kf v) (λx=>wtL T x (chK kf pf v n)) k then some (.bool true) else none)/\∀ kl,fm kl≠none->∃ k:Row,kl=.string (idn k)) (λi _ _=>ps.length-i) 0 0 (λ_=>none) sB
  ⟨Nat.zero_le _,GrN.refl _ _,c3.ext aa,Nat.le_refl _,λk=>?_,λkl h=>absurd rfl h⟩ ?_
 .rw[if_neg];intro h;obtain⟨x,hx,_⟩:=redT_pos.1 h;simp at hx
 rintro i m fm w6 ⟨hi,af,c2,dc,ao,b7⟩;refine ciR (λh=>?_) (λh=>?_)
 .have li:i<ps.length:=by have:=oT h;omega
  clear h;obtain⟨x,az⟩:∃ x,x=(ps.getD i z0).2:=⟨_,rfl⟩;have c9:x∈R v:=by rw[bd,az];exact List.mem_map_of_mem (getD_mem' z0 ps li)
  have ay:(R v).getD i []=x:=by rw[bd,az];simp[List.getD,List.getElem?_eq_getElem li]
  obtain⟨ax,a8⟩:=hF.rows v hv x c9;have o:GrN (λk=>k=O) w2 w6:=(GrN.ext aa).trans af;have a1:Ext wF w6:=o.old a2 λk C=>by rw[C];exact bp
  have cz:=Jy ah o b6;have bz:=Rd.own (Ja s3 o λg eg e=>by have:=(ai g eg).2;omega);have cq:=Rd.own (Ja aw o λg eg e=>by have:=(be g eg).2;omega);have cw:GV 2 ChG w6 vl (chK kf pf v n):=((((cx.ext b3).ext b2).gr af λk C=>by rw[C];exact au)).gv (by have:=Jkd kf pf v n;omega);have av:GrN (λk=>k<w4.heap.size) w5 w6:=af.mono λk _ C=>by rw[C];exact bo
  have ac:RowV w6 (ps.getD i z0).1 x:=by rw[az];exact b4 _ (getD_mem' z0 ps li) w6 av
  have aq:=bl w6 av;have a5:GrN AR w w6:=((bt.mono λk _ C=>(.inl C:AR k∨k=O)).trans (o.mono λk _ C=>.inr C)).mono λk C h=>h.elim id λe=>by omega
  have bj:∀ c,c≠v->(va.set v (.map (some O))).getD c (.map none)=va.getD c (.map none):=λc hc=>by simp[List.getD,List.getElem?_set_ne (Ne.symm hc)]
  have cj:∀ c,c<n->pf c=(v:Int)->c≠v:=λc hc hp e=>hF.pn c hc (by rw[hp,e]);refine ixR i aq li ?_;refine ldR (aq.cell (show(ps.map (·.1))[i]?=some (ps.getD i z0).1 by simp[List.getD,List.getElem?_eq_getElem li])) ?_
  refine clR (Jpg (T:=T) (AR:=AR) (hF.tb.ext a1) cz rfl rfl rfl bz cq cw (by have:=Jkd kf pf v n;omega) (λp hp=>?_) ac a8 (λp hp ae=>?_) (λp hp ae=>?_) (λp hp ae k=>hT1 _ ae k) (λp hp k=>hTb _ k)) ?_
  .obtain⟨Z,h2,h3⟩:=Jqj hp;refine⟨Z,λc hc=>?_⟩;rw[h3]at hc;rw[ax];exact Jkb hc
  .obtain⟨Z,h2,h3⟩:=Jqj hp;rw[bj _ (cj _ Z h2)];exact(hdv _ Z h2 ae).gr a5
  .obtain⟨Z,h2,h3⟩:=Jqj hp;exact(hdt _ Z h2 ae).gr a5
  rintro vw w7 ⟨ca,_,a6⟩;obtain⟨WA,wc,rfl,ab⟩:=Jhf ca;have c1:=c2.ext a6;have b8:=af.trans (GrN.ext a6);refine ciR (λh=>?_) (λh=>?_)
  .have ad:0<wtL T x (chK kf pf v n):=ab.1 (by have:=oT h;omega);have br:GrN (λk=>k=O) w2 w7:=o.trans (GrN.ext a6);have bf:=a1.trans a6;have G:Ext w7 w7.drew:=(Ext.refl w7).drew;have cy:=(Jy ah br b6).ext G;have bw:Rd w7.drew 1 VA n (va.set v (.map (some O))):=bz.ext (a6.trans G);have bu:Rd w7.drew 1 CA (Za kf v).length (Jp (nz (Za kf v))):=Rd.own (Jk (Ja (Jk bv b2) b8 λg eg e=>by have:=(cp g eg).1;have:=am.size;have:=aj.size;omega) G);have ag:FitR (pmR (Za kf v) x):=a8.pm (λc hc=>by rw[ax];exact Jkb hc) (nL (Jlv _ _) (Ux _ _));have cd:(va.set v (.map (some O)))[v]?=some (.map (some O)):=by rw[List.getElem?_set_self om]
   refine ρ ?_;refine drN (λ_=>False) 10 (scq 12 [9,10,111]) kr ?_;refine ρn ?_;refine nld (Js (cy.at (i:=7) rfl) (λe=>e)) ?_;refine ρn ?_;refine nix v bw hv ?_;refine ρn ?_;refine nld (Js (bw.cell cd) (λe=>e)) ?_;refine ρn ?_;refine nop ?_;refine cl (Qjb (cs:=Za kf v) ((ac.ext a6).ext G) bu (λc hc=>by rw[ax];exact Jkb hc) (by have:=Jlv (bk (kf v ||| 2^v) 32) (kf v);have:=Ux (kf v ||| 2^v) 32;unfold Za;omega)) ?_;rintro uk w8 ⟨cn,ak⟩;obtain⟨KA,kc,rfl,dd,d6,cm⟩:=id cn;refine ρ ?_;refine Je (GrN.ext ak) ?_;refine ρn ?_;refine nop ?_;refine cl (Jzq (r:=pmR (Za kf v) x) ((hF.tb.ext (bf.trans G)).ext ak) cm (λu hu=>(ag.2 u hu).1) (by have:=ag.len;omega) (by have:=ag.1;omega)) ?_;rintro un w9 ⟨rfl,b1⟩;refine ρ ?_;refine Je (GrN.ext b1) ?_;refine ρn ?_;refine Xh ?_;refine mup KS (((c1.ext G).ext ak).ext b1) (by unfold maxLen;omega) (Kj ag) ?_
   intro d7 c4 bs;refine ρ ?_;refine Xj (i+1) (m+1) (upL fm (.string (idn (pmR (Za kf v) x))) (some (.bool true))) sO ⟨li,((b8.trans (GrN.ext G)).trans ((GrN.ext ak).trans (GrN.ext b1))).trans (GrN.by bs λk C=>by injection C with C;exact C.symm),c4,om,λk=>?_,λkl bq=>?_⟩ om
   .by_cases e:pmR (Za kf v) x=k
    .rw[<-e,Kw (KS.key (Kj ag)),if_pos];refine redT_pos.2 ⟨x,?_,ad,rfl⟩;rw[Qr [] (by rw[U];exact li),ay];exact List.mem_append_right _ (List.mem_singleton.2 rfl)
    rw[Uh (λe'=>e (Jcb (by injection e'.symm))),ao k];have e2:(0<Um ((R v).take (i+1)) (Za kf v) (λx=>wtL T x (chK kf pf v n)) k)↔(0<Um ((R v).take i) (Za kf v) (λx=>wtL T x (chK kf pf v n)) k):=by
     rw[redT_pos,redT_pos,Qr [] (by rw[U];exact li),ay];constructor
     .rintro⟨y,hy,Z,h2⟩;rcases List.mem_append.1 hy with h3|h3
      .exact⟨y,h3,Z,h2⟩
      rw[List.mem_singleton.1 h3]at h2;exact absurd h2 e
     rintro⟨y,hy,Z,h2⟩;exact⟨y,List.mem_append_left _ hy,Z,h2⟩
    simp only[e2]
   by_cases e:kl=.string (idn (pmR (Za kf v) x))
   .exact⟨_,e⟩
   rw[Uh e]at bq;exact b7 kl bq
  have ad:¬ 0<wtL T x (chK kf pf v n):=λh'=>by have:=ab.2 h';have:=oF h;omega
  refine ρ ?_;refine Xj (i+1) m fm sO ⟨li,b8,c1,om,λk=>?_,b7⟩ om;rw[ao k];have e:(0<Um ((R v).take (i+1)) (Za kf v) (λx=>wtL T x (chK kf pf v n)) k)↔(0<Um ((R v).take i) (Za kf v) (λx=>wtL T x (chK kf pf v n)) k):=by
   rw[redT_pos,redT_pos,Qr [] (by rw[U];exact li),ay];constructor
   .rintro⟨y,hy,Z,h2⟩;rcases List.mem_append.1 hy with h3|h3
    .exact⟨y,h3,Z,h2⟩
    rw[List.mem_singleton.1 h3]at Z;exact absurd Z ad
   rintro⟨y,hy,Z,h2⟩;exact⟨y,List.mem_append_left _ hy,Z,h2⟩
  simp only[e]
 have co:i=ps.length:=by have:=oF h;omega
 rw[co,<-U,List.take_length]at ao;have o:GrN (λk=>k=O) w2 w6:=(GrN.ext aa).trans af;have a1:Ext wF w6:=o.old a2 λk C=>by rw[C];exact bp
 have b9:GrN (λk=>(Value.slice VA n cv).ownBlock=some k) w w2:=(GrN.ext J).trans (GrN.by s5 λk C=>C);have a5:GrN (λk=>(Value.slice VA n cv).ownBlock=some k) w w6:=((b9.mono λk _ C=>(.inl C:(Value.slice VA n cv).ownBlock=some k∨k=O)).trans (o.mono λk _ C=>.inr C)).mono λk C h=>h.elim id λe=>by omega
 refine ρ ?_;refine Uj ⟨rfl,.map (some O),⟨a1,Jy ah o b6,Ja s3 o λg eg e=>(by have:=(ai g eg).2;omega),Ja aw o λg eg e=>(by have:=(be g eg).2;omega)⟩,a5,O,m,fm,rfl,by have:=hF.rlen v hv;omega,⟨c2,?_⟩,ao,b7⟩;intro h';have:=hARl O h';omega
end Go.Proofs.YtgobkbeokaaplaaGreatDoor
namespace Go.Wk
open Go.RowKit
variable {cs xs:List Value}{base c e m n q ty:Nat}{A:Option Addr}{P:Program}{w:World}
theorem Qmp{sz:Nat}(ho:w.ownsRow base e sz (.slice A m c) m xs)(hj:q+cs.length<=m*sz)(h0:0<cs.length)(h1:∀ u∈cs,u.oneCell'=true):
  ∃ w',(storeCells (adr A q) cs).run P w=.ok () w'/\w'.ownsRow base e sz (.slice A m c) m (xs.take q++cs++xs.drop (q+cs.length))/\w.grownBy w' (Value.slice A m c).ownBlock:=by
 rcases ho.2 with⟨hn,G⟩|⟨g,cap,cur,hv,hb,hg,hc,hcm,hcs,ht⟩
 .grind
 injection hv with o _ e3
 subst o;subst e3;have C:m*sz<=c*sz:=nO _ hc;have D:adr (some ⟨g,0,none⟩) q=⟨g,q,none⟩:=by simp[adr,Ym]
 rw[D];have i:=run_storeCells_at (P:=P) g q e cs 0 cur w hg om h1;simp only[Nat.add_zero]at i;refine⟨_,i,⟨?_,.inr ⟨g,c,_,rfl,hb,setRow_heap w g cur _ e (0,0) hg,hc,hcm,?_,?_⟩⟩,?_⟩
 .grind
 .grind
 .simp only;have j:(cur.toList.take q++cs).length=q+cs.length:=by grind
  rw[List.take_append,j];have o:(cur.toList.take q++cs).take (m*sz)=cur.toList.take q++cs:=List.take_of_length_le om;rw[o,<-ht,List.take_take,Nat.min_eq_left om,List.drop_take]
 exact Jqr w g (cur.toList.take q++cs++cur.toList.drop (q+cs.length)).toArray
theorem stoG{al:AL}{Q:Exit->Act->World->Prop}{ops:Array Oper}{rest:List Oper}{pos:String}{aft:Array Edge}{tt:TT}[h:Tab P tt]{x y:Operand}{t sz:Nat}{k:TK}(ho:w.ownsRow base e sz (.slice A m c) m xs)(hj:q+cs.length<=m*sz)(h0:0<cs.length)(kk:∀ w1,w1.ownsRow base e sz (.slice A m c) m (xs.take q++cs++xs.drop (q+cs.length))->w.grownBy w1 (Value.slice A m c).ownBlock->WL P n ops Q rest al w1)(h1:∀ u∈cs,u.oneCell'=true)(ht:tk tt t=some k:=by rfl)(hk:k.desc=.invalid:=by rfl)(hs:k.size=cs.length:=by rfl)(hx:ev al x=some (.pointer (some (adr A q))):=by rfl)(hy:ev al y=some (.agg cs.toArray):=by rfl):
  WL P n ops Q (⟨none,.store t x y,ty,pos,aft,none⟩::rest) al w:=by
 obtain⟨w',j,o,C⟩:=Qmp (P:=P) ho hj h0 h1;refine Jjk (λa D=>?_) (kk w' o C);have i:=Yz w (Jxp h.ok ht hk w).2;simp[execOp,D.ev hx,D.ev hy,Instr.storeAt,Instr.sureAddr,storeVar,Value.cells,i,hs,j]
end Go.Wk
namespace Go.Proofs.YtgobkbeokaaplaaGreatDoor
open Go.RowKit Pl Go.Wk
attribute [local irreducible] WC WL QX WD WDB WP WN WG
variable {d:Bool}{N:Nat->Prop}{v:Value}{w w':World}
abbrev BkT:= Row×Tr
def BkE(d:Bool)(N:Nat->Prop)(w:World)(cs:List Value)(b:BkT): Prop:=∃ kv q,cs=[kv,.bool d,q]/\RowX w N kv b.1/\TrV N w b.2 q
theorem RowX.gr{r:Row}(h:RowX w N v r)(hg:GrN N w w'): RowX w' N v r:=by
 obtain⟨A,c,C,u,o,j,i⟩:=h;exact⟨A,c,C,u,o,Vs j hg λh0 D e=>i (λG=>by grind [Jr]) D e,i⟩
theorem BkE.gr{d:Bool}{N:Nat->Prop}{w w':World}{cs:List Value}{b:BkT}(h:BkE d N w cs b)(hg:GrN N w w'): BkE d N w' cs b:=by
 obtain⟨kv,q,o,j,i⟩:=h;exact⟨kv,q,o,j.gr hg,i.gr hg⟩
theorem BkE.ext{d:Bool}{N:Nat->Prop}{w w':World}{cs:List Value}{b:BkT}(h:BkE d N w cs b)(hx:Ext w w'): BkE d N w' cs b:=h.gr (GrN.ext hx)
theorem BkE.old{d:Bool}{N N':Nat->Prop}{w:World}{cs:List Value}{b:BkT}(h:BkE d N w cs b)(hs:∀ k,N' k->N k∨w.heap.size<=k): BkE d N' w cs b:=by
 obtain⟨kv,q,o,j,i⟩:=h;exact⟨kv,q,o,j.mono λk u h=>(hs k h).elim id λC=>om,i.old hs⟩
structure OwnB(d:Bool)(base:Nat)(w:World)(v:Value)(ps:List (List Value×BkT)): Prop where
 own:w.ownsRow base 78 3 v ps.length (Ql ps)
 el:∀ p∈ps,BkE d (Xq base v) w p.1 p.2
theorem BkE.len{cs:List Value}{b:BkT}(h:BkE d N w cs b): cs.length=3:=by
 obtain⟨kv,q,rfl,_⟩:=h;rfl
theorem OwnB.nil(d:Bool)(base:Nat)(w:World): OwnB d base w (.slice none 0 0) []:=⟨Zc _ _ _ _,λp i=>by cases i⟩
theorem OwnB.form{base:Nat}{ps:List (List Value×BkT)}(h:OwnB d base w v ps): ∃ A c,v=.slice A ps.length c/\ps.length<=c/\∀ g,v.ownBlock=some g->base<=g/\g<w.heap.size:=Jv h.own
theorem OwnB.gr{d:Bool}{base:Nat}{w w':World}{v:Value}{ps:List (List Value×BkT)}(h:OwnB d base w v ps){N:Nat->Prop}(hg:GrN N w w')(hN:∀ k,N k->k<base): OwnB d base w' v ps:=by
 obtain⟨_,_,_,_,o⟩:=h.form;exact⟨Ja h.own hg (λg u hn=>by grind),λp i=>(h.el p i).gr (hg.mono λk _ j=>.inl (hN k j))⟩
theorem OwnB.ext{d:Bool}{base:Nat}{w w':World}{v:Value}{ps:List (List Value×BkT)}(h:OwnB d base w v ps)(hx:Ext w w'): OwnB d base w' v ps:=h.gr (N:=λ_=>False) (GrN.ext hx) λk e=>e.elim
theorem BkE.one{d:Bool}{N:Nat->Prop}{w:World}{cs:List Value}{b:BkT}(h:BkE d N w cs b): ∀ u∈cs,u.oneCell'=true:=by
 obtain⟨kv,q,rfl,o,j⟩:=h;obtain⟨p,rfl⟩:=j.ptr;intro u i;simp only[List.mem_cons,List.not_mem_nil,or_false]at i;rcases i with rfl|rfl|rfl
 .exact o.v.one
 .rfl
 rfl
theorem EBk: ElT Tryz.prog 72 78 3 40 (.agg #[.slice none 0 0,.bool false,.pointer none]):=⟨Tryz.underlying72,info_parts kr,rfl,by decide⟩
open Go.RowKit Pl Go.Wk
variable {d dir:Bool}{ps:List (List Value×BkT)}{bs i:List (Row×Tr)}{b base m n ty:Nat}{x:Row}{wt:Row->Nat}
theorem apB{al:AL}{w:World}{Q:Exit->Act->World->Prop}{ops:Array Oper}{rest:List Oper}{d:Nat}{pos:String}{aft:Array Edge}{x y:Operand}{v:Value}{cs:List Value}{bt:BkT}(ho:OwnB dir base w v ps)(hb:Blk w b 78 cs)(hΦ:BkE dir (Xq base v) w cs bt)(hm:ps.length<=1000000)(hbase:base<=w.heap.size)(kk:∀ v' w',OwnB dir base w' v' (ps++[(cs,bt)])->w.grownBy w' v.ownBlock->WL Tryz.prog n ops Q rest ((d,v')::al) w')(hx:ev al x=some v:=by rfl)(hy:ev al y=some (.slice (some ⟨b,0,none⟩) 1 1):=by rfl)(hd:Nat.blt d n=true:=by rfl):
  WL Tryz.prog n ops Q (⟨some d,.call { callee:=.builtin .append,args:=#[x,y],argTypes:=#[72,72] },ty,pos,aft,none⟩::rest) al w:=by
 refine apb (m':=1) (news:=cs) EBk ho.own (hb.rd (n:=1) (by rw[hΦ.len])) hΦ.one (by unfold maxLen;omega) om hbase ?_ hx hy hd;intro v' w' o u hn;refine kk v' w' ⟨?_,?_⟩ u
 .rw[List.length_append,List.length_singleton];have e:Ql (ps++[(cs,bt)])=Ql ps++cs:=by simp[Ql]
  rw[e];exact o
 have key:∀ p:List Value×BkT,BkE dir (Xq base v) w p.1 p.2->BkE dir (Xq base v') w' p.1 p.2:=λp j=>by
  have D:BkE dir (λk=>Xq base v k∨Xq base v' k) w p.1 p.2:=j.old λk i=>by
   rcases i with h|h|h
   .exact .inl h
   .exact .inl (.inl h)
   rcases hn k h with h'|h'
   .exact .inl (.inr h')
   exact .inr h'
  exact(D.gr (GrN.by u λk i=>.inl (.inr i))).old λk i=>.inl (.inr i)
 intro p C;rcases List.mem_append.1 C with j|j
 .exact key p (ho.el p j)
 rw[List.mem_singleton.1 j];exact key (cs,bt) hΦ
theorem Xjg(hl:∀ p∈ps,p.1.length=3)(kv x1 x2 y1 y2:Value)(b b':BkT):
  (Ql (ps++[([kv,x1,x2],b)])).take (ps.length*3+1)++[y1,y2]++(Ql (ps++[([kv,x1,x2],b)])).drop (ps.length*3+1+2)=Ql (ps++[([kv,y1,y2],b')]):=by
 have e:∀ z:List Value×BkT,Ql (ps++[z])=Ql ps++z.1:=λz=>by simp[Ql]
 have i:=Jlf hl;grind [Ql,kv,List.take_append,List.take_of_length_le,Nat.add_sub_cancel_left,List.drop_of_length_le]
theorem Qdz(h0:wt x≠0)(h1:¬ (bs.getLast?.map (·.1))=some (x.take m)): Pl.stepG d wt m bs x=bs++[(x.take m,Tr.put d (x.getD m V0) (wt x) .nil)]:=by
 rw[Pl.stepG,if_neg h0,if_neg h1]
theorem Qfb{t:Tr}(h0:wt x≠0): Pl.stepG d wt m (i++[(x.take m,t)]) x=i++[(x.take m,Tr.put d (x.getD m V0) (wt x) t)]:=by
 rw[Pl.stepG,if_neg h0,if_pos (by simp)];simp
theorem Qdx(h0:wt x=0): Pl.stepG d wt m bs x=bs:=by rw[Pl.stepG,if_pos h0]
def Ve(d:Bool)(wt:Row->Nat)(m:Nat)(rs:List Row): List BkT:=rs.foldl (Pl.stepG d wt m) []
theorem Jcc(d:Bool)(wt:Row->Nat)(m:Nat)(rs:List Row)(x:Row): Ve d wt m (rs++[x])=Pl.stepG d wt m (Ve d wt m rs) x:=by grind [Ve]
theorem Jvb{rs:List Row}(hs:Lt [] rs)(hl:∀ y∈rs,y.length=m+1): GInv d wt m rs (Ve d wt m rs):=by
 suffices h:∀ k,k<=rs.length->GInv d wt m (rs.take k) (Ve d wt m (rs.take k)) by
  have:=h rs.length (nR _);rw[List.take_length]at this;exact this
 intro k;induction k with
 | zero=>intro _;exact GInv.nil d wt m
 | succ k ih=>
  intro i;have e:=Qr [] (show k<rs.length by omega);rw[e,Jcc];refine(ih om).step ?_ ?_
  .rw[<-e];exact hs.sublist (List.take_sublist _ _)
  repeat grind
def Gw(bs:List BkT)(k:Row): Nat:=match bs.find? λb=>decide (b.1=k) with
 | some b=>b.2.sum
 | none=>0
theorem Jdp(bs:List BkT)(k:Row): Gw bs k=tot (entK bs k):=by
 unfold Gw entK;cases bs.find? λb=>decide (b.1=k) with
 | some b=>exact Tr.sum_eq _
 | none=>rfl
end Go.Proofs.YtgobkbeokaaplaaGreatDoor
namespace Go.Wk
variable {d n t ty:Nat}
theorem dalc'{P:Program}{al:AL}{w:World}{Q:Exit->Act->World->Prop}{ops:Array Oper}{drest:List (Nat×Oper)}{pos:String}{aft:Array Edge}{z:Value}{cs:List Value}(hz:Qt P t=some z)(kk:∀ w1 b,Ext w w1->w.heap.size<=b->Blk w1 b t cs->WD P n ops Q drest ((d,.pointer (some ⟨b,0,none⟩))::al) w1)(hv:z.cells=cs.toArray:=by rfl)(hd:Nat.blt d n=true:=by rfl):
  WD P n ops Q ((1,⟨some d,.alloc t,ty,pos,aft,none⟩)::drest) al w:=by grind [Gf,alc,Jf,Gd]
end Go.Wk
namespace Go.Proofs.YtgobkbeokaaplaaGreatDoor
open Go.RowKit Pl Go.Wk _root_.Go.Proofs.Tryz
attribute [local irreducible] WC WL QX WD WDB WP WN WG
variable {d:Bool}{S e k m n:Nat}{AR N:Nat->Prop}{Av Pv v vR:Value}{w wF:World}
theorem Qwl(kv:Value)(A:Option Addr)(n c:Nat)(d:Bool)(p:Option Addr)(h:kv=.slice A n c)(w:World): (Instr.build 78 #[(0,kv),(1,.agg #[.bool d,.pointer p])]).run prog w=.ok (.agg [kv,.bool d,.pointer p].toArray) w:=by subst h;kernel_rfl
theorem Qwg(kv:Value)(A:Option Addr)(n c:Nat)(d:Bool)(p:Option Addr)(h:kv=.slice A n c)(w:World): (Instr.buildSlice 72 1 #[(0,.agg [kv,.bool d,.pointer p].toArray)]).run prog w=.ok (.slice (some ⟨w.heap.size,0,none⟩) 1 1) (w.alloc (.cells [kv,.bool d,.pointer p].toArray 78)):=by subst h;kernel_rfl
def DnB(AR:Nat->Prop)(d:Bool)(w:World)(x:Value)(bs:List BkT): Prop:=∃(ps:List (List Value×BkT)) (A:Option Addr) (c:Nat),bs=ps.map (·.2)/\x=.slice A ps.length c/\ps.length<=c/\ps.length<=65536/\Rd w 3 A ps.length (Ql ps)/\(0<ps.length->∀ ad,A=some ad->¬ AR ad.block)/\∀ p∈ps,p.1.length=3/\BkE d AR w p.1 p.2
theorem DnB.gr{AR:Nat->Prop}{d:Bool}{w w':World}{x:Value}{bs:List BkT}(h:DnB AR d w x bs)(hg:GrN AR w w'): DnB AR d w' x bs:=by
 obtain⟨ps,A,c,J,G,D,C,u,o,j⟩:=h;refine⟨ps,A,c,J,G,D,C,Vs u hg λh0 O e=>o ?_ O e,o,λp i=>⟨(j p i).1,(j p i).2.gr hg⟩⟩;have:=u.1;omega
theorem Nb.big(hS:S<=4294967296^e)(he:e<=800)(hk:k<=4294967296)(hn:n<=k*S): Nb n:=by
 have i:k*S<=4294967296^(e+1):=by
  rw[Nat.pow_succ,Nat.mul_comm];exact Nat.mul_le_mul hS hk
 exact Nat.lt_of_le_of_lt (nL hn i) (Nat.pow_lt_pow_right (by decide) (by rw[Jmn];omega))
theorem Jfn(x:Row)(h:m<=x.length): (Jr x).take (m*3)=Jr (x.take m):=by grind [Jr,rowC_app',List.take_append_drop,List.take_left',Jfp,List.length_take,Nat.min_eq_left]
theorem Jdm{p:Value}{t:Tr}(h:TrV N w t p)(hn:Nb t.sum): Ret prog 134 [.agg #[.bool d,p]] w λu w'=>NatV w' u t.sum/\Fresh w u/\Ext w w':=by
 obtain⟨q,rfl⟩:=h.ptr;refine enE func134 ntmps134 ?_;refine bxR ?_;intro w1 b j hb J;refine ldR (J.at (i:=1) rfl) ?_;refine clR (Jxm (h.ext j)) ?_;rintro u Z ⟨G,rfl⟩;refine clR (Jgs G.1 hn.len) ?_;rintro u3 U ⟨C,D,o⟩;refine ρ ?_;exact Jj ⟨C,λO m c e=>nL j.size (D O m c e),j.trans o⟩
theorem Jcz: Qt prog 78=some (.agg #[.slice none 0 0,.bool false,.pointer none]):=kr
theorem Jbh{p:Option Addr}(h:v.oneCell'=true): ∀ u∈[v,.bool d,.pointer p],u.oneCell'=true:=λu i=>by
 simp only[List.mem_cons,List.not_mem_nil,or_false]at i;rcases i with rfl|rfl|rfl
 .exact h
 .rfl
 rfl
theorem Qdc(bs:List BkT)(b:BkT)(k:Row)(h:b.1 ∉ bs.map (·.1)): Gw (bs++[b]) k=if b.1=k then b.2.sum else Gw bs k:=by grind [Gw,List.find?_eq_none.2,List.mem_map.2]
theorem Qcz{wt:Row->Nat}{rs:List Row}{bs:List BkT}(h:GInv d wt m rs bs){b:BkT}(hb:b∈bs): 0<b.2.sum:=by
 obtain⟨u,o⟩:=h.con b hb;rw[Tr.sum_eq,u,Jch];exact(Qcw λp i=>by obtain⟨x,_,_,_,_,j⟩:=entL_mem.1 i;exact j).2 o
theorem Qtw{B0 f b v cb cv ct ck dc:Nat}{kf:Nat->Nat}{pf:Nat->Int}{R:Nat->List Row}{BA VA TA KA DA:Option Addr}{va ta ba:List Value}{ds:List Bool}{T:Nat->Row->Nat}(hF:FixW B0 n f kf pf R vR BA wF)(hds:ds.length=f)(hD:RdB wF DA ds)(hW:BldW wF b n (bCs n f (.slice DA f dc) Pv Av BA cb vR VA cv TA ct (.slice KA f ck)) VA cv TA ct w va ta)(hBa:w.ownsRow wF.heap.size 72 1 (.slice KA f ck) f ba)(hvf:v<f)(hm:0<(bk (kf v ||| 2^v) 32).length)(hval:∀ x∈R v,Xg (x.getD ((bk (kf v ||| 2^v) 32).length-1) V0)=true)(hlt:Lt [] (R v))(hdv:∀ c,c<n->pf c=(v:Int)->f<=c->DnV AR (T c) w (va.getD c (.map none)))(hdt:∀ c,c<n->pf c=(v:Int)->c<f->DnT AR (T c) w (ta.getD c (.map none)))(hT1:∀ c,f<=c->∀ k,T c k<=1)(hTb:∀ c k,T c k<=4294967296^20)(hAR:∀ k,ARk n f VA cv TA ct (.slice KA f ck) k->AR k)(hARl:∀ k,AR k->k<w.heap.size):
  Ret prog 76 [.pointer (some ⟨b,0,none⟩),.int .i64 (v:Int)] w λu w'=>u=.int .i64 0/\∃ mv lv,BldW wF b n (bCs n f (.slice DA f dc) Pv Av BA cb vR VA cv TA ct (.slice KA f ck)) VA cv TA ct w' va (ta.set v mv)/\w'.ownsRow wF.heap.size 72 1 (.slice KA f ck) f (ba.set v lv) /\
   GrN AR w w'/\DnT AR (Gw (Ve (ds.getD v false) (λx=>wtL T x (chK kf pf v n)) ((bk (kf v ||| 2^v) 32).length-1) (R v))) w' mv /\
   DnB AR (ds.getD v false) w' lv (Ve (ds.getD v false) (λx=>wtL T x (chK kf pf v n)) ((bk (kf v ||| 2^v) 32).length-1) (R v)):=by
 obtain⟨e7,hB,fb,ap⟩:=hW;have em:=hF.n32;have j0:=hF.fn;have hv:v<n:=om
 have ha:Rd wF 1 DA f (ds.map Value.bool):=hds ▸ hD;refine enE func76 ntmps76 ?_;refine ldR (hB.at (i:=8) rfl) ?_;refine ρ ?_;refine mkm 9 ?_;intro w1 mb a2 gk hM;obtain⟨s1,s2,s3,s4,s5⟩:=Zm (Jk ap a2) (q:=v) om (.map (some mb));have im:ta.length=n:=by have:=ap.1;omega
 refine ixR v (Rd.own (Jk ap a2)) om ?_;refine Xk (s1.trans (show ta[v]?=some (ta.getD v (.map none)) by simp[List.getD,List.getElem?_eq_getElem (show v<ta.length by omega)])) s2 ?_;refine ρ ?_;obtain⟨w2,ee⟩:∃ w2,w2=w1.setCell (adr TA v) (.map (some mb)):=⟨_,rfl⟩;rw[<-ee]at s3 s5 ⊢;clear ee;have g5:∀ g,(Value.slice VA n cv).ownBlock=some g->wF.heap.size<=g/\g<w.heap.size:=(Jv fb).choose_spec.choose_spec.2.2;have cr:∀ g,(Value.slice TA n ct).ownBlock=some g->wF.heap.size<=g/\g<w.heap.size:=(Jv ap).choose_spec.choose_spec.2.2;have dw:∀ g,(Value.slice KA f ck).ownBlock=some g->wF.heap.size<=g/\g<w.heap.size:=(Jv hBa).choose_spec.choose_spec.2.2;have i2:=a2.size;have i8:=hM.lt;have dk:Blk w2 b 159 _:=(hB.ext a2).grown s5 ((hB.ext a2).ne_own (Jk ap a2) rfl);have cm:w2.ownsRow wF.heap.size 213 1 (.slice VA n cv) n va:=Zn (Jk fb a2) (Jk ap a2) s5 rfl
 have fo:w2.ownsRow wF.heap.size 72 1 (.slice KA f ck) f ba:=Zn (Jk hBa a2) (Jk ap a2) s5 rfl;have fk:MapS prog 9 w2 mb 0 (λ_=>none):=hM.kept s5 (λe=>by have:=(cr mb e.symm).2;omega);have f2:GrN AR w w2:=(GrN.ext a2).trans (GrN.by s5 λk C=>hAR k (.inr (.inl C)));have af:Ext wF w2:=Qh (e7.trans a2) s5 λk C=>(cr k C).1;have gl:wF.heap.size<=mb:=nL e7.size gk;have i7:=fk.lt;obtain⟨RA,rc,ii,fw,gf,ge,ff,h5⟩:=hF.rels.parts;rw[List.length_map,List.length_range]at fw gf ge ff;obtain⟨re,i3,⟨t,hw,dm⟩,bz⟩:=h5 v (by simpa using hv);subst hw;simp only[List.getElem_map,List.getElem_range]at dm;obtain⟨⟨PA,pc,fz,ir,iq,ip⟩,fy,g3⟩:=id dm;obtain⟨t1,t2,t3⟩:=t;simp only[Yl]at fz fy;subst fz;subst fy;have ek:(nz (bk (kf v ||| 2^v) 32)).length=(bk (kf v ||| 2^v) 32).length:=Qg _;subst fw;refine cl (Qkt (R:=R) dk rfl rfl (hF.bags.ext af) (hF.rels.ext af λcs a h=>Jmr h af) em hv hF.kb) ?_
 rintro vl w3 ⟨h9,d1⟩;have b6:=af.trans d1;have hh:=dk.ext d1;have d5:∀ j u,([.int .i64 ((bk (kf v ||| 2^v) 32).length:Int),t3]:List Value)[j]?=some u->w3.cell? (((adr RA (v*3)).add 1).add j)=some u:=λj u hu=>by
  have:=bz (1+j) u (by rw[Nat.add_comm];exact hu);rw[Xt]at this;rw[Xt,Xt,Nat.add_assoc];exact Gh b6 this
 refine ldR (hh.at (i:=6) rfl) ?_;refine Qs 3 v (ff.ext b6) hv ?_;refine Jt (cs:=[.int .i64 ((bk (kf v ||| 2^v) 32).length:Int),t3]) d5 ?_;refine clR (Jft (ar:=(bk (kf v ||| 2^v) 32).length) (ls:=R v) ((dm.ext b6).rel)) ?_;rintro ur w5 ⟨ea,bw⟩;obtain⟨ps,GA,gc,dq,rfl,iy,i5,ei,d4⟩:=bw;have d8:(R v).length=ps.length:=by rw[dq,List.length_map]
 have io:=hF.rlen v hv;have Z:=d1.trans ea;have d6:=ei.here;have av:∀ p∈ps,RowV w5 p.1 p.2:=λp hp=>(d4 p hp).here;have c2:=dk.ext Z;have aq:=af.trans Z;have h8:=h9.ext ea;have di:=fk.ext Z;have eh:∀ c,c≠v->(ta.set v (.map (some mb))).getD c (.map none)=ta.getD c (.map none):=λc hc=>by simp[List.getD,List.getElem?_set_ne (Ne.symm hc)]
 have gj:∀ c,c<n->pf c=(v:Int)->c≠v:=λc hc hp e=>hF.pn c hc (by rw[hp,e]);have ch:GrN AR w w5:=f2.trans (GrN.ext Z);have bi:=ch;obtain⟨d,hd⟩:∃ d,d=ds.getD v false:=⟨_,rfl⟩;obtain⟨m,c0⟩:∃ m,m=(bk (kf v ||| 2^v) 32).length-1:=⟨_,rfl⟩;obtain⟨wt,d2⟩:∃ wt:Row->Nat,wt=λx=>wtL T x (chK kf pf v n):=⟨_,rfl⟩;rw[<-hd,<-c0,<-d2];rw[<-c0]at hval;obtain⟨S,hS⟩:∃ S:Nat,S=(4294967296^20)^32:=⟨_,rfl⟩;obtain⟨e,he,fd⟩:∃ e,e<=800/\S<=4294967296^e:=⟨20*32,om,by rw[hS,<-Nat.pow_mul];exact nR _⟩;have eb:∀ x,wt x<=S:=λx=>by
  rw[d2,hS];refine nL (Jdc λp hp=>hTb _ _) (Nat.pow_le_pow_right (Nat.pow_pos (by decide)) ?_);have:=Jkd kf pf v n;omega
 refine ρ ?_;refine Jo (fun (i:Nat) (vb:Value)=>[(0,.pointer (some ⟨b,0,none⟩)),(1,.int .i64 (v:Int)),(5,vl),(6,vb),(34,.slice GA ps.length gc),(35,.int .i64 (ps.length:Int)),(36,.int .i64 (i:Int))])
  (λi vb w'=>i<=ps.length/\Ext w5 w'/\∃ G,OwnB d w5.heap.size w' vb G/\G.map (·.2)=Ve d wt m ((R v).take i)/\G.length<=i/\∀ q∈G,q.2.2.sum<=i*S/\q.2.2.sz<=i) (λi _=>ps.length-i) 0 (.slice none 0 0) sB
  ⟨Nat.zero_le _,Ext.refl _,[],OwnB.nil _ _ _,rfl,Nat.le_refl _,λq hq=>by cases hq⟩ ?_
 clear hS;rintro i vb w6 ⟨hi,D,G,ak,aa,gg,b2⟩;obtain⟨LA,lc,rfl,gm,an⟩:=ak.form;refine ciR (λh=>?_) (λh=>?_)
 .have li:i<ps.length:=by have:=oT h;omega
  clear h;obtain⟨x,bt⟩:∃ x,x=(ps.getD i z0).2:=⟨_,rfl⟩;have e0:x∈R v:=by rw[dq,bt];exact List.mem_map_of_mem (getD_mem' z0 ps li)
  have g9:(R v).getD i []=x:=by rw[dq,bt];simp[List.getD,List.getElem?_eq_getElem li]
  obtain⟨e2,cw⟩:=hF.rows v hv x e0;have bd:RowV w6 (ps.getD i z0).1 x:=by rw[bt];exact(av _ (getD_mem' z0 ps li)).ext D
  have c9:=d6.ext D;have b5:=aq.trans D;have cc:=ch.trans (GrN.ext D);have h7:GV 2 ChG w6 vl (chK kf pf v n):=(h8.ext D).gv (by have:=Jkd kf pf v n;omega);have bv:=Qr [] (show i<(R v).length by omega);rw[g9]at bv;refine ixR i c9 li ?_;refine ldR (c9.cell (show(ps.map (·.1))[i]?=some (ps.getD i z0).1 by simp[List.getD,List.getElem?_eq_getElem li])) ?_
  refine clR (Jpg (T:=T) (AR:=AR) (hF.tb.ext b5) (c2.ext D) rfl rfl rfl (Rd.own (Jk cm (Z.trans D))) (Rd.own (Jk s3 (Z.trans D))) h7 (by have:=Jkd kf pf v n;omega) (λp hp=>?_) bd cw (λp hp bf=>?_) (λp hp bf=>?_) (λp hp bf k=>hT1 _ bf k) (λp hp k=>hTb _ k)) ?_
  .obtain⟨J,h2,h3⟩:=Jqj hp;refine⟨J,λc hc=>?_⟩;rw[h3]at hc;rw[e2];exact Jkb hc
  .obtain⟨J,h2,h3⟩:=Jqj hp;exact(hdv _ J h2 bf).gr cc
  .obtain⟨J,h2,h3⟩:=Jqj hp;rw[eh _ (gj _ J h2)];exact(hdt _ J h2 bf).gr cc
  rintro vw w7 ⟨d3,f3,b1⟩;have hs:wtL T x (chK kf pf v n)=wt x:=by rw[d2]
  rw[hs]at d3;obtain⟨WA,wc,rfl,b9⟩:=Jhf d3;refine ciR (λh=>?_) (λh=>?_)
  .have h0:wt x=0:=by
    have:=Zx h;rcases Nat.eq_zero_or_pos (wt x) with h'|h'
    .exact h'
    have:=b9.2 h';omega
   refine ρ ?_;refine Jl (i+1) _ sO ⟨li,D.trans b1,G,ak.ext b1,?_,om,λq hq=>⟨?_,by have:=(b2 q hq).2;omega⟩⟩ om
   .rw[bv,Jcc,Qdx h0];exact aa
   have:=(b2 q hq).1;rw[Nat.succ_mul];omega
  have h0:wt x≠0:=λe=>by(have:=Xu h;have J:¬ 0<(Jq (wt x)).length:=λh'=>by have:=b9.1 h';omega);(omega)
  clear h;obtain⟨XA,xc,fu,il,i0,ga⟩:=id bd;have iu:x.length=m+1:=by rw[e2,c0];omega
  rw[fu];have da:RdR w7 XA (x.take m):=by
   have J:=(Rd.ext ga b1).take (m:=m) om;have h2:(Jr x).take (m*3)=Jr (x.take m):=Jfn x om;rw[h2]at J;have h3:(x.take m).length=m:=by rw[List.length_take];omega
   unfold RdR;rw[h3];exact J
  have bh:RowV w7 (.slice XA m xc) (x.take m):=⟨XA,xc,by rw[List.length_take,Nat.min_eq_left om],by rw[List.length_take];omega,by rw[List.length_take];omega,da⟩;have c8:=D.trans b1;have aj:=ak.ext b1;refine ρ ?_;refine slh m ?_;refine ρ ?_;refine Jpc (fun (bb:Bool) (_:Unit)=>[(66,.bool bb),(0,.pointer (some ⟨b,0,none⟩)),(1,.int .i64 (v:Int)),(5,vl),(6,.slice LA G.length lc),(8,.slice XA x.length xc),(9,.slice WA (Jq (wt x)).length wc),(10,.slice XA m xc),(34,.slice GA ps.length gc),(35,.int .i64 (ps.length:Int)),(36,.int .i64 (i:Int))])
   (λbb _ w'=>Ext w7 w'/\(bb=true↔¬ (G.getLast?.map (·.2.1))=some (x.take m))) ?_ ?_
  .refine ki 55 (λh=>?_) (λh=>?_)
   .have gh:G=[]:=List.eq_nil_of_length_eq_zero (by have:=Zx h;omega);refine ρ ?_;refine Vc true () sB ⟨Ext.refl _,?_⟩;rw[gh];simp
   have d7:G≠[]:=λe=>by have:=Xu h;rw[e]at this;simp at this
   obtain⟨o,z,ez,dn,_⟩:=Jcf d7;have ae:z∈G:=by rw[ez];simp
   obtain⟨kv,zq,b3,bs,b4⟩:=aj.el z ae;have i4:G.length=o.length+1:=by rw[ez];simp
   have g6:(Ql G)[(o.length)*3+0]?=some kv:=by
    rw[Iu (p:=z) (λp hp=>(aj.el p hp).len) (by rw[ez];simp) om,b3];rfl
   have ej:=Rd.own aj.own;refine Qs 3 o.length ej om ?_;refine ldR (by have:=ej.cell g6;rw[<-Xt]at this;exact this) ?_;refine clR (Jyw bs.v bh) ?_;rintro u w8 ⟨rfl,cx⟩;refine ρ ?_;refine Vc (!decide (z.2.1=x.take m)) () sB ⟨cx,?_⟩;rw[dn];simp
  rintro bb _ w8 ⟨a5,f6⟩;refine Zy (λs:((List (List Value×BkT))×Value×Option Addr×Tr)×Value=>[(0,.pointer (some ⟨b,0,none⟩)),(1,.int .i64 (v:Int)),(5,vl),(6,s.2),(8,.slice XA x.length xc),(9,.slice WA (Jq (wt x)).length wc),(10,.slice XA m xc),(34,.slice GA ps.length gc),(35,.int .i64 (ps.length:Int)),(36,.int .i64 (i:Int))])
   (λs w'=>Ext w5 w'/\GrN (λk=>Xq w5.heap.size (.slice LA G.length lc) k/\w5.heap.size<=k) w7 w'/\OwnB d w5.heap.size w' s.2 (s.1.1++[([s.1.2.1,.bool d,.pointer s.1.2.2.1],(x.take m,s.1.2.2.2))])/\Ve d wt m ((R v).take (i+1))=s.1.1.map (·.2)++[(x.take m,Tr.put d (x.getD m V0) (wt x) s.1.2.2.2)]/\s.1.1.length<=i/\s.1.2.2.2.sum<=i*S/\s.1.2.2.2.sz<=i/\∀ q∈s.1.1,q.2.2.sum<=i*S/\q.2.2.sz<=i) ?_ ?_
  .have bn:=aj.ext a5;refine ci (λh=>?_) (λh=>?_)
   .have ek:=f6.1 h;have a7:=c8.trans a5;have a3:Ext w8 w8.drew:=(Ext.refl w8).drew;have hb:=(c2.ext a7).ext a3;have e6:=(aq.trans a7).trans a3;have gy:¬ w5.heap.size<=b:=by have:=c2.lt;omega
    refine ρ ?_;refine drN (λk=>w5.heap.size<=k) 10 [(0,0),(0,1),(0,3),(0,4),(0,5),(0,6),(0,7),(0,8),(0,9),(0,10),(1,2),(1,11),(0,12),(1,13),(1,14),(0,15)] kr ?_;refine ρn ?_;refine nld (Js (hb.at (i:=2) rfl) gy) ?_;refine ρn ?_;refine nix v (Rd.ext ha e6) om ?_;refine ρn ?_;refine nld (λw' hg=>Gh (aq.trans (hg.old (a7.trans a3) λk C=>C)) (RdB.cell hD (show v<ds.length by omega))) ?_;refine ρn ?_;refine nop ?_;refine cl (Ua ((bh.ext a5).ext a3) (Xq w5.heap.size (.slice LA G.length lc)) λk C=>?_) ?_
    .rcases C with h'|h'
     .exact nM h' (a7.trans a3).size
     exact nM (an k h').2 ((b1.trans a5).trans a3).size
    rintro kv w9 ⟨er,bu⟩;obtain⟨am,ac,rfl,_⟩:=id er;refine ρ ?_;refine Je (GrN.ext bu) ?_;refine ρn ?_;refine nop ?_;refine cl Qnz ?_;rintro u g4 ⟨rfl,a1⟩;refine ρ ?_;refine Je (GrN.ext a1) ?_;rw[<-hd];refine ρn ?_;refine Jqh (Qwl _ am _ ac d none rfl) ?_;refine ρn ?_;refine nop ?_;refine bsl (Qwg _ am _ ac d none rfl) ?_;intro br j2 a8 ie ft;refine ρ ?_;refine Je (GrN.ext a8) ?_;refine ρn ?_;refine nop ?_;have au:Ext w8 br:=((a3.trans bu).trans a1).trans a8;have eo:BkE d (Xq w5.heap.size (.slice LA G.length lc)) br [.slice am (x.take m).length ac,.bool d,.pointer none] (x.take m,.nil):=⟨_,_,rfl,(er.ext a1).ext a8,rfl⟩;refine apB (bn.ext au) ft eo om (a7.trans au).size ?_;intro du bq fh ag;refine ρ ?_;refine Je (GrN.by ag λg eg=>(an g eg).1) ?_;refine ρn ?_;refine ρ ?_;refine Jd ((G,.slice am (x.take m).length ac,none,.nil),du) sB ⟨?_,?_,fh,?_,gg,by simp[Tr.sum],by simp[Tr.sz],b2⟩
    .exact Qh (a7.trans au) ag λg eg=>(an g eg).1
    .exact(GrN.ext (a5.trans au)).trans (GrN.by ag λg eg=>⟨.inr eg,(an g eg).1⟩)
    rw[bv,Jcc,<-aa];exact Qdz h0 (by rw[List.getLast?_map];simpa [Option.map_map] using ek)
   have hl:(G.getLast?.map (·.2.1))=some (x.take m):=Classical.byContradiction λh'=>by rw[f6.2 h']at h;cases h
   have d7:G≠[]:=λe=>by rw[e]at hl;cases hl
   obtain⟨o,z,ez,dn,_⟩:=Jcf d7;rw[dn]at hl;have dz:z.2.1=x.take m:=by simpa using hl
   have ae:z∈G:=by rw[ez];simp
   obtain⟨kv,zq,b3,bs,b4⟩:=bn.el z ae;obtain⟨zp,rfl⟩:=b4.ptr;obtain⟨zc,zk,zt⟩:=z;simp only at b3 dz;subst b3;subst dz;have f9:=b2 _ ae;refine ρ ?_;refine Jd ((o,kv,zp,zt),.slice LA G.length lc) sB ⟨c8.trans a5,GrN.ext a5,by rw[<-ez];exact bn,?_,?_,f9.1,f9.2,λq hq=>b2 q (by rw[ez];simp[hq])⟩
   .rw[bv,Jcc,<-aa,ez,List.map_append];exact Qfb h0
   have:G.length=o.length+1:=by rw[ez];simp
   simp only;omega
  rintro⟨⟨o,kv,q,t⟩,du⟩ w9 ⟨b8,ey,ai,ex,gs,gd,gb,eu⟩;simp only at ai ex gs gd gb eu;obtain⟨LB,lb,rfl,gn,aw⟩:=ai.form;have ab:(o++[([kv,.bool d,.pointer q],(x.take m,t))]).length=o.length+1:=by simp
  rw[ab]at gn aw ⊢;have ax:=ai.own;rw[ab]at ax;refine Qs 3 o.length (Rd.own ax) om ?_;refine ρ ?_;have U:Ext w9 w9.drew:=(Ext.refl w9).drew;have b7:=b8.trans U;have ig:=ai.ext U;have dg:=Jk ax U;have g8:RowV w9.drew (.slice XA x.length xc) x:=by
   have:=(av _ (getD_mem' z0 ps li)).ext b7;rw[<-bt,fu]at this;exact this
  obtain⟨j3,ih,hr,_,_,c4⟩:=id g8;injection hr with exx1 _ exx2
  subst exx1;subst exx2;have f5:BkE d (Xq w5.heap.size (.slice LB (o.length+1) lb)) w9 [kv,.bool d,.pointer q] (x.take m,t):=by
   have:=ai.el ([kv,.bool d,.pointer q],(x.take m,t)) (by simp);rw[ab]at this;exact this
  obtain⟨ik,q',g2,eo,ef⟩:=id f5;simp only[List.cons.injEq,and_true,true_and]at g2;obtain⟨g1,g0⟩:=g2;subst g1;subst g0;have d9:∀ j u,([.bool d,.pointer q]:List Value)[j]?=some u->w9.drew.cell? (((adr LB (o.length*3)).add 1).add j)=some u:=λj u hu=>by
   have iw:j<2:=(List.getElem?_eq_some_iff.1 hu).1;have J:(Ql (o++[([kv,.bool d,.pointer q],(x.take m,t))]))[o.length*3+(1+j)]?=some u:=by
    rw[Iu (p:=([kv,.bool d,.pointer q],(x.take m,t))) (λp hp=>(ai.el p hp).len) (by simp) om,Nat.add_comm 1 j];exact hu
   have:=(Rd.own dg).cell J;rw[Xt,Xt,Nat.add_assoc];exact this
  have ec:NatV w9.drew (.slice WA (Jq (wt x)).length wc) (wt x):=by
   have J:NatX (λk=>Xq w5.heap.size (.slice LA G.length lc) k/\w5.heap.size<=k) w7 (.slice WA (Jq (wt x)).length wc) (wt x):=f3.x d3 λk C=>by
    rcases C.1 with h'|h'
    .have:=D.size;omega
    exact(an k h').2
   exact(J.gr ey).1.ext U
  have bc:Xg (x.getD m V0)=true:=hval x e0;have ca:Nb (t.sum+wt x):=Nb.big (k:=i+1) fd he om (by have:=eb x;rw[Nat.succ_mul];omega);have dv:t.sz+1<=1000000:=om
  have bg:∀ k,Xq w5.heap.size (.slice LB (o.length+1) lb) k->k<w9.heap.size:=λk C=>by
   rcases C with h'|h'
   .exact nM h' b8.size
   exact(aw k h').2
  refine drH (λi=>Nat.ble 16 i) ?_;refine Zo (fuel':=7) 8 [(0,0),(0,1),(0,2),(0,3),(0,4),(0,5),(0,6),(0,7),(0,8),(0,9),(0,10)] #[true,true,true,true,true,true,true,true,true,true,true,false,false,false,false,false,false,false] kr kr rfl ?_;refine Qn (cs:=[.bool d,.pointer q]) d9 ?_;refine Ka 3 m c4 om ?_;refine Qn (cs:=(x.getD m V0).cells) (λj u hu=>RdR.cell c4 om hu) ?_;refine ρd ?_;refine Xy ?_;refine Jwz 2 (lst 18 16) (fun (y:Nat×Option Addr)=>[(12,.pointer (some ⟨y.1,0,none⟩)),(100,.agg #[.bool d,.pointer y.2]),(101,.int .i64 0),(0,.pointer (some ⟨b,0,none⟩)),(1,.int .i64 (v:Int)),(5,vl),(6,.slice LB (o.length+1) lb),(11,.pointer (some (adr LB (o.length*3)))),(34,.slice GA ps.length gc),(35,.int .i64 (ps.length:Int)),(36,.int .i64 (i:Int))])
   (λy W=>Ext w9.drew W/\Blk W y.1 76 [.bool false,.pointer none]/\w9.drew.heap.size<=y.1/\TrV (λk=>Xq w5.heap.size (.slice LB (o.length+1) lb) k∨k=y.1) W (Tr.put d (x.getD m V0) (wt x) t) (.pointer y.2)) ?_ ?_
  .rintro⟨dt,p2⟩ W ⟨e5,fq,f7,fc⟩;simp only at fq f7 fc;refine Zo (fuel':=0) 8 [(2,16),(2,17)] (lst 18 18) kr kr rfl ?_;refine Qj ?_;refine stW fq ?_;intro W2 fp ce i1;refine Jf (Qo ?_);refine Qj ?_;refine ρ ?_;refine Qo ?_;refine Zf (Xy ?_);refine Uf kr ?_;refine ρ ?_;have d0:Ext w5 W:=b7.trans e5;have c6:Ext w9 W:=U.trans e5;have e8:w9.heap.size<=dt:=nL U.size f7;have ao:GrN (λk=>k=dt) W W2:=GrN.by ce λk C=>by injection C with C;exact C.symm
   have fg:W2.ownsRow w5.heap.size 78 3 (.slice LB (o.length+1) lb) (o.length+1) (Ql (o++[([kv,.bool d,.pointer q],(x.take m,t))])):=Ja (Jk ax c6) ao λg eg e=>by have:=(aw g eg).2;omega
   refine Qy fp ?_;refine ρ ?_;refine Go.Wk.kv 108 (congrArg (λp=>Value.pointer (some p)) (Xt LB (o.length*3) 1)) ?_;refine stoG (q:=o.length*3+1) (cs:=[.bool d,.pointer p2]) fg (by simp;omega) (by simp) ?_ Qnh;intro W3 co cd;have db:∀ p∈o,p.1.length=3:=λp hp=>(ai.el p (by simp[hp])).len;have hx:=Xjg db kv (.bool d) (.pointer q) (.bool d) (.pointer p2) (x.take m,t) (x.take m,Tr.put d (x.getD m V0) (wt x) t);rw[show o.length*3+1+([Value.bool d,.pointer p2]:List Value).length=o.length*3+1+2 from rfl,hx]at co;have cz:Ext w5 W2:=Qh d0 ce λk C=>by injection C with C;have:=b8.size;omega
   have cy:Ext w5 W3:=Qh cz cd λk C=>(aw k C).1;have cg:GrN (λk=>Xq w5.heap.size (.slice LB (o.length+1) lb) k) W2 W3:=GrN.by cd λk C=>.inr C
   have cj:∀ p:List Value×BkT,BkE d (Xq w5.heap.size (.slice LB (o.length+1) lb)) w9 p.1 p.2->BkE d (Xq w5.heap.size (.slice LB (o.length+1) lb)) W3 p.1 p.2:=λp hp=>by
    have J:BkE d (λk=>Xq w5.heap.size (.slice LB (o.length+1) lb) k∨k=dt) w9 p.1 p.2:=hp.old λk C=>C.imp id λe=>by rw[e];exact e8
    exact(((J.ext c6).gr (ao.mono λk _ C=>.inr C)).old λk C=>.inl (.inl C)).gr cg
   refine ρ ?_;refine Jl (i+1) (.slice LB (o.length+1) lb) sO ⟨li,cy,o++[([kv,.bool d,.pointer p2],(x.take m,Tr.put d (x.getD m V0) (wt x) t))],⟨?_,λp hp=>?_⟩,?_,by simp;omega,λp hp=>?_⟩ om
   .have:(o++[([kv,Value.bool d,.pointer p2],(x.take m,Tr.put d (x.getD m V0) (wt x) t))]).length=o.length+1:=by simp
    rw[this];exact co
   .rcases List.mem_append.1 hp with J|J
    .have:=ai.el p (by simp[J]);rw[ab]at this;exact cj p this
    rw[List.mem_singleton.1 J];obtain⟨ij,q3,e3,et,_⟩:=cj ([kv,.bool d,.pointer q],(x.take m,t)) f5;simp only[List.cons.injEq,and_true,true_and]at e3;rw[<-e3.1]at et;exact⟨kv,.pointer p2,rfl,et,((fc.gr (ao.mono λk _ C=>.inr C)).old λk C=>.inl (.inl C)).gr cg⟩
   .rw[ex];simp
   rcases List.mem_append.1 hp with J|J
   .have:=eu p J;rw[Nat.succ_mul];omega
   rw[List.mem_singleton.1 J];have h2:=Jwh d (x.getD m V0) (wt x) t;have h3:=Tr.put_sz d (x.getD m V0) (wt x) t;have h4:=eb x;simp only;rw[Nat.succ_mul];omega
  intro rest;refine htwo 11 15 kr rfl rfl rfl ?_ ?_
  .refine clR (Jpz (ef.ext U) bc ec (λk C=>nM (bg k C) U.size) h0 ca dv) ?_;rintro u W ⟨q2,rfl,be,hy⟩;obtain⟨p2,rfl⟩:=be.ptr;refine Jf (Ip hy ?_);refine Zo (fuel':=4) 8 [(0,12),(0,13)] (lst 18 14) kr kr rfl ?_;refine ρd ?_;refine Xy ?_;refine Ud (fuel':=3) 14 kr kr rfl rfl ?_;refine ρp ?_;refine ρd ?_;refine Xy ?_;refine Zo (fuel':=2) 8 [(1,15)] (lst 18 16) kr kr rfl ?_;refine dalc' (cs:=[.bool false,.pointer none]) Vn ?_;intro W2 bp az ah ay;refine Zf (Xy ?_);exact rest (bp,p2) _ _ ⟨hy.trans az,ay,Nat.le_trans hy.size ah,(be.old λk C=>C.imp id λe=>by rw[e];exact ah).ext az⟩ sB
  refine Jb Vn ?_;intro W bp hy ah ay;refine Jf (Ip hy ?_);refine Zo (fuel':=3) 8 [(1,11),(0,12),(0,13)] #[true,true,true,true,true,true,true,true,true,true,true,true,true,true,false,true,false,false] kr kr rfl ?_;refine ρd ?_;have h6:∀ k,(Xq w5.heap.size (.slice LB (o.length+1) lb) k∨k=bp)->k<W.heap.size:=λk C=>by
   rcases C with h'|h'
   .exact nM (bg k h') (U.trans hy).size
   rw[h'];exact ay.lt
  refine dcl (Jpz (N:=λk=>Xq w5.heap.size (.slice LB (o.length+1) lb) k∨k=bp) (((ef.ext U).old λk C=>C.imp id λe=>by rw[e];exact ah).ext hy) bc (ec.ext hy) h6 h0 ca dv) ?_;rintro u W2 ⟨q2,rfl,be,az⟩;obtain⟨p2,rfl⟩:=be.ptr;refine⟨az,?_⟩;refine ρd ?_;refine Xy ?_;refine Ud (fuel':=2) 14 kr kr rfl rfl ?_;refine ρp ?_;refine ρd ?_;refine Xy ?_;refine hlist (listed':=lst 18 16) kr ?_;exact rest (bp,p2) _ _ ⟨hy.trans az,ay.ext az,ah,be⟩ sB
 have gu:i=ps.length:=by have:=oF h;omega
 clear h;rw[gu,<-d8,List.take_length]at aa;have dj:GInv d wt m (R v) (Ve d wt m (R v)):=Jvb hlt λy hy=>by rw[(hF.rows v hv y hy).1,c0];omega
 have b5:=aq.trans D;have ib:=(GrN.ext (N:=λk=>k=mb) (Z.trans D));have fj:=di.ext D;have i6:=fj.lt;have hf:=c2.ext D;have gz:=Jk s3 (Z.trans D);have en:∀ g,(Value.slice LA G.length lc).ownBlock=some g->¬ g=mb:=λg eg e=>by have:=(an g eg).1;have:=di.lt;omega
 have gx:¬ b=mb:=λe=>by have:=hB.lt;omega
 have dh:=di.lt;have ho:∀ k,(AR k∨k=mb)->k<w6.heap.size:=by
  rintro k (h'|h')
  .have:=hARl k h';have:=(bi.size);have:=D.size;omega
  omega
 refine ρ ?_;refine Zq (fun (j:Nat) (mc:Nat) (fm:Lit->Option Value)=>[(0,.pointer (some ⟨b,0,none⟩)),(1,.int .i64 (v:Int)),(6,.slice LA G.length lc),(110,.slice LA G.length lc),(111,.int .i64 (G.length:Int)),(112,.int .i64 (j:Int))])
  (λj mc fm w'=>j<=G.length/\GrN (λk=>k=mb) w6 w'/\MapS prog 9 w' mb mc fm/\mc<=j/\∀ k:Row,(fm (.string (idn k))=none/\Gw ((G.map (·.2)).take j) k=0)∨∃ y,fm (.string (idn k))=some y/\0<Gw ((G.map (·.2)).take j) k/\NatX (λk=>AR k∨k=mb) w' y (Gw ((G.map (·.2)).take j) k)) (λj _ _=>G.length-j) 0 0 (λ_=>none) sB
  ⟨Nat.zero_le _,GrN.refl _ _,fj,Nat.le_refl _,λk=>.inl ⟨rfl,rfl⟩⟩ ?_
 rintro j mc fm w7 ⟨hj,O,fi,iv,de⟩;have c1:=Jy hf O gx;have aj:=Ja ak.own O en;have fe:=Ja gz O λg eg e=>by have:=(cr g eg).2;omega
 have c5:Ext wF w7:=O.old b5 λk C=>by rw[C];exact gl
 refine ciR (λh=>?_) (λh=>?_)
 .have lj:j<G.length:=by have:=oT h;omega
  clear h;obtain⟨z,hz⟩:∃ z,z=G[j]:=⟨_,rfl⟩;have ae:z∈G:=by rw[hz];exact List.getElem_mem lj
  have dx:z.2∈Ve d wt m (R v):=by rw[<-aa];exact List.mem_map_of_mem ae
  have f4:=(ak.el z ae).gr (O.mono λk _ C=>.inl (by rw[C];exact dh));obtain⟨kv,zq,b3,bs,b4⟩:=id f4;obtain⟨zp,rfl⟩:=b4.ptr;obtain⟨am,ac,rfl,ia,i9,ep,_⟩:=id bs;have a6:FitR z.2.1:=by
   obtain⟨y,hy,e1,_⟩:=entL_ne.1 (dj.con z.2 dx).2;have:=(hF.rows v hv y hy).2;rw[<-e1];exact⟨by have:=this.1;rw[List.length_take];omega,λu hu=>this.2 u (List.mem_of_mem_take hu)⟩
  have df:∀ i u,([.slice am z.2.1.length ac,.bool d,.pointer zp]:List Value)[i]?=some u->w7.cell? ((adr LA (j*3)).add i)=some u:=λi u hu=>by
   have gt:i<3:=(List.getElem?_eq_some_iff.1 hu).1;rw[Xt];refine(Rd.own aj).cell ?_;rw[Iu (p:=z) (λp hp=>(ak.el p hp).len) (by rw[hz];exact gE lj) gt,b3];exact hu
  refine Qs 3 j (Rd.own aj) lj ?_;refine Jt (cs:=[.slice am z.2.1.length ac,.bool d,.pointer zp]) df ?_;refine Jb Jcz ?_;intro w8 j1 cx f8 fr;refine Qb (cs':=[.slice am z.2.1.length ac,.bool d,.pointer zp]) fr ?_ (Jbh rfl);intro w9 dl iz bu;have e9:Ext w7 w9:=bu w7 cx f8;have e4:Ext w9 w9.drew:=(Ext.refl w9).drew;have a4:=e9.trans e4;refine ρ ?_;refine drN (λ_=>False) 10 [(0,0),(0,1),(0,2),(0,3),(0,4),(0,5),(0,6),(0,7),(0,8),(0,10),(0,11),(1,9),(1,12),(2,13)] kr ?_;have cn:=Rd.own (Jk fe a4);have bo:=dl.ext e4;refine ρn ?_;refine nld (Js ((c1.ext a4).at (i:=8) rfl) (λe=>e)) ?_;refine ρn ?_;refine nix v cn hv ?_;refine ρn ?_;refine nld (Js (cn.cell (show(ta.set v (.map (some mb)))[v]?=some (.map (some mb)) by rw[List.getElem?_set_self om])) (λe=>e)) ?_;refine ρn ?_;refine nld (Js (bo.at (i:=0) rfl) (λe=>e)) ?_;refine ρn ?_;refine Xp (cs:=[.bool d,.pointer zp]) (λw' hg j u hu=>Js (bo.sub (i:=1) (j:=j) (by rw[Nat.add_comm];exact hu)) (λe=>e) w' hg) ?_
  refine ρn ?_;refine nop ?_;refine cl (Jzq (r:=z.2.1) (hF.tb.ext (c5.trans a4)) (ep.ext a4) (λu hu=>(a6.2 u hu).1) (by have:=a6.len;omega) (by have:=a6.1;omega)) ?_;rintro un g4 ⟨rfl,a1⟩;refine ρ ?_;refine Je (GrN.ext a1) ?_;refine ρn ?_;refine nop ?_;refine cl (Jdm ((b4.ext a4).ext a1) (Nb.big (k:=i) fd he om (b2 z ae).1)) ?_;rintro uy br ⟨c3,gw,a8⟩;obtain⟨YA,yc,rfl,_⟩:=id c3;have c7:=(a4.trans a1).trans a8;refine ρ ?_;refine Je (GrN.ext a8) ?_;refine ρn ?_;refine Xh ?_;refine mup KS (fi.ext c7) (by unfold maxLen;omega) (Kj a6) ?_;intro bq fl ag;have bm:GrN (λk=>k=mb) br bq:=GrN.by ag λk C=>by injection C with C;exact C.symm
  have bl:GrN (λk=>k=mb) w7 bq:=(GrN.ext c7).trans bm;have g7:NatX (λk=>AR k∨k=mb) bq (.slice YA (Jq z.2.2.sum).length yc) z.2.2.sum :=
   (gw.x c3 λk C=>nM (ho k C) (nL O.size (a4.trans a1).size)).gr (bm.mono λk _ C=>.inr C)
  have fx:(G.map (·.2)).take (j+1)=(G.map (·.2)).take j++[z.2]:=by
   rw[List.take_succ_eq_append_getElem (by rw[List.length_map];exact lj),List.getElem_map,hz]
  have gi:z.2.1 ∉ ((G.map (·.2)).take j).map (·.1):=by
   have J:=dj.lt;rw[<-aa,<-List.take_append_drop (j+1) (G.map (·.2)),fx,List.map_append,List.map_append]at J
   intro hm;have h2:=(List.pairwise_append.1 (List.pairwise_append.1 J).1).2.2 _ hm z.2.1 (by simp);rw[Uq]at h2;omega
  refine ρ ?_;refine Xj (j+1) (mc+1) (upL fm (.string (idn z.2.1)) (some (.slice YA (Jq z.2.2.sum).length yc))) sO ⟨lj,O.trans bl,fl,om,λk=>?_⟩ om;rw[fx,Qdc _ _ _ gi];by_cases e:z.2.1=k
  .rw[if_pos e,<-e,Kw (KS.key (Kj a6))];exact .inr ⟨_,rfl,Qcz dj dx,g7⟩
  rw[if_neg e,Uh (λe'=>e (Jcb (by injection e'.symm)))];rcases de k with J|⟨y,J,h2,h3⟩
  .exact .inl J
  exact .inr ⟨y,J,h2,h3.gr (bl.mono λk _ C=>.inr C)⟩
 have gq:j=G.length:=by have:=oF h;omega
 clear h;have dd:(G.map (·.2)).take j=Ve d wt m (R v):=by rw[aa,gq,List.take_of_length_le];rw[<-aa,List.length_map];exact nR _
 rw[dd]at de;have a9:=Ja (Jk fo (Z.trans D)) O λg eg e=>by have:=(dw g eg).2;omega
 have fa:=Ja (Jk cm (Z.trans D)) O λg eg e=>by have:=(g5 g eg).2;omega
 obtain⟨r1,r2,r3,r4,r5⟩:=Zm a9 (q:=v) om (.slice LA G.length lc);have ic:ba.length=f:=by have:=hBa.1;omega
 refine ldR (c1.at (i:=9) rfl) ?_;refine ixR v (Rd.own a9) hvf ?_;refine Xk (r1.trans (show ba[v]?=some (ba.getD v (.slice none 0 0)) by simp[List.getD,List.getElem?_eq_getElem (show v<ba.length by omega)])) r2 ?_;refine ρ ?_;obtain⟨w8,ed⟩:∃ w8,w8=w7.setCell (adr KA v) (.slice LA G.length lc):=⟨_,rfl⟩;rw[<-ed]at r3 r5 ⊢;clear ed;have ew:GrN AR w w7:=(((bi.trans (GrN.ext D)).mono λk _ C=>(.inl C:AR k∨k=mb)).trans (O.mono λk _ C=>.inr C)).mono λk C h=>h.elim id λe=>by omega
 have bj:GrN AR w7 w8:=GrN.by r5 λk C=>hAR k (.inr (.inr C))
 have f0:GrN (λk=>AR k∨k=mb) w6 w8:=(O.mono λk _ C=>.inr C).trans (bj.mono λk _ C=>.inl C);have bn:=Zn aj a9 r5 rfl;have cp:¬ AR mb:=by
  intro h';have:=hARl mb h';omega
 have cq:∀ k,(AR k∨k=mb)->k<w5.heap.size:=by
  rintro k (h'|h')
  .have:=hARl k h';have:=(bi.size);omega
  omega
 refine Jj ⟨rfl,.map (some mb),.slice LA G.length lc,⟨Qh c5 r5 λk C=>(dw k C).1,c1.grown r5 (c1.ne_own a9 rfl),Zn fa a9 r5 rfl,Zn fe a9 r5 rfl⟩,r3,ew.trans bj,
  ⟨mb,mc,fm,rfl,om,⟨fi.kept r5 (λe=>cp (hAR mb (.inr (.inr e.symm)))),cp⟩,λk=>?_⟩,
  ⟨G,LA,lc,aa.symm,rfl,gm,om,Rd.own bn,λh0 ad e=>?_,λp hp=>⟨(ak.el p hp).len,?_⟩⟩⟩
 .rcases de k with J|⟨y,J,h2,h3⟩
  .exact .inl J
  exact .inr ⟨y,J,h2,(h3.old λk C=>.inl (.inl C)).gr bj⟩
 .intro hA;have:=(an ad.block (by rw[e];simp[Value.ownBlock])).1;have:=cq _ (.inl hA);omega
 have J:BkE d (λk=>AR k∨k=mb) w6 p.1 p.2:=(ak.el p hp).old λk C=>.inl (.inl (cq k C));exact(J.gr f0).old λk C=>.inl (.inl C)
end Go.Proofs.YtgobkbeokaaplaaGreatDoor
namespace Go.Proofs.YtgobkbeokaaplaaGreatDoor
open Pl Go.Wk
variable {k n v:Nat}{g h pl:Nat->Nat}
def Qd: Nat->(Nat->Nat)->Nat
 | 0,_=>0
 | n+1,g=>Qd n g+g n
theorem Jds(e:∀ c,c<n->g c=h c): Qd n g=Qd n h:=by
 induction n with
 | zero=>rfl
 | succ n ih=>rw[Qd,Qd,ih (λc i=>e c om),e n om]
theorem Jrk(n:Nat)(g h:Nat->Nat): Qd n (λc=>g c+h c)=Qd n g+Qd n h:=by
 induction n with
 | zero=>rfl
 | succ n ih=>rw[Qd,Qd,Qd,ih];omega
theorem Jrh(e:∀ c,c<n->g c=0): Qd n g=0:=by
 induction n with
 | zero=>rfl
 | succ n ih=>rw[Qd,ih (λc i=>e c om),e n om]
theorem Qdq(g:Nat->Nat)(hk:k<n): g k<=Qd n g:=by
 induction n with
 | zero=>omega
 | succ n ih=>
  grind [Qd]
theorem Qdp(x:Nat)(hv:v<n): Qd n (λc=>if c=v then x else 0)=x:=by
 induction n with
 | zero=>omega
 | succ n ih=>
  grind [Qd,Jrh]
theorem pw2(a b s t:Nat)(h:a*s<=b*t): (2^a)^s<=(2^b)^t:=by
 rw[<-Nat.pow_mul,<-Nat.pow_mul];exact Nat.pow_le_pow_right (by decide) h
theorem Jnk{T T':Nat->Row->Nat}{x:Row}: ∀ {l:List (Nat×List Nat)},(∀ p∈l,T p.1=T' p.1)->wtL T x l=wtL T' x l
 | [],_=>rfl
 | p::l,h=>by rw[wtL,wtL,h p mC,Jnk λq hq=>h q (List.mem_cons_of_mem _ hq)]
section
variable (n f:Nat) (kf:Nat->Nat) (pf:Nat->Int) (R:Nat->List Row) (ds:List Bool)
def lastC(v:Nat): Nat:=(bk (kf v ||| 2^v) 32).length-1
noncomputable def Kb(T:Nat->Row->Nat)(v:Nat): Row->Nat :=
 if v<n then(if v<f then Gw (Ve (ds.getD v false) (λx=>wtL T x (chK kf pf v n)) (lastC kf v) (R v)) else Um (R v) (Za kf v) λx=>wtL T x (chK kf pf v n)) elseλ_=>0
noncomputable def TF: Nat->Nat->Row->Nat
 | 0=>λ_ _=>0
 | s+1=>λv=>Kb n f kf pf R ds (TF s) v
noncomputable def TV(pl:Nat->Nat)(v:Nat): Row->Nat:=TF n f kf pf R ds (pl v+1) v
variable {n f:Nat} {kf:Nat->Nat} {pf:Nat->Int} {R:Nat->List Row} {ds:List Bool}
theorem Jrl{T T':Nat->Row->Nat}(h:∀ c,c<n->pf c=(v:Int)->T c=T' c): Kb n f kf pf R ds T v=Kb n f kf pf R ds T' v:=by grind [wtL,chK,kf,Jnk,Jqj,Kb]
def ChF(n:Nat)(pf:Nat->Int)(pl:Nat->Nat): Prop:=∀ c v:Nat,c<n->pf c=(v:Int)->v<n/\pl c<pl v
theorem Qyd{pl:Nat->Nat}(hch:ChF n pf pl): ∀(s s' v:Nat),v<n->pl v<s->pl v<s'->TF n f kf pf R ds s v=TF n f kf pf R ds s' v
 | 0,_,_,_,h,_=>by omega
 | s+1,0,_,_,_,h=>by omega
 | s+1,s'+1,v,hv,h1,h2=>Jrl λc hc hp=>by
  have:=(hch c v hc hp).2;exact Qyd hch s s' c hc om om
theorem Qyc(hch:ChF n pf pl)(hv:v<n): TV n f kf pf R ds pl v=Kb n f kf pf R ds (TV n f kf pf R ds pl) v :=
 Jrl λc i j=>by
  have:=(hch c v i j).2;exact Qyd hch (pl v) (pl c+1) c i om om
theorem Qvz(hv:¬ v<n)(k:Row): TV n f kf pf R ds pl v k=0:=by
 show Kb n f kf pf R ds _ v k=0;grind [Kb]
theorem Jcq(hch:ChF n pf pl)(hfn:f<=n)(hv:v<f): TV n f kf pf R ds pl v=Gw (Ve (ds.getD v false) (λx=>wtL (TV n f kf pf R ds pl) x (chK kf pf v n)) (lastC kf v) (R v)):=by grind [Qyc,Kb]
theorem Jvw(hch:ChF n pf pl)(hv:v<n)(hf:f<=v): TV n f kf pf R ds pl v=Um (R v) (Za kf v) λx=>wtL (TV n f kf pf R ds pl) x (chK kf pf v n):=by grind [Qyc,Kb]
section
variable (n) (pf)
def stF: Nat->Nat->Nat
 | 0=>λ_=>0
 | s+1=>λv=>1+Qd n λc=>if pf c=(v:Int) then stF s c else 0
def stV(pl:Nat->Nat)(v:Nat): Nat:=stF n pf (pl v+1) v
end
theorem Jrp{pl:Nat->Nat}(hch:ChF n pf pl): ∀(s s' v:Nat),v<n->pl v<s->pl v<s'->stF n pf s v=stF n pf s' v
 | 0,_,_,_,h,_=>by omega
 | s+1,0,_,_,_,h=>by omega
 | s+1,s'+1,v,hv,h1,h2=>by
  show 1+_=1+_;congr 1
  refine Jds λc hc=>?_;split
  .rename_i hp;have:=(hch c v hc hp).2;exact Jrp hch s s' c hc om om
  rfl
theorem Jrn(hch:ChF n pf pl)(hv:v<n): stV n pf pl v=1+Qd n λc=>if pf c=(v:Int) then stV n pf pl c else 0:=by
 show 1+_=1+_;congr 1
 refine Jds λc i=>?_;split
 .rename_i hp;have:=(hch c v i hp).2;exact Jrp hch (pl v) (pl c+1) c i om om
 rfl
theorem Jrm{pl:Nat->Nat}(hch:ChF n pf pl)(hpf:∀ c,c<n->pf c = -1∨∃ p:Nat,pf c=p/\p<n)(hin:∀ u v,u<n->v<n->pl u=pl v->u=v)(hat:∀ i,i<n->∃ v,v<n/\pl v=i):
  ∀ i,i<=n->Qd n (λc=>if pl c<i/\(pf c = -1∨i<=pl (pf c).toNat) then stV n pf pl c else 0)=i
 | 0,_=>Jrh λc _=>if_neg om
 | i+1,hi=>by
  have ih:=Jrm hch hpf hin hat i om;obtain⟨v,hv,hpv⟩:=hat i om;have e1:Qd n (λc=>(if pl c<i+1/\(pf c = -1∨i+1<=pl (pf c).toNat) then stV n pf pl c else 0)+if pf c=(v:Int) then stV n pf pl c else 0)=Qd n (λc=>(if pl c<i/\(pf c = -1∨i<=pl (pf c).toNat) then stV n pf pl c else 0)+if c=v then stV n pf pl v else 0):=by
   refine Jds λc hc=>?_;by_cases ec:c=v
   .subst ec;have hne:pf c≠(c:Int):=λe=>by have:=(hch c c hc e).2;omega
    rw[if_neg hne,if_pos rfl,if_neg (show¬ (pl c<i/\_) by omega)];rw[if_pos]
    .omega
    refine⟨om,?_⟩;rcases hpf c hc with h|⟨p,h,_⟩
    .exact .inl h
    have:=(hch c p hc h).2;rw[h];right;simp only[Int.toNat_natCast];omega
   rw[if_neg ec];have hnp:pl c≠i:=by grind
   by_cases ep:pf c=(v:Int)
   .have h1:=(hch c v hc ep).2;grind [Int.toNat_natCast]
   repeat grind
  rw[Jrk,Jrk,Qdp _ hv,ih,Jrn hch hv]at e1;omega
theorem Qff(hch:ChF n pf pl)(hpf:∀ c,c<n->pf c = -1∨∃ p:Nat,pf c=p/\p<n)(hin:∀ u v,u<n->v<n->pl u=pl v->u=v)(hat:∀ i,i<n->∃ v,v<n/\pl v=i)(hpl:∀ v,v<n->pl v<n)(hv:v<n): stV n pf pl v<=n:=by
 have o:=Jrm hch hpf hin hat (pl v+1) (hpl v hv);have j:=Qdq (n:=n) (λc=>if pl c<pl v+1/\(pf c = -1∨pl v+1<=pl (pf c).toNat) then stV n pf pl c else 0) hv;rw[o]at j;have C:pl v<pl v+1/\(pf v = -1∨pl v+1<=pl (pf v).toNat):=by
  refine⟨om,?_⟩;rcases hpf v hv with h|⟨p,h,_⟩
  .exact .inl h
  have:=(hch v p hv h).2;rw[h];right;simp only[Int.toNat_natCast];omega
 grind
theorem Jnj{T:Nat->Row->Nat}{x:Row}{st:Nat->Nat}{kf:Nat->Nat}{pf:Nat->Int}{v n:Nat}(hT:∀ c,c<n->pf c=(v:Int)->∀ k,T c k<=65536^st c): ∀ k,k<=n->wtL T x (chK kf pf v k)<=65536^Qd k (λc=>if pf c=(v:Int) then st c else 0)
 | 0,_=>nR _
 | k+1,hk=>by
  have ih:=Jnj (T:=T) (x:=x) (kf:=kf) hT k om;rw[Jcj,Jkn,Qd,Nat.pow_add];refine Nat.mul_le_mul ih ?_;split
  .rename_i hp;rw[wtL,wtL,Nat.mul_one];exact hT k om hp _
  exact nR _
theorem Jrc{wt:Row->Nat}{m S:Nat}(h:∀ x,wt x<=S)(k:Row): ∀ rs:List Row,tot (Xx wt m rs k)<=rs.length*S
 | []=>by simp[Xx,tot]
 | x::rs=>by
  have ih:=Jrc (m:=m) h k rs;have e:tot (Xx wt m (x::rs) k)<=wt x+tot (Xx wt m rs k):=by
   unfold Xx;rw[List.filter_cons];split
   .rw[List.map_cons,tot];exact nR _
   omega
  grind [List.length_cons,Nat.succ_mul]
theorem Qyb{pl:Nat->Nat}(hch:ChF n pf pl)(hfn:f<=n)(hlt:∀ v,v<f->Lt [] (R v))(hl:∀ v,v<f->∀ y∈R v,y.length=lastC kf v+1)(hR:∀ v,v<n->(R v).length<=65536):
  ∀(s v:Nat),v<n->pl v<s->∀ k,TV n f kf pf R ds pl v k<=65536^stV n pf pl v
 | 0,_,_,h,_=>by omega
 | s+1,v,hv,hs,k=>by
  have hW:∀ x,wtL (TV n f kf pf R ds pl) x (chK kf pf v n)<=65536^Qd n (λc=>if pf c=(v:Int) then stV n pf pl c else 0):=λx=>
   Jnj (λc hc hp k=>Qyb hch hfn hlt hl hR s c hc (by have:=(hch c v hc hp).2;omega) k) n (nR _)
  rw[Jrn hch hv,Nat.pow_add,Nat.pow_one];by_cases hf:v<f
  .rw[Jcq hch hfn hf,Jdp,(Jvb (hlt v hf) (hl v hf)).entK,Jch];exact nL (Jrc hW k _) (nO _ (hR v hv))
  rw[Jvw hch hv om];grind [Nat.le_trans,Jth,Nat.mul_pos,Nat.pow_pos]
theorem Jmx(hch:ChF n pf pl)(c:Nat)(hc:f<=c)(k:Row): TV n f kf pf R ds pl c k<=1:=by
 by_cases h:c<n
 .rw[Jvw hch h hc];exact Jth
 rw[Qvz h];omega
theorem Xvh(hch:ChF n pf pl)(hfn:f<=n)(hn:n<=32)(hpf:∀ c,c<n->pf c = -1∨∃ p:Nat,pf c=p/\p<n)(hin:∀ u v,u<n->v<n->pl u=pl v->u=v)(hat:∀ i,i<n->∃ v,v<n/\pl v=i)(hpl:∀ v,v<n->pl v<n)(hlt:∀ v,v<f->Lt [] (R v))(hl:∀ v,v<f->∀ y∈R v,y.length=lastC kf v+1)(hR:∀ v,v<n->(R v).length<=65536)(c:Nat)(k:Row): TV n f kf pf R ds pl c k<=4294967296^20:=by
 by_cases h:c<n
 .refine nL (Qyb hch hfn hlt hl hR (pl c+1) c h om k) ?_;have o:=Qff hch hpf hin hat hpl h;have j:=pw2 16 32 (stV n pf pl c) 20 om;grind
 rw[Qvz h];omega
end
open Pl Go.Wk
variable {c i s t u v:Nat}
structure ElR(n f m:Nat)(es perm:List Nat)(vars:Nat->List Nat)(rs:Nat->List Row)(kf:Nat->Nat)(pf:Nat->Int)(R:Nat->List Row): Prop where
 pm:PermOk n f perm
 n32:n<=32
 lt:∀ i,i<m->∀ v∈vars i,v<n
 len:∀ i,i<m->∀ r∈rs i,r.length=(vars i).length
 el:es.length=m
 eb:∀ i,i<m->∀ u,(es.getD i 0).testBit u=true↔u∈vars i
 ep:∀ e∈es,e<2^n
 bags:Jvz n es (Xd perm f) kf pf
 rows:∀ v,v<n->Jct n m vars rs (kf v ||| 2^v) (R v)
section
variable {n f m:Nat} {es perm:List Nat} {vars:Nat->List Nat} {rs:Nat->List Row} {kf:Nat->Nat} {pf:Nat->Int} {R:Nat->List Row} {ds:List Bool}
abbrev plO(perm:List Nat)(f:Nat): Nat->Nat:=plc (Xd perm f)
theorem PermOk.plN(h:PermOk n f perm)(hv:v<n): plO perm f v<n:=by
 have:=(Gn h.ond (h.omem.2 hv)).1;rw[h.olen]at this;exact this
theorem PermOk.inj(h:PermOk n f perm)(hu:u<n)(hv:v<n)(e:plO perm f u=plO perm f v): u=v:=by
 rw[<-(Gn h.ond (h.omem.2 hu)).2,<-(Gn h.ond (h.omem.2 hv)).2];show(Xd perm f).getD (plO perm f u) 0=(Xd perm f).getD (plO perm f v) 0;rw[e]
theorem PermOk.hits(h:PermOk n f perm)(hi:i<n): ∃ v,v<n/\plO perm f v=i:=by
 have j:i<(Xd perm f).length:=by rw[h.olen];exact hi
 exact⟨(Xd perm f).getD i 0,h.olt (getD_mem' 0 _ j),Jqb h.ond j⟩
theorem PermOk.plPerm(h:PermOk n f perm)(hi:i<perm.length): plO perm f (perm.getD i 0)=i:=by
 have j:i<(Xd perm f).length:=by simp[Xd];omega
 have e:(Xd perm f).getD i 0=perm.getD i 0:=by simp[Xd,List.getD,List.getElem?_append_left hi]
 rw[<-e];exact Jqb h.ond j
theorem PermOk.plFree(h:PermOk n f perm)(hu:u<f): plO perm f u=perm.length+(f-1-u):=by
 have i:perm.length+(f-1-u)<(Xd perm f).length:=by simp[Xd];omega
 have e:(Xd perm f).getD (perm.length+(f-1-u)) 0=u:=by
  simp only[Xd,List.getD];rw[List.getElem?_append_right om,Nat.add_sub_cancel_left,List.getElem?_reverse (by simp;omega),List.length_range,List.getElem?_range om];simp only[Option.getD_some];omega
 have:=Jqb h.ond i;rw[e]at this;exact this
theorem PermOk.plLow(h:PermOk n f perm)(hu:u<f)(hv:f<=v)(hn:v<n): plO perm f v<plO perm f u:=by
 have o:v∈perm:=by
  have:=h.omem.2 hn;rcases List.mem_append.1 this with j|j
  .exact j
  have:=List.mem_range.1 (List.mem_reverse.1 j);omega
 obtain⟨i,hi,e⟩:=List.getElem_of_mem o;have j:=h.plPerm hi;rw[Qq 0 _ hi,e]at j;rw[j,h.plFree hu];omega
theorem ElR.inv(h:ElR n f m es perm vars rs kf pf R): NbInv [] (nb0 n es):=Qjs h.ep
theorem ElR.kbit(h:ElR n f m es perm vars rs kf pf R)(hv:v<n)(hu:(kf v).testBit u=true): u<n/\plO perm f v<plO perm f u:=by
 obtain⟨_,G,_⟩:=h.bags v hv;rw[G]at hu;have i:u<n:=Jbt (nb:=nb0 n es) (ord:=Xd perm f) (N:=n) (λa b j=>(Jzh h.ep j).2.1) hu;obtain⟨D,C⟩:=Jhk h.inv h.pm.ond (h.pm.omem.2 hv) hu;have o:=(Jhh h.pm.ond (h.pm.omem.2 hv) (h.pm.omem.2 i)).1 D;refine⟨i,?_⟩;rcases Nat.lt_or_ge (plO perm f v) (plO perm f u) with h6|h6
 .exact h6
 exact absurd (h.pm.inj i hv (Nat.le_antisymm h6 o)) C
theorem ElR.kmem(h:ElR n f m es perm vars rs kf pf R)(hv:v<n): u∈bk (kf v) 32↔(kf v).testBit u=true:=by
 rw[bk_mem];have:=h.n32;exact⟨λi=>i.2,λi=>⟨by have:=(h.kbit hv i).1;omega,i⟩⟩
theorem ElR.par(h:ElR n f m es perm vars rs kf pf R)(hv:v<n): (pf v = -1/\∀ u,(kf v).testBit u=false)∨∃ p:Nat,pf v=p/\(kf v).testBit p=true/\∀ u,(kf v).testBit u=true->plO perm f p<=plO perm f u:=by
 obtain⟨_,o,i⟩:=h.bags v hv;rcases i with⟨i,j⟩|⟨p,i,j,h5⟩
 .exact .inl ⟨i,λu=>by rw[o];exact j u⟩
 exact .inr ⟨p,i,by rw[o];exact j,λu C=>h5 u (by rw[<-o];exact C)⟩
theorem ElR.chf(h:ElR n f m es perm vars rs kf pf R): ChF n pf (plO perm f):=λc v o j=>by
 rcases h.par o with⟨i,_⟩|⟨p,i,h2,_⟩
 .rw[i]at j;omega
 have e:p=v:=by rw[i]at j;omega
 subst e;exact h.kbit o h2
theorem ElR.sub(h:ElR n f m es perm vars rs kf pf R)(hc:c<n)(hp:pf c=(v:Int))(hu:(kf c).testBit u=true): (kf v ||| 2^v).testBit u=true:=by
 have j:=(h.chf c v hc hp).1;rw[Nat.testBit_or,Nat.testBit_two_pow,Bool.or_eq_true,decide_eq_true_eq];by_cases e:u=v
 .exact .inr e.symm
 refine .inl ?_;obtain⟨_,C,_⟩:=h.bags c hc;obtain⟨_,o,_⟩:=h.bags v j;rcases h.par hc with⟨D,_⟩|⟨p,D,h2,h3⟩
 .rw[D]at hp;omega
 have ev:p=v:=by rw[D]at hp;omega
 subst ev;rw[o];refine Qsd h.inv h.pm.ond (h.pm.omem.2 hc) (h.pm.omem.2 j) (by rw[<-C];exact h2) (λx G=>?_) (by rw[<-C];exact hu) e;have i:(kf c).testBit x=true:=by rw[C];exact G
 exact(Jhh h.pm.ond (h.pm.omem.2 j) (h.pm.omem.2 (h.kbit hc i).1)).2 (h3 x i)
theorem Qtg(h:∀ u,t.testBit u=true->s.testBit u=true): inS (bk s 32) t=bk t 32:=by
 unfold inS bk;rw[List.filter_filter];refine List.filter_congr λu _=>?_;cases e:t.testBit u with
 | false=>simp
 | true=>simp[h u e]
theorem Jgf(h:∀ u,t.testBit u=true->s.testBit u=true)(z:Row): pmR (Qu (bk s 32) t) (pmR (bk s 32) z)=pmR (bk t 32) z:=by
 have:=Jtx (bk s 32) t z (bk s 32).length (nR _);rw[List.take_length,Qtg h]at this;exact this
theorem ElR.last(h:ElR n f m es perm vars rs kf pf R)(hv:v<f): bk (kf v ||| 2^v) 32=bk (kf v) 32++[v]:=by
 have hn:=h.n32;have C:=h.pm.fn;have i:∀ u,(kf v).testBit u=true->u<v:=λu o=>by
  obtain⟨j,D⟩:=h.kbit om o;rcases Nat.lt_or_ge u f with h3|h3
  .rw[h.pm.plFree hv,h.pm.plFree h3]at D;omega
  have:=h.pm.plLow hv h3 j;omega
 have e:∀ k,bk (kf v ||| 2^v) k=bk (kf v) k++if v<k then[v] else[]:=by
  intro k;induction k with
  | zero=>rfl
  | succ k ih=>
   rw[Gl,Gl,ih,Nat.testBit_or,Nat.testBit_two_pow];by_cases e:v=k
   .subst e;rw[if_neg (Nat.lt_irrefl v),if_pos (Nat.lt_succ_self v)];have:(kf v).testBit v=false:=by
     cases hb:(kf v).testBit v with
     | false=>rfl
     | true=>have:=i v hb;omega
    rw[this];simp
   rw[decide_eq_false e,Bool.or_false];by_cases hb:(kf v).testBit k=true
   .have:=i k hb;rw[if_pos hb,if_neg om,if_neg om,List.append_nil,List.append_nil]
   rw[if_neg hb,List.append_nil,List.append_nil];by_cases j:v<k
   .rw[if_pos j,if_pos om]
   rw[if_neg j,if_neg om]
 rw[e,if_pos om]
theorem ElR.lastC(h:ElR n f m es perm vars rs kf pf R){v:Nat}(hv:v<f): lastC kf v=(bk (kf v) 32).length/\(bk (kf v ||| 2^v) 32).length=(bk (kf v) 32).length+1:=by
 unfold Go.Proofs.YtgobkbeokaaplaaGreatDoor.lastC;rw[h.last hv];simp
theorem ElR.rlt(h:ElR n f m es perm vars rs kf pf R)(hv:v<f): Lt [] (R v):=(h.rows v (by have:=h.pm.fn;omega)).1
theorem ElR.rl(h:ElR n f m es perm vars rs kf pf R)(hv:v<f): ∀ y∈R v,y.length=Go.Proofs.YtgobkbeokaaplaaGreatDoor.lastC kf v+1:=λy i=>by
 obtain⟨z,_,rfl,_⟩:=((h.rows v (by have:=h.pm.fn;omega)).2.1 y).1 i;rw[Qf,(h.lastC hv).2,(h.lastC hv).1]
theorem ElR.big(h:ElR n f m es perm vars rs kf pf R)(c:Nat)(k:Row): TV n f kf pf R ds (plO perm f) c k<=4294967296^20 :=
 Xvh h.chf h.pm.fn h.n32 (λc C=>by
  rcases h.par C with⟨o,_⟩|⟨p,o,h2,_⟩
  .exact .inl o
  exact .inr ⟨p,o,(h.kbit C h2).1⟩) (λu v D j=>h.pm.inj D j) (λi hi=>h.pm.hits hi) (λv j=>h.pm.plN j) (λv j=>h.rlt j) (λv j=>h.rl j) (λv j=>(h.rows v j).2.2) c k
noncomputable def Jkf(n f m:Nat)(perm:List Nat)(vars:Nat->List Nat)(rs:Nat->List Row)(kf:Nat->Nat)(pf:Nat->Int)(R:Nat->List Row)(ds:List Bool): BX V :=
 ⟨V0,n,f,λv=>bk (kf v) 32,pf,plO perm f,(List.range m).map λi=>(vars i,rs i),TV n f kf pf R ds (plO perm f),
  λv k=>entK (Ve (ds.getD v false) (λx=>wtL (TV n f kf pf R ds (plO perm f)) x (chK kf pf v n)) (Go.Proofs.YtgobkbeokaaplaaGreatDoor.lastC kf v) (R v)) k⟩
theorem ElR.W(h:ElR n f m es perm vars rs kf pf R){T:Nat->Row->Nat}{v:Nat}(z:Row): ∀ k,k<=n->wtL T (pmR (bk (kf v ||| 2^v) 32) z) (chK kf pf v k)=Jh k λc=>if pf c=(v:Int) then T c (pmR (bk (kf c) 32) z) else 1
 | 0,_=>rfl
 | k+1,hk=>by
  rw[Jcj,Jkn,h.W z k om,Jh];congr 1
  split
  .rename_i hp;rw[wtL,wtL,Nat.mul_one,Jgf λu hu=>h.sub om hp hu]
  rfl
theorem ElR.bag(h:ElR n f m es perm vars rs kf pf R)(hv:v<n)(z:Row): Ij m vars rs (kf v ||| 2^v) z↔(Jkf n f m perm vars rs kf pf R ds).bag v z:=by
 have key:∀ i j,i<m->j<(vars i).length->((kf v ||| 2^v).testBit ((vars i).getD j 0)=true↔((vars i).getD j 0=v∨(vars i).getD j 0∈bk (kf v) 32)):=λi j hi u=>by
  rw[h.kmem hv,Nat.testBit_or,Nat.testBit_two_pow,Bool.or_eq_true,decide_eq_true_eq];constructor
  .rintro(o|o)
   .exact .inr o
   exact .inl o.symm
  rintro(o|o)
  .exact .inr o.symm
  exact .inl o
 constructor
 .intro G a O;obtain⟨i,hi,rfl⟩:=List.mem_map.1 O;have hi:=List.mem_range.1 hi;obtain⟨r,D,J⟩:=G i hi;exact⟨r,D,λj u C=>J j u ((key i j hi u).2 C)⟩
 intro G i hi;obtain⟨r,D,J⟩:=G (vars i,rs i) (List.mem_map.2 ⟨i,List.mem_range.2 hi,rfl⟩);exact⟨r,D,λj u C=>J j u ((key i j hi u).1 C)⟩
theorem ElR.ok(h:ElR n f m es perm vars rs kf pf R): (Jkf n f m perm vars rs kf pf R ds).Ok:=by
 have a4:=h.pm.fn;have hn:=h.n32;refine⟨a4,λv C=>h.pm.plN C,λu v G C e=>h.pm.inj G C e,λv C u G=>h.kbit C ((h.kmem C).1 G),λv C=>?_,λv C p hp x hx=>?_,λa ha v a1 U u O=>?_,λu v G a9=>?_,λu v G C j=>h.pm.plLow G C j,λa ha=>?_,λv hf C k=>?_,λv C k=>?_⟩
 .rcases h.par C with⟨D,J⟩|⟨p,D,J,h3⟩
  .refine .inl ⟨?_,D⟩;refine List.eq_nil_iff_forall_not_mem.2 λu G=>?_;have:=(h.kmem C).1 G;rw[J u]at this;cases this
  exact .inr ⟨p,D,(h.kmem C).2 J,λu G=>h3 u ((h.kmem C).1 G)⟩
 .have a2:pf v=(p:Int):=hp;have D:=h.sub C a2 ((h.kmem C).1 hx);rw[Nat.testBit_or,Nat.testBit_two_pow,Bool.or_eq_true,decide_eq_true_eq]at D;rcases D with D|D
  .exact .inr ((h.kmem (h.chf v p C a2).1).2 D)
  exact .inl D.symm
 .obtain⟨i,hi,rfl⟩:=List.mem_map.1 ha;have hi:=List.mem_range.1 hi;simp only at a1 U O;by_cases e:u=v
  .exact .inl e
  refine .inr ?_;have j:=h.lt i hi v a1;have a6:=h.lt i hi u O;have a8:(kf v).testBit u=true:=by
   rw[(h.bags v j).2.1];refine Qsf ?_ e ((Jhh h.pm.ond (h.pm.omem.2 j) (h.pm.omem.2 a6)).2 (U u O));simp only[nb0,Bool.and_eq_true,decide_eq_true_eq,bne_iff_ne,List.any_eq_true];exact⟨⟨j,e⟩,es.getD i 0,getD_mem' 0 es (by rw[h.el];exact hi),(h.eb i hi v).2 a1,(h.eb i hi u).2 O⟩
  exact(h.kmem j).2 a8
 .have a7:u<f:=G;show plO perm f u<plO perm f v;rw[h.pm.plFree a7,h.pm.plFree om];omega
 .obtain⟨i,hi,rfl⟩:=List.mem_map.1 ha;have hi:=List.mem_range.1 hi;exact⟨h.lt i hi,h.len i hi⟩
 .have a5:f<=v:=hf;have o:v<n:=C;refine⟨Jmx h.chf v a5 k,?_⟩;show 0<TV n f kf pf R ds (plO perm f) v k↔_;rw[Jvw h.chf o a5,redT_pos];constructor
  .rintro⟨x,hx,D,J⟩;obtain⟨z,Z,rfl,hb⟩:=((h.rows v o).2.1 x).1 hx;refine⟨z,Z,(h.bag o z).1 hb,?_,?_⟩
   .rw[<-J];exact(Jgf (λu G=>by rw[Nat.testBit_or,G];rfl) z).symm
   rw[h.W z n (nR _)]at D;exact D
  rintro⟨z,Z,hb,J,D⟩;refine⟨pmR (bk (kf v ||| 2^v) 32) z,((h.rows v o).2.1 _).2 ⟨z,Z,rfl,(h.bag o z).2 hb⟩,?_,?_⟩
  .rw[h.W z n (nR _)];exact D
  rw[<-J];exact Jgf (λu G=>by rw[Nat.testBit_or,G];rfl) z
 have o:v<f:=C;have j:v<n:=om
 have hg:=(Jvb (d:=ds.getD v false) (wt:=λx=>wtL (TV n f kf pf R ds (plO perm f)) x (chK kf pf v n)) (h.rlt o) (h.rl o)).entK k;refine⟨?_,λp=>?_⟩
 .show TV n f kf pf R ds (plO perm f) v k=_;rw[Jcq h.chf a4 o,Jdp];rfl
 show p∈entK _ k↔_;rw[hg,Qzh,entL_mem];have hl:=h.last o;have a3:=(h.lastC o).1;have e1:∀ z:Row,(pmR (bk (kf v ||| 2^v) 32) z).take (Go.Proofs.YtgobkbeokaaplaaGreatDoor.lastC kf v)=pmR (bk (kf v) 32) z:=λz=>by
  rw[hl,a3];unfold pmR;rw[List.map_append,List.take_left' (by simp)]
 have e2:∀ z:Row,(pmR (bk (kf v ||| 2^v) 32) z).getD (Go.Proofs.YtgobkbeokaaplaaGreatDoor.lastC kf v) V0=z.getD v V0:=λz=>by
  rw[hl,a3];unfold pmR;rw[List.map_append];simp only[List.getD];rw[List.getElem?_append_right (by simp)];simp
 constructor
 .rintro⟨x,hx,D,J,h3,h4⟩;obtain⟨z,Z,rfl,hb⟩:=((h.rows v j).2.1 x).1 hx;refine⟨z,Z,(h.bag j z).1 hb,?_,?_,?_,h4⟩
  .rw[<-D,e1];rfl
  .rw[<-J,e2];rfl
  rw[<-h3,h.W z n (nR _)];rfl
 rintro⟨z,Z,hb,D,J,h3,h4⟩;refine⟨pmR (bk (kf v ||| 2^v) 32) z,((h.rows v j).2.1 _).2 ⟨z,Z,rfl,(h.bag j z).2 hb⟩,?_,?_,?_,h4⟩
 .rw[e1,<-D];rfl
 .rw[e2,<-J];rfl
 rw[h.W z n (nR _),h3];rfl
theorem ElR.srt(h:ElR n f m es perm vars rs kf pf R): (Jkf n f m perm vars rs kf pf R ds).ix.Srt ds:=by
 refine⟨rfl,λv j k=>?_⟩;have i:v<f:=j;show Jjj _ (entK _ k);rw[(Jvb (h.rlt i) (h.rl i)).entK];exact Xqd (Xjq (h.rlt i) (h.rl i) k)
end
end Go.Proofs.YtgobkbeokaaplaaGreatDoor
