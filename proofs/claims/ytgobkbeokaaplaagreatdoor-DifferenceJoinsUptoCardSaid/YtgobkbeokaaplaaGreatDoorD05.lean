/- Part 5. -/
import Derived.Test.YtgobkbeokaaplaaGreatDoorD04
import Derived.Lib.ItoaLen
set_option linter.unusedVariables false
set_option maxRecDepth 100000
set_option maxHeartbeats 40000000
namespace Go.Proofs.YtgobkbeokaaplaaGreatDoor
open Go.RowKit Pl Go.Wk Go.Lib
def decV(l:List UInt8): Nat:=l.foldl (λa c=>10*a+(c.toNat-48)) 0
theorem Qkk{k:Nat}(h:k<10): (UInt8.ofNat (48+k)).toNat=48+k:=by
 rw[UInt8.toNat_ofNat'];omega
theorem Xqv(u:Nat): decV (decDigits u)=u:=by
 induction u using Nat.strongRecOn with
 | ind u ih=>
  rw[decDigits];split
  repeat grind [decV,Qkk]
theorem Jlv(u:Nat): ∀ c∈decDigits u,48<=c.toNat/\c.toNat<=57:=by
 induction u using Nat.strongRecOn with
 | ind u ih=>
  rw[decDigits];split
  repeat grind [List.mem_singleton.1,Qkk,List.mem_append.1]
theorem Jzs(i:Int): ∀ c∈itoa i,c≠44:=by
 intro c j e;subst e;unfold itoa at j;split at j
 .rcases List.mem_cons.1 j with h|h
  .grind
  have:=Jlv _ _ h;grind
 have:=Jlv _ _ j;grind
theorem Jlf{i j:Int}(h:itoa i=itoa j): i=j:=by
 have key:∀(a:Nat) (l:List UInt8),decDigits a≠45::l:=λa l e=>by
  have:=Jlv a 45 (by grind);grind
 unfold itoa at h;split at h<;>split at h
 repeat grind [decV,List.cons.inj,Xqv]
theorem Jmf{a b x y:List UInt8}(ha:∀ c∈a,c≠44)(hb:∀ c∈b,c≠44)(h:a++44::x=b++44::y): a=b/\x=y:=by
 induction a generalizing b with
 | nil=>cases b with
  | nil=>simpa using h
  | cons c b=>simp only[List.nil_append,List.cons_append,List.cons.injEq]at h;exact absurd h.1.symm (hb c List.mem_cons_self)
 | cons d a ih=>cases b with
  | nil=>simp only[List.nil_append,List.cons_append,List.cons.injEq]at h;exact absurd h.1 (ha d List.mem_cons_self)
  | cons c b=>
   grind
theorem Jwz(v:V)(r:Row): idn (v::r)=itoa v.kind++44::(itoa v.num++44::(itoa (v.str.size:Int)++44::(v.bytes++idn r))):=by
 simp only[idn,List.flatMap_cons,Ip,List.append_assoc,List.cons_append,List.nil_append]
theorem Jcf: ∀ {r s:Row},idn r=idn s->r=s
 | [],[],_=>rfl
 | [],v::s,h=>by
  rw[Jwz]at h;have:=congrArg List.length h;simp[idn]at this
 | v::r,[],h=>by
  rw[Jwz]at h;have:=congrArg List.length h;simp[idn]at this
 | v::r,u::s,h=>by
  rw[Jwz,Jwz]at h;obtain⟨h1,h⟩:=Jmf (Jzs _) (Jzs _) h;obtain⟨h2,h⟩:=Jmf (Jzs _) (Jzs _) h;obtain⟨h3,h⟩:=Jmf (Jzs _) (Jzs _) h;have h3:=Jlf h3;rw[Jkx,Jkx]at h3;obtain⟨h4,h5⟩:=List.append_inj h om;have:=Jcf h5;subst this;have e:v=u:=by
   obtain⟨k1,n1,s1⟩:=v;obtain⟨k2,n2,s2⟩:=u;have a1:k1=k2:=Jlf h1;have a2:n1=n2:=Jlf h2;have a3:s1=s2:=by
    apply ByteArray.ext
    exact Array.toList_inj.1 h4
   rw[a1,a2,a3]
  rw[e]
theorem Qzg: ∀ {r:Row},(∀ v∈r,Vj v/\v.bytes.length<=24)->(idn r).length<=r.length*90
 | [],_=>by simp[idn]
 | v::r,h=>by
  have ih:=Qzg (r:=r) λu hu=>h u (List.mem_cons_of_mem _ hu);obtain⟨⟨h1,h2⟩,h3⟩:=h v List.mem_cons_self;have a1:=itoa_length_le _ h1.1 h1.2;have a2:=itoa_length_le _ h2.1 h2.2;have a3:=itoa_length_le (v.str.size:Int) om (by rw[Jkx];omega);grind [Jwz,List.length_append,List.length_cons]
open Go.RowKit Pl Go.Wk _root_.Go.Proofs.Tryz
attribute [local irreducible] WC WL QX WD WDB WP WN WG
variable {cs vars:List Nat}{cc d k s:Nat}{C D:Option Addr}{x:Row}{w:World}
theorem Jmr(v:V)(w:World): (Instr.buildSlice 59 1 #[(0,v.val)]).run prog w=.ok (.slice (some ⟨w.heap.size,0,none⟩) 1 1) (w.alloc (.cells v.cells.toArray 147)):=kr
theorem rowC_app'(a b:Row): Js (a++b)=Js a++Js b:=by simp[Js]
theorem rowC_one''(v:V): Js [v]=v.cells:=by simp[Js]
theorem Qmh(h:k<cs.length): pmR (cs.take (k+1)) x=pmR (cs.take k) x++[x.getD (cs.getD k 0) V0]:=by grind [pmR,Qs]
theorem Qjw{vx:Value}(hx:RowV w vx x)(hC:Rd w 1 C cs.length (Je (nz cs)))(hlt:∀ c∈cs,c<x.length)(hl:cs.length<=1000):
  Ret prog 130 [vx,.slice C cs.length cc] w λu w'=>RowV w' u (pmR cs x)/\Ext w w':=by
 obtain⟨A,c,rfl,ab,aa,hR⟩:=hx;refine enE func130 ntmps130 ?_;refine ρ ?_;refine mk0 EV cs.length om (by unfold maxLen;omega) ?_;intro w0 O a1 a4;refine ρ ?_;refine Jo (fun (k:Nat) (vo:Value)=>[(0,.slice A x.length c),(5,vo),(11,.slice C cs.length cc),(12,.int .i64 (cs.length:Int)),(13,.int .i64 (k:Int))])
  (λk vo w'=>k<=cs.length/\Ext w w'/\Vh w' w.heap.size vo (pmR (cs.take k) x)) (λk _=>cs.length-k) 0 (.slice O 0 cs.length) sB
  ⟨Nat.zero_le _,a1,a4⟩ ?_
 rintro k vo w1 ⟨hk,i,J⟩;refine ciR (λh=>?_) (λh=>?_)
 .have lk:k<cs.length:=by have:=oT h;omega
  clear h;have Z:RdR w1 A x:=Rd.ext hR i;have G:=hlt _ (getD_mem' 0 cs lk);refine ixR k (hC.ext i) lk ?_;refine ldR ((hC.ext i).cell (Zy lk)) ?_;refine Qu 3 (cs.getD k 0) Z G ?_;refine Jt (cs:=(x.getD (cs.getD k 0) V0).cells) (λj u hu=>RdR.cell Z G hu) ?_;refine Qv (Jmr _) ?_;intro w2 b D hb hB;have a2:=Qmh (x:=x) lk;have a9:(pmR (cs.take k) x).length=k:=by rw[Xw,List.length_take];omega
  refine ρ ?_;refine apb (m':=1) (news:=(x.getD (cs.getD k 0) V0).cells) EV (Jk J D) (hB.rd (n:=1) rfl) (V.one _) (by unfold maxLen;omega) om (i.trans D).size ?_;intro v3 w3 a3 a6 a8;refine ρ ?_;refine Jl (k+1) v3 sO ⟨lk,Ql (i.trans D) a6 (Kl (Jk J D)),?_⟩ om;rw[Vh,a2,List.length_append,rowC_app',rowC_one''];exact a3
 have a5:k=cs.length:=by grind
 rw[a5,List.take_length]at J;obtain⟨A3,c3,rfl,a7,_⟩:=Jy J;refine ρ ?_;refine Jj ⟨⟨A3,c3,rfl,a7,by rw[Xw];omega,Rd.own J⟩,i⟩
theorem Qkz(hD:Rd w 1 D vars.length (Je (nz vars)))(hs:s<4294967296)(hv:∀ v∈vars,v<32)(hl:vars.length<=32):
  Ret prog 126 [.slice D vars.length d,.int .u32 (s:Int)] w λu w'=>Zh w' w.heap.size u (Xj vars s)/\Ext w w':=by
 refine enE func126 ntmps126 ?_;refine ρ ?_;refine Jo (fun (k:Nat) (vc:Value)=>[(1,.int .u32 (s:Int)),(5,vc),(8,.slice D vars.length d),(9,.int .i64 (vars.length:Int)),(10,.int .i64 (k:Int))])
  (λk vc w'=>k<=vars.length/\Ext w w'/\Zh w' w.heap.size vc (Zd vars s k)) (λk _=>vars.length-k) 0 (.slice none 0 0) sB
  ⟨Nat.zero_le _,Ext.refl _,Zw _ _ _ _⟩ ?_
 rintro k vc w1 ⟨hk,j,J⟩;refine ciR (λh=>?_) (λh=>?_)
 .have lk:k<vars.length:=by have:=oT h;omega
  clear h;have a3:(Zd vars s k).length<=k:=by
   have:=List.length_filter_le (λi=>s.testBit (vars.getD i 0)) (List.range k);rw[List.length_range]at this;exact this
  refine ixR k (hD.ext j) lk ?_;refine ldR ((hD.ext j).cell (Zy lk)) ?_;refine ρ ?_;refine Iv (s:=s) (v:=vars.getD k 0) (by grind [getD_mem',lk]) ?_;refine ciR (λh=>?_) (λh=>?_)
  .rw[Gh hs]at h;refine Qv (bs1Int'' _) ?_;intro w2 b G hb hB;refine ρ ?_;refine apI (Jk J G) hB om (j.trans G).size ?_;intro v3 w3 a1 Z a2;refine ρ ?_;refine Jl (k+1) v3 sO ⟨lk,Ql (j.trans G) Z (Kl (Jk J G)),?_⟩ om;grind [Kt]
  rw[Gh hs]at h;refine ρ ?_;refine Jl (k+1) vc sO ⟨lk,j,?_⟩ om;grind [Kt]
 have O:k=vars.length:=by grind
 rw[O]at J;refine ρ ?_;exact Jj ⟨J,j⟩
open Go.RowKit Pl Go.Wk
variable {a b l os:List UInt32}{c i k m n x y:Nat}
theorem Jrc(c:UInt32)(h:k<l.length): val (l.set k c)+4294967296^k*(l.getD k 0).toNat=val l+4294967296^k*c.toNat:=by
 induction l generalizing k with
 | nil=>simp at h
 | cons x l ih=>
  cases k with
  | zero=>simp[val];omega
  | succ k=>
   have:=ih (k:=k) (by simpa using h);simp only[List.set_cons_succ,val,List.getD_cons_succ,Nat.pow_succ];grind
structure MulO(a b:List UInt32)(i:Nat)(os:List UInt32): Prop where
 len:os.length=a.length+b.length
 val:val os=val (a.take i)*val b
 zero:∀ k,i+b.length<=k->os.getD k 0=0
structure MulI(a b:List UInt32)(i j c:Nat)(os:List UInt32): Prop where
 len:os.length=a.length+b.length
 small:c<4294967296
 val:val os+4294967296^(i+j)*c=Pl.val (a.take i)*Pl.val b+4294967296^i*(a.getD i 0).toNat*Pl.val (b.take j)
 zero:∀ k,i+b.length<=k->os.getD k 0=0
theorem Qtx(c:UInt32)(h:k≠m): (l.set k c).getD m 0=l.getD m 0:=by grind
theorem Qqp(hx:x<4294967296)(hy:y<4294967296): x*y<=18446744065119617025:=by
 have:=Nat.mul_le_mul (show x<=4294967295 by omega) (show y<=4294967295 by omega);omega
theorem MulO.first: MulO a b 0 (List.replicate (a.length+b.length) 0):=by
 refine⟨by simp,?_,λk _=>?_⟩
 .have:∀ n,Pl.val (List.replicate n (0:UInt32))=0:=λn=>by
   induction n with
   | zero=>rfl
   | succ n ih=>rw[List.replicate_succ];simp[Pl.val,ih]
  rw[this];simp[Pl.val]
 repeat grind
theorem MulO.start(h:MulO a b i os): MulI a b i 0 0 os :=
 ⟨h.len,om,by rw[h.val];simp[Pl.val],h.zero⟩
theorem MulI.step{j s:Nat}(h:MulI a b i j c os)(hi:i<a.length)(hj:j<b.length)(hs:s=c+((a.getD i 0).toNat*(b.getD j 0).toNat+(os.getD (i+j) 0).toNat)):
  MulI a b i (j+1) (s / 4294967296) (os.set (i+j) (UInt32.ofNat s))/\s<18446744073709551616:=by
 obtain⟨h1,h2,h3,h4⟩:=h;have O:(a.getD i 0).toNat<4294967296:=(a.getD i 0).toNat_lt;have J:(b.getD j 0).toNat<4294967296:=(b.getD j 0).toNat_lt;have hz:(os.getD (i+j) 0).toNat<4294967296:=(os.getD (i+j) 0).toNat_lt;have hm:=Qqp O J;have u:s<18446744073709551616:=om
 refine⟨⟨by grind,om,?_,λk hk=>by grind⟩,u⟩;have e:=Jrc (UInt32.ofNat s) (show i+j<os.length by omega);rw[UInt32.toNat_ofNat']at e;rw[Jks];generalize hX:(a.getD i 0).toNat=X at *
 generalize hY:(b.getD j 0).toNat=Y at *
 generalize hZ:(os.getD (i+j) 0).toNat=Z at *
 generalize Pl.val (os.set (i+j) (UInt32.ofNat s))=V' at *
 generalize Pl.val os=V at *
 generalize Pl.val (b.take j)=W at *
 generalize Pl.val (a.take i)*Pl.val b=U at *
 have G:4294967296^(i+(j+1))*(s / 4294967296)=4294967296^(i+j)*(4294967296*(s / 4294967296)):=by grind
 have D:4294967296^i*X*(W+4294967296^j*Y)=4294967296^i*X*W+4294967296^(i+j)*(X*Y):=by grind
 have p3:4294967296^(i+j)*(s % 2^32)+4294967296^(i+j)*(4294967296*(s / 4294967296))=4294967296^(i+j)*c+(4294967296^(i+j)*(X*Y)+4294967296^(i+j)*Z):=by
  rw[<-Nat.mul_add,<-Nat.mul_add,<-Nat.mul_add];congr 1
  omega
 rw[G,D];omega
theorem MulI.last(h:MulI a b i b.length c os)(hi:i<a.length): MulO a b (i+1) (os.set (i+b.length) (UInt32.ofNat c)):=by
 obtain⟨J,G,u,j⟩:=h;refine⟨by grind,?_,λk D=>by grind [Qtx]⟩;have e:=Jrc (UInt32.ofNat c) (show i+b.length<os.length by omega);rw[j _ (nR _),UInt32.toNat_ofNat',show c % 2^32=c by omega,show(0:UInt32).toNat=0 from rfl,Nat.mul_zero,Nat.add_zero]at e;rw[e,u,List.take_length,Jks,Nat.add_mul]
theorem Qps{z:Nat}(hc:c<4294967296)(hx:x<4294967296)(hy:y<4294967296)(hz:z<4294967296):
  IntKind.u64.wrap ((c:Int)+IntKind.u64.wrap (IntKind.u64.wrap (IntKind.u64.wrap (x:Int)*IntKind.u64.wrap (y:Int))+IntKind.u64.wrap (z:Int)))=((c+(x*y+z):Nat):Int):=by
 have i:=Qqp hx hy;have w:∀ n:Nat,n<18446744073709551616->IntKind.u64.wrap (n:Int)=(n:Int):=λn hn=>by rw[IntKind.wrap_u64];omega
 rw[w x om,w y om,w z om,<-Int.natCast_mul,w _ om,<-Int.natCast_add,w _ om,<-Int.natCast_add,w _ om]
theorem Jzm{v u:Value}{w:World}(hv:NatV w v n)(hu:NatV w u m)(hln:(Jq n).length<=1000)(hlm:(Jq m).length<=1000): Ret Tryz.prog 135 [v,u] w λr w'=>NatV w' r (n*m)/\Fresh w r/\Ext w w':=by
 refine enE Tryz.func135 Tryz.ntmps135 ?_;refine clR (Yl hv) ?_;rintro v' w' ⟨⟨A,rfl,ha⟩,rfl⟩;refine clR (Yl hu) ?_;rintro u' Z ⟨⟨B,rfl,hb⟩,rfl⟩;generalize hL:(Jq n).length=L at *
 generalize hM:(Jq m).length=M at *
 refine ρ ?_;refine mkn EN (L+M) om (by unfold maxLen;omega) ?_;intro w1 O ae aj hO;have a9:Zp w1 Z.heap.size (.slice O (L+M) (L+M)) (List.replicate (L+M) 0):=by
  have e:(madeCells (Value.int .u32 0).cells ((L+M)*1)).toList=Nc (List.replicate (L+M) 0):=by rw[Nat.mul_one,<-Jnp];exact Us _ _
  grind
 refine ρ ?_;refine Jo (fun (i:Nat) (D:List UInt32)=>[(0,.slice A L L),(1,.slice B M M),(5,.slice O (L+M) (L+M)),(20,.int .i64 (L:Int)),(21,.int .i64 (i:Int))])
  (λi D w2=>i<=L/\Ext Z w2/\MulO (Jq n) (Jq m) i D/\Zp w2 Z.heap.size (.slice O (L+M) (L+M)) D) (λi _=>L-i) 0 (List.replicate (L+M) 0) sB
  ⟨Nat.zero_le _,ae,by grind [MulO.first],a9⟩ ?_
 rintro i D w2 ⟨hi,a8,hI,a7⟩;refine ciR (λh=>?_) (λh=>?_)
 .have li:i<L:=by have:=oT h;omega
  clear h;refine ρ ?_;refine Xn (fun (j c:Nat) (D:List UInt32)=>[(0,.slice A L L),(1,.slice B M M),(5,.slice O (L+M) (L+M)),(6,.int .i64 (i:Int)),(7,.int .u64 (c:Int)),(20,.int .i64 (L:Int)),(21,.int .i64 (i:Int)),(25,.int .i64 (M:Int)),(26,.int .i64 (j:Int))])
   (λj c D w3=>j<=M/\Ext Z w3/\MulI (Jq n) (Jq m) i j c D/\Zp w3 Z.heap.size (.slice O (L+M) (L+M)) D) (λj _ _=>M-j) 0 0 D sB
   ⟨Nat.zero_le _,a8,hI.start,a7⟩ ?_
  clear hI a7;rintro j c D w3 ⟨hj,a3,hI,a1⟩;have G:D.length=L+M:=by rw[hI.len,hL,hM]
  refine ciR (λh=>?_) (λh=>?_)
  .have lj:j<M:=by have:=oT h;omega
   clear h;have a2:Ext w3 w3.drew:=(Ext.refl w3).drew;have ac:=ha.ext (a3.trans a2);have ab:=hb.ext (a3.trans a2);have J:=Jk a1 a2;rw[G]at J;have a6:Rd w3.drew 1 O (L+M) (Nc D):=Rd.own J;refine drR (scq 22 []) ?_;refine Jb i ac li ?_;refine Jz (ac.cell (Xe (show i<(Jq n).length by omega))) ?_;refine Jb j ab lj ?_;refine Jz (ab.cell (Xe (show j<(Jq m).length by omega))) ?_;refine Jb (i+j) a6 om ?_;refine Jz (a6.cell (Xe (show i+j<D.length by omega))) ?_;refine ρd ?_;have hx:((Jq n).getD i 0).toNat<4294967296:=((Jq n).getD i 0).toNat_lt;have hy:((Jq m).getD j 0).toNat<4294967296:=((Jq m).getD j 0).toNat_lt;have hz:(D.getD (i+j) 0).toNat<4294967296:=(D.getD (i+j) 0).toNat_lt;obtain⟨a5,ai⟩:=hI.step (s:=c+(((Jq n).getD i 0).toNat*((Jq m).getD j 0).toNat+(D.getD (i+j) 0).toNat)) om om rfl;have aa:=Qps hI.small hx hy hz
   refine ρ ?_;generalize c+(((Jq n).getD i 0).toNat*((Jq m).getD j 0).toNat+(D.getD (i+j) 0).toNat)=s at *
   refine kv 7 (u:=.int .u64 (s:Int)) (congrArg (Value.int .u64) aa) ?_;refine kv 55 (u:=.int .u32 ((UInt32.ofNat s).toNat:Int)) (congrArg (Value.int .u32) ((congrArg IntKind.u32.wrap aa).trans (Ux s))) ?_;obtain⟨s1,s2,s3,s4,s5⟩:=Zt J (q:=i+j) om (.int .u32 ((UInt32.ofNat s).toNat:Int));refine ixR (i+j) a6 om ?_;refine sto (s1.trans (Xe (show i+j<D.length by omega))) s2 ?_;refine ρ ?_;refine Uj rfl rfl (by decide) rfl ?_;refine ρ ?_;refine Qt (j+1) (s / 4294967296) (D.set (i+j) (UInt32.ofNat s)) ?_ ⟨lj,(a3.trans a2).setCell s4 _,a5,?_⟩ om
   .rw[Jfj];exact sB
   rw[Zp,List.length_set,G,<-Jkk];exact s3
  have ag:j=M:=by grind
  subst ag;clear h;have af:MulI (Jq n) (Jq m) i (Jq m).length c D:=by rw[hM];exact hI
  have hl:=af.last (show i<(Jq n).length by omega);have J:=a1;rw[Zp,G]at J;obtain⟨s1,s2,s3,s4,s5⟩:=Zt J (q:=i+j) om (.int .u32 ((UInt32.ofNat c).toNat:Int));refine ixR (i+j) (Rd.own J) om ?_;rw[Ux];refine sto (s1.trans (Xe (show i+j<D.length by omega))) s2 ?_;refine ρ ?_;rw[hM]at hl;refine Jl (i+1) (D.set (i+j) (UInt32.ofNat c)) sO ⟨li,a3.setCell s4 _,hl,?_⟩ om;rw[Zp,List.length_set,G,<-Jkk];exact s3
 have ah:i=L:=by grind
 have G:D.length=L+M:=by rw[hI.len,hL,hM]
 have a4:=hI.val;rw[ah,List.take_of_length_le om,Vo,Vo]at a4;have a1:=a7;rw[Zp,G]at a1;have hr:=Rd.own a1;refine ρ ?_;rw[<-G]at hr ⊢;refine cl (Ij hr (nR _) om) ?_;rintro t w4 ⟨rfl,rfl⟩;have:=Jjp hr om;rw[a4]at this ⊢;refine ρ ?_;exact Jj ⟨this,λad _ _ e=>hO ad (by injection e),a8⟩
open Go.RowKit Pl Go.Wk _root_.Go.Proofs.Tryz
variable {l os:List UInt32}{c d k m n r x:Nat}{A:Option Addr}{w:World}
theorem Jhm(h0:n≠0)(h:n<4294967296): Jq n=[UInt32.ofNat n]:=by grind [Jzr,limbs_0]
theorem Jmn{cs:List Value}(hr:Rd w 1 A n cs)(h1:∀ u∈cs,u.oneCell'=true)(hb:n*4<=140737488355328):
  Ret prog 64 [.slice A n c] w λv w'=>w'.ownsRow w.heap.size 64 1 v n cs/\Ext w w':=by
 refine enE func64 ntmps64 ?_;refine ρ ?_;refine Jxn ?_;refine ciR (λh=>?_) (λh=>?_)
 .have Z:A=none:=by simpa using h
  subst Z;have hn:n=0:=by
   rcases Nat.eq_zero_or_pos n with h0|h0
   .exact h0
   obtain⟨ad,h2,_⟩:=hr.isome h0 om;cases h2
  subst hn;have J:cs=[]:=List.eq_nil_of_length_eq_zero (by rw[hr.len]);subst J;refine ρ ?_;exact Jj ⟨Zw _ _ _ _,Ext.refl w⟩
 refine Qv Qvh ?_;intro w1 b i O G;refine ρ ?_;refine apo i EN (G.own (n:=0) O rfl (Nat.zero_le _)) (hr.ext i) h1 (by unfold maxLen;omega) om ?_;intro v2 w2 j D _ _;refine ρ ?_;rw[Nat.zero_add,List.nil_append]at j;exact Jj ⟨j,D⟩
theorem Jrd(h:k<l.length): val (l.drop k)=(l.getD k 0).toNat+4294967296*val (l.drop (k+1)):=by grind [List.drop_eq_getElem_cons,val,List.getD,List.getElem?_eq_getElem]
structure DivI(l:List UInt32)(d k r:Nat)(os:List UInt32): Prop where
 len:os.length=l.length
 lt:r<d
 old:∀ j,j<k->os.getD j 0=l.getD j 0
 val:val (l.drop k)=Pl.val (os.drop k)*d+r
theorem DivI.step{s:Nat}(h:DivI l d (k+1) r os)(hk:k<l.length)(hd:d<4294967296)(hs:s=r*4294967296+(l.getD k 0).toNat): DivI l d k (s % d) (os.set k (UInt32.ofNat (s / d)))/\s<18446744073709551616:=by
 obtain⟨h1,h2,h3,u⟩:=h;have J:(l.getD k 0).toNat<4294967296:=(l.getD k 0).toNat_lt;have i:s<4294967296*d:=by rw[hs];omega
 have O:s / d<4294967296:=Nat.div_lt_of_lt_mul (by grind);refine⟨⟨by grind,Nat.mod_lt _ om,λj Z=>by grind,?_⟩,om⟩;rw[Jrd hk,Jrd (l:=os.set k (UInt32.ofNat (s / d))) (k:=k) (by grind),u];have G:(os.set k (UInt32.ofNat (s / d))).getD k 0=UInt32.ofNat (s / d):=by grind
 have D:(os.set k (UInt32.ofNat (s / d))).drop (k+1)=os.drop (k+1):=List.drop_set_of_lt om;rw[G,D,UInt32.toNat_ofNat',Nat.mod_eq_of_lt (show s / d<2^32 by omega)];grind [Nat.div_add_mod,Nat.mul_add,Nat.add_mul,Nat.mul_assoc,Nat.mul_comm]
theorem Xqd(hr:r<4294967296)(hx:x<4294967296): bits .or .u64 (IntKind.u64.wrap ((r:Int)*2^min (32:Int).toNat IntKind.u64.bits)) (IntKind.u64.wrap (x:Int))=((r*4294967296+x:Nat):Int):=by
 have u:(2:Int)^min (32:Int).toNat IntKind.u64.bits=4294967296:=by decide
 have j:IntKind.u64.wrap ((r:Int)*4294967296)=((r*4294967296:Nat):Int):=by rw[IntKind.wrap_u64];omega
 have i:IntKind.u64.wrap (x:Int)=(x:Int):=by rw[IntKind.wrap_u64];omega
 rw[u,j,i,u64_or_nat _ _ om om,nat_join 32 (r*4294967296) x (by simp) om]
theorem Xqg{L base:Nat}(hL:l.length=L)(hLm:L<=1100)(ho:w.ownsRow base 64 1 (.slice A L c) L (Nc l))(h0:0<d)(hd:d<4294967296):
  Ret prog 181 [.slice A L c,.int .u32 (d:Int)] w λr w'=>r=.int .u32 ((val l % d:Nat):Int)/\(∃ os:List UInt32,os.length=L/\val os=val l / d/\w'.ownsRow base 64 1 (.slice A L c) L (Nc os))/\w.grownBy w' (Value.slice A L c).ownBlock:=by
 refine enE func181 ntmps181 ?_;refine ρ ?_;refine Xn (fun (k r:Nat) (os:List UInt32)=>[(0,.slice A L c),(1,.int .u32 (d:Int)),(5,.int .u64 (r:Int)),(6,.int .i64 ((k:Int)-1))])
  (λk r os w1=>k<=L/\DivI l d k r os/\w1.ownsRow base 64 1 (.slice A L c) L (Nc os)/\w.grownBy w1 (Value.slice A L c).ownBlock) (λk _ _=>k) L 0 l sB
  ⟨nR _,⟨rfl,h0,λ_ _=>rfl,by grind [List.drop_of_length_le,val]⟩,ho,Vz (Ext.refl w) _⟩ ?_
 rintro k r os w1 ⟨hk,Z,G,O⟩;have a2:os.length=L:=by rw[Z.len,hL]
 refine ciR (λh=>?_) (λh=>?_)
 .obtain⟨k,rfl⟩:∃ j,k=j+1:=⟨k-1,by grind⟩;clear h;obtain⟨s,hs⟩:∃ s,s=r*4294967296+(l.getD k 0).toNat:=⟨_,rfl⟩;obtain⟨i,a4⟩:=Z.step om hd hs;have hx:(l.getD k 0).toNat<4294967296:=(l.getD k 0).toNat_lt;have a5:=Z.lt;have D:Rd w1 1 A L (Nc os):=Rd.own G;have J:=Z.old k om;refine ρ ?_;refine wshl rfl rfl (by decide) rfl ?_;refine ixR k D om ?_;refine ldR (D.cell (Xe (show k<os.length by omega))) ?_;rw[J];refine ρ ?_;have a1:bits .or .u64 (IntKind.u64.wrap ((r:Int)*2^min (32:Int).toNat IntKind.u64.bits)) (IntKind.u64.wrap ((l.getD k 0).toNat:Int))=(s:Int):=by grind [Xqd]
  refine kv 5 (u:=.int .u64 (s:Int)) (congrArg (Value.int .u64) a1) ?_;refine kv 24 (u:=.int .u64 (s:Int)) (congrArg (Value.int .u64) a1) ?_;have ed:IntKind.u64.wrap (d:Int)=(d:Int):=by rw[IntKind.wrap_u64];omega
  refine kv 26 (u:=.int .u64 (d:Int)) (congrArg (Value.int .u64) ed) ?_;refine wquo rfl rfl om rfl ?_;have hq:s / d<=s:=Nat.div_le_self _ _;have e2:IntKind.u32.wrap (IntKind.u64.wrap ((s:Int).tdiv d))=((UInt32.ofNat (s / d)).toNat:Int):=by grind [Uq,Ux]
  obtain⟨s1,s2,s3,s4,s5⟩:=Zt G (q:=k) om (.int .u32 ((UInt32.ofNat (s / d)).toNat:Int));refine ixR k D om ?_;rw[e2];refine sto (s1.trans (Xe (show k<os.length by omega))) s2 ?_;refine ρ ?_;refine kv 32 (u:=.int .u64 (d:Int)) (congrArg (Value.int .u64) ed) ?_;refine wrem rfl rfl om rfl ?_;refine ρ ?_;refine Qt k (s % d) (os.set k (UInt32.ofNat (s / d))) ?_ ⟨om,i,?_,Zm O s5⟩ om
  .have e3:(s:Int).tmod d=((s % d:Nat):Int):=rfl;rw[e3];exact sO
  rw[<-Jkk];exact s3
 have a3:k=0:=by have:=oF h;omega
 subst a3;obtain⟨i1,i2,_,i4⟩:=Z;rw[List.drop_zero,List.drop_zero]at i4;have hm:r=val l % d:=by rw[i4,Nat.add_comm,Nat.add_mul_mod_self_right,Nat.mod_eq_of_lt i2]
 have hv:val os=val l / d:=by
  rw[i4,Nat.add_comm,Nat.add_mul_div_right _ _ h0,Nat.div_eq_of_lt i2,Nat.zero_add]
 refine ρ ?_;refine Jj ⟨?_,⟨os,a2,hv,G⟩,O⟩;rw[Ux,UInt32.toNat_ofNat',Nat.mod_eq_of_lt (show r<2^32 by omega),hm]
theorem Qpr{v u:Value}(hv:NatV w v n)(hu:NatV w u m)(hn:(Jq n).length<=1000)(h0:0<m)(hm:m<4294967296):
  Ret prog 144 [v,u] w λr w'=>(∃ x y,r=.tuple #[x,y,.int .i64 0]/\NatV w' x (n / m)/\NatV w' y (n % m))/\Ext w w':=by
 have G:Jq m=[UInt32.ofNat m]:=Jhm om hm;refine enE func144 ntmps144 ?_;refine clR (Yl hv) ?_;rintro v' w' ⟨⟨A,rfl,ha⟩,rfl⟩;refine clR (Yl hu) ?_;rintro u' a1 ⟨⟨B,rfl,hb⟩,rfl⟩;rw[G]at hb ⊢;refine clR (Uv (n:=n) (m:=m) ⟨A,_,rfl,Nat.le_refl _,om,ha⟩ ⟨B,1,by rw[G],by rw[G];simp,by rw[G];simp,by rw[G];exact hb⟩) ?_;rintro t w' ⟨rfl,i⟩;refine ciR (λh=>?_) (λh=>?_)
 .have a5:n<m:=by
   have:=oT h;unfold Zg at this;grind
  refine clR (Qwp (ha.ext i) (Jyc _) om) ?_;rintro v' w1 ⟨⟨A',c',rfl,hc,hr⟩,hx⟩;refine ρ ?_;refine Vq ⟨⟨.slice none 0 0,_,rfl,?_,?_⟩,i.trans hx⟩
  .grind [Nat.div_eq_of_lt,NatV.nil]
  rw[Nat.mod_eq_of_lt a5];exact⟨A',c',rfl,hc,om,hr⟩
 refine clR (Jmn (ha.ext i) (Jyc _) om) ?_;rintro q w1 ⟨ho,O⟩;obtain⟨A',c',rfl,hc,hf⟩:=Jy ho;have Z:=(hb.ext i).ext O;refine ixR 0 Z (by simp) ?_;refine ldR (Z.cell (Xe (l:=[UInt32.ofNat m]) (k:=0) (by simp))) ?_;have em:(([UInt32.ofNat m].getD 0 0).toNat:Int)=(m:Int):=by grind [UInt32.ofNat,UInt32.toNat_ofNat',Nat.mod_eq_of_lt]
 rw[em];refine clR (Xqg rfl om ho h0 hm) ?_;rintro r w2 ⟨rfl,⟨os,a3,j,a4⟩,a6⟩;rw[Vo]at j ⊢;have a2:Ext a1 w2:=Ql (i.trans O) a6 (λk e=>nL i.size (hf k e).1);have D:=Rd.own a4;rw[<-a3]at D hc ⊢;refine clR (Ij D hc om) ?_;rintro t w3 ⟨rfl,rfl⟩;have:=Jjp D om;rw[j]at this ⊢;have hr:n % m<m:=Nat.mod_lt _ h0;refine ρ ?_;rw[Uq om];refine cl (Ig (n % m) om _) ?_;rintro y w4 ⟨hy,J⟩;refine ρ ?_;exact Vq ⟨⟨_,y,rfl,this.ext J,hy⟩,a2.trans J⟩
end Go.Proofs.YtgobkbeokaaplaaGreatDoor
namespace Go.Wk
variable {d n t ty:Nat}
theorem dbx{P:Program}{al:AL}{w:World}{Q:Exit->Act->World->Prop}{ops:Array Oper}{drest:List (Nat×Oper)}{pos:String}{aft:Array Edge}{x:Operand}{v:Value}{cs:List Value}(kk:∀ w1 b,Ext w w1->w.heap.size<=b->Blk w1 b t cs->WD P n ops Q drest ((d,.pointer (some ⟨b,0,none⟩))::al) w1)(hx:ev al x=some v:=by rfl)(hv:v.cells=cs.toArray:=by rfl)(hd:Nat.blt d n=true:=by rfl): WD P n ops Q ((1,⟨some d,.box t x,ty,pos,aft,none⟩)::drest) al w :=
 by grind [Gc,bx,Jd,Gb]
end Go.Wk
namespace Go.Proofs.YtgobkbeokaaplaaGreatDoor
open Go.RowKit Pl Go.Wk _root_.Go.Proofs.Tryz
attribute [local irreducible] WC WL QX WD WDB WP WN WG
variable {c m n:Nat}{N N':Nat->Prop}{l r t:Tr}{pl pr u v wt:Value}{w w':World}
theorem Qxk(h:0<(Jq n).length): n≠0:=by grind [limbs_0]
def NatX(N:Nat->Prop)(w:World)(v:Value)(n:Nat): Prop:=NatV w v n/\(n≠0->∀ ad m c,v=.slice (some ad) m c->¬ N ad.block)
theorem NatX.ext{N:Nat->Prop}{w w':World}{v:Value}{n:Nat}(h:NatX N w v n)(hx:Ext w w'): NatX N w' v n:=⟨h.1.ext hx,h.2⟩
theorem NatX.gr(h:NatX N w v n)(hg:GrN N w w'): NatX N w' v n:=by
 obtain⟨⟨A,c,rfl,D,u,j⟩,i⟩:=h;exact⟨⟨A,c,rfl,D,u,Vb j hg (λh0 G e=>i (Qxk (by grind [Qbf])) G _ _ (by rw[e]))⟩,i⟩
theorem NatX.nil{N:Nat->Prop}(w:World): NatX N w (.slice none 0 0) 0:=⟨NatV.nil w,λ_ i m c e=>by cases e⟩
theorem limbs_pos'(h:n≠0): 0<(Jq n).length:=by rw[Jzr h];simp
theorem NatX.old(h:NatX N w v n)(hs:∀ k,N' k->N k∨w.heap.size<=k): NatX N' w v n:=⟨h.1,λh0 j m c e i=>by
 rcases hs _ i with h1|h1
 .exact h.2 h0 j m c e h1
 obtain⟨A,G,D,_,_,u⟩:=h.1;grind [Rd.isome,limbs_pos']⟩
theorem Fresh.x(h:Fresh w v)(hn:NatV w' v n)(hN:∀ k,N k->k<w.heap.size): NatX N w' v n :=
 ⟨hn,λ_ j m c e i=>by have:=h j m c e;have:=hN _ i;omega⟩
def TrV(N:Nat->Prop)(w:World): Tr->Value->Prop
 | .nil,u=>u=.pointer none
 | .node l v x r,u=>∃ b wt pl pr st,u=.pointer (some ⟨b,0,none⟩)/\(Blk w b 232 (v.cells++[wt,pl,pr,.int .i64 ((Tr.node l v x r).ht:Int),.int .i64 ((Tr.node l v x r).sz:Int),st])/\¬ N b)/\NatX N w wt x/\NatX N w st (Tr.node l v x r).sum/\TrV N w l pl/\TrV N w r pr
theorem TrV.gr{N:Nat->Prop}{w w':World}: ∀ {t:Tr} {u:Value},TrV N w t u->GrN N w w'->TrV N w' t u
 | .nil,u,h,_=>h
 | .node l v x r,u,h,hx=>by
  obtain⟨b,wt,pl,pr,st,h1,⟨h2,h2'⟩,h3,h4,h5,h6⟩:=h;exact⟨b,wt,pl,pr,st,h1,⟨Jc h2 hx h2',h2'⟩,h3.gr hx,h4.gr hx,h5.gr hx,h6.gr hx⟩
theorem TrV.ext{N:Nat->Prop}{w w':World}{t:Tr}{u:Value}(h:TrV N w t u)(hx:Ext w w'): TrV N w' t u:=h.gr (GrN.ext hx)
theorem TrV.old{N N':Nat->Prop}{w:World}(hs:∀ k,N' k->N k∨w.heap.size<=k): ∀ {t:Tr} {u:Value},TrV N w t u->TrV N' w t u
 | .nil,u,h=>h
 | .node l v x r,u,h=>by
  obtain⟨b,wt,pl,pr,st,h1,⟨h2,h2'⟩,h3,h4,h5,h6⟩:=h;exact⟨b,wt,pl,pr,st,h1,⟨h2,λhk=>(hs _ hk).elim h2' (λh=>by have:=h2.lt;omega)⟩,h3.old hs,h4.old hs,h5.old hs,h6.old hs⟩
theorem TrV.ptr(h:TrV N w t u): ∃ p,u=.pointer p:=by
 cases t with
 | nil=>exact⟨none,h⟩
 | node l v x r=>obtain⟨b,_,_,_,_,i,_⟩:=h;exact⟨_,i⟩
theorem Jwn(hv:NatV w v n)(hs:(Jq n).length<=1000): Ret prog 86 [v] w λr w'=>NatV w' r n/\Fresh w r/\Ext w w':=by
 refine enE func86 ntmps86 ?_;refine clR (Yl hv) ?_;rintro j w' ⟨⟨A,rfl,J⟩,rfl⟩;refine clR (Jmn J (Jyc _) om) ?_;rintro j w1 ⟨i,u⟩;obtain⟨A',O,rfl,G,D⟩:=Jy i;refine ρ ?_;refine Jj ⟨⟨A',O,rfl,G,om,Rd.own i⟩,λZ m c e=>?_,u⟩;injection e with e1 e2 e3
 subst e1;exact(D Z.block rfl).1
theorem Qyc: ∃ k:Nat,k=900:=⟨_,rfl⟩
noncomputable def bK: Nat:=Classical.choose Qyc
theorem Jnf: bK=900:=Classical.choose_spec Qyc
def Nb(n:Nat): Prop:=n<4294967296^bK
theorem Nb.len(h:Nb n): (Jq n).length<=1000:=by
 rcases Nat.eq_zero_or_pos n with h0|h0
 .rw[h0,limbs_0];simp
 have i:=Jhn (n:=n) om;rcases Nat.lt_or_ge bK ((Jq n).length-1) with h2|h2
 .exact absurd (nM h (nL (Nat.pow_le_pow_right (by decide) (Nat.le_of_lt h2)) i)) (Nat.lt_irrefl _)
 rw[Jnf]at h2;omega
theorem Nb.le(h:Nb n)(hm:m<=n): Nb m:=Nat.lt_of_le_of_lt hm h
theorem Ia(h:TrV N w t u): Ret prog 81 [u] w λr w'=>r=.int .i64 (t.ht:Int)/\w'=w:=by
 refine enE func81 ntmps81 ?_;cases t with
 | nil=>
  obtain rfl:u=.pointer none:=h;refine ρ ?_;refine pnl ?_;refine ρ ?_;exact Jj ⟨rfl,rfl⟩
 | node l v x r=>
  obtain⟨b,D,J,G,st,rfl,⟨j,_⟩,h3,h4,Z,O⟩:=h;refine ρ ?_;refine pnl ?_;refine ldR (j.at (i:=6) rfl) ?_;refine ρ ?_;exact Jj ⟨rfl,rfl⟩
theorem Jsm(h:TrV N w t u): Ret prog 82 [u] w λr w'=>r=.int .i64 (t.sz:Int)/\w'=w:=by
 refine enE func82 ntmps82 ?_;cases t with
 | nil=>
  obtain rfl:u=.pointer none:=h;refine ρ ?_;refine pnl ?_;refine ρ ?_;exact Jj ⟨rfl,rfl⟩
 | node l v x r=>
  obtain⟨b,D,J,G,st,rfl,⟨j,_⟩,h3,h4,Z,O⟩:=h;refine ρ ?_;refine pnl ?_;refine ldR (j.at (i:=7) rfl) ?_;refine ρ ?_;exact Jj ⟨rfl,rfl⟩
theorem Jxk(h:TrV N w t u): Ret prog 176 [u] w λr w'=>NatX N w r t.sum/\w'=w:=by
 refine enE func176 ntmps176 ?_;cases t with
 | nil=>
  obtain rfl:u=.pointer none:=h;refine ρ ?_;refine pnl ?_;refine ρ ?_;exact Jj ⟨NatX.nil _,rfl⟩
 | node l v x r=>
  obtain⟨b,G,O,J,st,rfl,⟨D,_⟩,h3,j,h5,Z⟩:=h;refine ρ ?_;refine pnl ?_;refine ldR (D.at (i:=8) rfl) ?_;refine ρ ?_;exact Jj ⟨j,rfl⟩
structure NatsV(w:World)(A:Option Addr)(us:List Value)(ns:List Nat): Prop where
 rd:Rd w 1 A us.length us
 len:us.length=ns.length
 nat:∀ i,i<ns.length->NatV w (us.getD i (.int .i64 0)) (ns.getD i 0)
theorem Qpn{A:Option Addr}{us:List Value}{ns:List Nat}(h:NatsV w A us ns)(hN:Nb (ns.foldl (· + ·) 0))(hl:ns.length<=1000)(hsub:∀ i,i<=ns.length->Nb ((ns.take i).foldl (· + ·) 0))(hone:∀ x∈ns,Nb x):
  Ret prog 227 [.slice A us.length c] w λr w'=>NatV w' r (ns.foldl (· + ·) 0)/\Fresh w r/\Ext w w':=by
 have a1:=h.len;refine enE func227 ntmps227 ?_;refine ρ ?_;refine Jo (fun (i:Nat) (vs:Value)=>[(0,.slice A us.length c),(3,vs),(6,.int .i64 (us.length:Int)),(7,.int .i64 (i:Int))])
  (λi vs w'=>i<=ns.length/\Ext w w'/\NatV w' vs ((ns.take i).foldl (· + ·) 0)/\Fresh w vs) (λi _=>ns.length-i) 0 (.slice none 0 0) sB
  ⟨Nat.zero_le _,Ext.refl _,NatV.nil _,λad m c e=>by cases e⟩ ?_
 rintro i vs w1 ⟨hi,j,hs,J⟩;refine ciR (λZ=>?_) (λZ=>?_)
 .have li:i<ns.length:=by have:=oT Z;omega
  clear Z;refine ixR i (h.rd.ext j) om ?_;have u:us[i]?=some (us.getD i (.int .i64 0)):=by grind
  refine ldR ((h.rd.ext j).cell u) ?_;refine clR (Gt hs ((h.nat i li).ext j) (hsub i hi).len (hone _ (by grind)).len) ?_;rintro r w2 ⟨hr,O,D⟩;refine ρ ?_;refine Jl (i+1) r sO ⟨li,j.trans D,?_,λad m c e=>nL j.size (O ad m c e)⟩ om;grind [Qs]
 have G:i=ns.length:=by grind
 rw[G,List.take_length]at hs;refine ρ ?_;exact Jj ⟨hs,J,j⟩
theorem Xkj(v:V)(wt st:Value)(A1 A2:Option Addr)(n1 n2 c1 c2:Nat)(pl pr:Option Addr)(y z:Int)(h1:wt=.slice A1 n1 c1)(h2:st=.slice A2 n2 c2)(w:World): (Instr.build 232 #[(0,.agg (v.cells++[wt]).toArray),(1,.pointer pl),(2,.pointer pr),(3,.int .i64 y),(4,.int .i64 z),(5,st)]).run prog w=.ok (.agg (v.cells++[wt,.pointer pl,.pointer pr,.int .i64 y,.int .i64 z,st]).toArray) w:=by
 subst h1;subst h2;kernel_rfl
theorem Xzk(v1 v2 v3:Value)(A1 A2 A3:Option Addr)(n1 n2 n3 c1 c2 c3:Nat)(h1:v1=.slice A1 n1 c1)(h2:v2=.slice A2 n2 c2)(h3:v3=.slice A3 n3 c3)(w:World): (Instr.buildSlice 349 3 #[(0,v1),(1,v2),(2,v3)]).run prog w=.ok (.slice (some ⟨w.heap.size,0,none⟩) 3 3) (w.alloc (.cells [v1,v2,v3].toArray 45)):=by
 subst h1;subst h2;subst h3;kernel_rfl
theorem Uy{v:V}{x:Nat}(hl:TrV N w l pl)(hr:TrV N w r pr)(hw:NatX N w wt x)(hN:∀ k,N k->k<w.heap.size)(hb:Nb (Tr.node l v x r).sum)(hs:(Tr.node l v x r).sz<=1000000):
  Ret prog 199 [pl,.agg (v.cells++[wt]).toArray,pr] w λu w'=>TrV N w' (.node l v x r) u/\Ext w w':=by
 obtain⟨ql,rfl⟩:=hl.ptr;obtain⟨qr,rfl⟩:=hr.ptr;refine enE func199 ntmps199 ?_;refine bxR (cs:=v.cells++[wt]) ?_;intro w1 b ab am hB;refine ρ ?_;have a3:Ext w1 w1.drew:=(Ext.refl w1).drew;have G:=ab.trans a3;have a9:=hB.ext a3;have Z:=hl.ext G;have O:=hr.ext G;have a2:=hw.ext G;have ai:=Tr.ht_le l;have ah:=Tr.ht_le r;simp only[Tr.sz]at hs;refine dr [(0,0),(0,1),(0,2),(0,3),(0,5),(0,9),(0,12),(0,15),(0,17),(0,18),(0,19),(1,4),(1,6),(0,7),(0,8),(1,10),(0,11),(1,13),(0,14),(1,16),(1,20),(1,21),(1,22),(0,23),(1,24),(0,25)] kr ?_;refine Qz (cs:=v.cells++[wt]) (λj u hu=>a9.at hu) ?_;refine Jz (a9.at (i:=3) rfl) ?_;refine Jh (Ia Z) ?_;rintro u2 w2 ⟨rfl,rfl⟩;refine⟨Ext.refl _,?_⟩;refine Jh (Ia O) ?_;rintro u2 w2 ⟨rfl,rfl⟩;refine⟨Ext.refl _,?_⟩;refine Jh (Jsm Z) ?_;rintro u2 w2 ⟨rfl,rfl⟩;refine⟨Ext.refl _,?_⟩;refine Jh (Jsm O) ?_;rintro u2 w2 ⟨rfl,rfl⟩
 refine⟨Ext.refl _,?_⟩;refine Jh (Jxk Z) ?_;rintro ul w2 ⟨a6,rfl⟩;refine⟨Ext.refl _,?_⟩;refine Jh (Jxk O) ?_;rintro ur w2 ⟨a5,rfl⟩;refine⟨Ext.refl _,?_⟩;obtain⟨A1,c1,e1,_⟩:=id a6.1;obtain⟨A2,c2,e2,_⟩:=id a2.1;obtain⟨A3,c3,e3,_⟩:=id a5.1;refine ρd ?_;refine dbsl (Xzk _ _ _ _ _ _ _ _ _ _ _ _ e1 e2 e3) ?_;intro w3 b3 J ak ag;have ad:NatsV w3 (some ⟨b3,0,none⟩) [ul,wt,ur] [l.sum,x,r.sum]:=by
  refine⟨ag.rd (n:=3) rfl,rfl,λi hi=>?_⟩;match i,hi with
  | 0,_=>exact a6.1.ext J
  | 1,_=>exact a2.1.ext J
  | 2,_=>exact a5.1.ext J
 simp only[Tr.sum]at hb;refine Jh (Qpn (us:=[ul,wt,ur]) ad (hb.le (by simp)) (by simp) (λi hi=>hb.le ?_) (λy hy=>hb.le ?_)) ?_
 .match i,hi with
  | 0,_=>simp
  | 1,_=>simp;omega
  | 2,_=>simp
  | 3,_=>simp
 .grind
 rintro st w4 ⟨a8,af,a1⟩;refine⟨a1,?_⟩;obtain⟨A4,c4,e4,_⟩:=id a8;refine ρd ?_;refine dbld (Xkj v wt st A2 A4 _ _ _ _ ql qr _ _ e2 e4) ?_;refine ρd ?_;refine dbx (cs:=v.cells++[wt,.pointer ql,.pointer qr,.int .i64 _,.int .i64 _,st]) ?_;intro w5 b5 a4 aj aa;refine ρd ?_;refine ρ ?_;have e5:(if(l.ht:Int)<(r.ht:Int) then(r.ht:Int) else(l.ht:Int))+1=((Tr.node l v x r).ht:Int):=by simp only[Tr.ht];split<;>omega
 have e6:(l.sz:Int)+1+r.sz=((Tr.node l v x r).sz:Int):=by simp only[Tr.sz];omega
 rw[e5,e6]at aa;have D:=(J.trans a1).trans a4;have ac:=nL G.size J.size;have a7:NatX N w5 st (Tr.node l v x r).sum:=by
  have:=a8.ext a4;simp only[List.foldl_cons,List.foldl_nil,Nat.zero_add]at this;exact af.x this λk hk=>nM (hN k hk) ac
 have ae:¬ N b5:=λhk=>by have:=hN _ hk;have:=a1.size;omega
 exact Jj ⟨⟨b5,wt,_,_,st,rfl,⟨aa,ae⟩,a2.ext D,a7,Z.ext D,O.ext D⟩,G.trans D⟩
end Go.Proofs.YtgobkbeokaaplaaGreatDoor
namespace Go.Wk
theorem _root_.Go.Wk.Blk.pre{w:World}{b t:Nat}{cs ds:List Value}(h:Blk w b t (cs++ds))(j:Nat)(u:Value)(hu:cs[j]?=some u): w.cell? ((⟨b,0,none⟩:Addr).add j)=some u :=
 h.at (by grind)
end Go.Wk
namespace Go.Proofs.YtgobkbeokaaplaaGreatDoor
open Go.RowKit Pl Go.Wk
attribute [local irreducible] WC WL QX WD WDB WP WN WG
theorem Qvs{N:Nat->Prop}{w:World}{l r:Tr}{pl pr wt:Value}{v:V}{x:Nat}(hl:TrV N w l pl)(hr:TrV N w r pr)(hw:NatX N w wt x)(hN:∀ k,N k->k<w.heap.size)(hb:Nb (Tr.node l v x r).sum)(hs:(Tr.node l v x r).sz<=1000000):
  Ret Tryz.prog 200 [pl,.agg (v.cells++[wt]).toArray,pr] w λu w'=>TrV N w' (Tr.bal l v x r) u/\Ext w w':=by
 obtain⟨ql,rfl⟩:=hl.ptr;obtain⟨qr,rfl⟩:=hr.ptr;have bf:=Tr.ht_le l;have be:=Tr.ht_le r;have aj:l.sz+1+r.sz<=1000000:=hs;have a1:Nb (l.sum+x+r.sum):=hb;refine enE Tryz.func200 Tryz.ntmps200 ?_;refine bxR (cs:=v.cells++[wt]) ?_;intro w1 b O bg hB;have ae:=hl.ext O;have ab:=hr.ext O;have aa:=hw.ext O;refine clR (Ia ae) ?_;rintro u2 w2 ⟨rfl,rfl⟩;refine clR (Ia ab) ?_;rintro u2 w2 ⟨rfl,rfl⟩;have a8:Ext w2 w2.drew:=(Ext.refl w2).drew;refine ρ ?_;by_cases hc:r.ht+1<l.ht
 .cases l with
  | nil=>simp[Tr.ht]at hc
  | node ll lv lx lr=>
   obtain⟨bl,wl,bb,ba,sl,e1,⟨ai,b6⟩,av,bd,ao,an⟩:=id ae;obtain rfl:ql=some ⟨bl,0,none⟩:=by injection e1
   obtain⟨b7,rfl⟩:=ao.ptr;obtain⟨ar,rfl⟩:=an.ptr;simp only[Tr.sum,Tr.sz]at a1 aj;have ag:decide ((r.ht:Int)+1<((Tr.node ll lv lx lr).ht:Int))=true:=decide_eq_true om;refine dr [(0,0),(0,1),(0,2),(0,3),(0,4),(0,5),(0,6),(0,7),(0,8),(0,10),(0,11),(0,12),(0,13),(1,9),(1,14),(0,15),(0,16),(0,17)] kr ?_;refine ρd ?_;refine dkt 20 ag ?_;refine Jz ((ai.ext a8).at (i:=4) rfl) ?_;refine Jz ((ai.ext a8).at (i:=5) rfl) ?_;refine Jh (Ia (ao.ext a8)) ?_;rintro u3 w3 ⟨rfl,rfl⟩;refine⟨Ext.refl _,?_⟩;refine Jh (Ia (an.ext a8)) ?_;rintro u3 w3 ⟨rfl,rfl⟩;refine⟨Ext.refl _,?_⟩;refine ρd ?_;refine ciR (λZ=>?_) (λZ=>?_)
   .have Z:lr.ht<=ll.ht:=by have:=oT Z;omega
    have D:Ext w2 w2.drew.drew:=a8.drew;have a7:=ai.ext D;refine drR (scq 17 [14,15]) ?_;refine Jz (a7.at (i:=4) rfl) ?_;refine Qz (cs:=lv.cells++[wl]) (Blk.pre (cs:=lv.cells++[wl]) a7) ?_;refine Jz (a7.at (i:=5) rfl) ?_;refine Qz (cs:=v.cells++[wt]) (λj u hu=>(hB.ext D).at hu) ?_;refine Jh (Uy (an.ext D) (ab.ext D) (aa.ext D) (λk hk=>nM (hN k hk) (O.trans D).size) (a1.le (by simp only[Tr.sum];omega)) (by simp only[Tr.sz];omega)) ?_;rintro uj w4 ⟨hj,a3⟩;refine⟨a3,?_⟩;have G:=D.trans a3;refine Jh (Uy (ao.ext G) hj (av.ext G) (λk hk=>nM (hN k hk) (O.trans G).size) (a1.le (by simp only[Tr.sum];omega)) (by simp only[Tr.sz];omega)) ?_;rintro uk w5 ⟨hk,a2⟩;refine⟨a2,?_⟩;refine ρd ?_;refine ρ ?_;refine Jj ⟨?_,(O.trans G).trans a2⟩;have e:Tr.bal (.node ll lv lx lr) v x r=.node ll lv lx (.node lr v x r):=by simp only[Tr.bal,if_pos hc,if_pos Z]
    rw[e];exact hk
   have Z:ll.ht<lr.ht:=by grind
   refine ctR ag ?_;cases lr with
   | nil=>simp[Tr.ht]at Z
   | node ml mv mx mr=>
    obtain⟨bm,wm,b3,b2,sm,e2,⟨aq,ax⟩,ap,b4,ad,ac⟩:=id an;obtain rfl:ar=some ⟨bm,0,none⟩:=by injection e2
    obtain⟨b1,rfl⟩:=ad.ptr;obtain⟨az,rfl⟩:=ac.ptr;simp only[Tr.sum,Tr.sz]at a1 aj;refine ldR ((ai.ext a8).at (i:=5) rfl) ?_;refine ρ ?_;have D:Ext w2 w2.drew.drew:=a8.drew;have a7:=ai.ext D;have a5:=aq.ext D;refine dr [(0,0),(0,1),(0,2),(0,3),(0,4),(0,5),(0,6),(0,7),(0,8),(0,9),(0,10),(0,11),(0,13),(0,14),(0,15),(0,16),(0,17),(0,18),(0,19),(0,20),(0,21),(0,22),(1,12),(1,23),(1,24),(0,25)] kr ?_;refine Jz (a7.at (i:=4) rfl) ?_;refine Qz (cs:=lv.cells++[wl]) (Blk.pre (cs:=lv.cells++[wl]) a7) ?_;refine Jz (a5.at (i:=4) rfl) ?_;refine Qz (cs:=mv.cells++[wm]) (Blk.pre (cs:=mv.cells++[wm]) a5) ?_;refine Jz (a5.at (i:=5) rfl) ?_;refine Qz (cs:=v.cells++[wt]) (λj u hu=>(hB.ext D).at hu) ?_;refine Jh (Uy (ao.ext D) (ad.ext D) (av.ext D) (λk hk=>nM (hN k hk) (O.trans D).size) (a1.le (by simp only[Tr.sum];omega)) (by simp only[Tr.sz];omega)) ?_;rintro uj w4 ⟨hj,a3⟩
    refine⟨a3,?_⟩;have G:=D.trans a3;refine Jh (Uy (ac.ext G) (ab.ext G) (aa.ext G) (λk hk=>nM (hN k hk) (O.trans G).size) (a1.le (by simp only[Tr.sum];omega)) (by simp only[Tr.sz];omega)) ?_;rintro uk w5 ⟨hk,a2⟩;refine⟨a2,?_⟩;have a4:=G.trans a2;refine Jh (Uy (hj.ext a2) hk (ap.ext a4) (λk hk=>nM (hN k hk) (O.trans a4).size) (a1.le (by simp only[Tr.sum];omega)) (by simp only[Tr.sz];omega)) ?_;rintro uo w6 ⟨ho,a9⟩;refine⟨a9,?_⟩;refine ρd ?_;refine ρ ?_;refine Jj ⟨?_,(O.trans a4).trans a9⟩;have e:Tr.bal (.node ll lv lx (.node ml mv mx mr)) v x r=.node (.node ll lv lx ml) mv mx (.node mr v x r):=by simp only[Tr.bal,if_pos hc,if_neg (Nat.not_le.2 Z)]
    rw[e];exact ho
 refine dr [(0,0),(0,1),(0,2),(0,3),(0,4),(0,5),(0,6),(0,7),(0,8),(0,10),(0,11),(0,12),(0,13),(1,9),(1,14),(0,15),(0,16),(0,17)] kr ?_;refine ρd ?_;have ag:decide ((r.ht:Int)+1<(l.ht:Int))=false:=decide_eq_false om;refine dkf 20 ag ?_;refine ρd ?_;refine cfR ag ?_;refine ρ ?_;by_cases hd:l.ht+1<r.ht
 .cases r with
  | nil=>simp[Tr.ht]at hd
  | node rl rv rx rr=>
   obtain⟨br,wr,b9,b8,sr,e1,⟨ah,b5⟩,au,bc,am,ak⟩:=id ab;obtain rfl:qr=some ⟨br,0,none⟩:=by injection e1
   obtain⟨ay,rfl⟩:=am.ptr;obtain⟨ar,rfl⟩:=ak.ptr;simp only[Tr.sum,Tr.sz]at a1 aj;have D:Ext w2 w2.drew.drew:=a8.drew;have af:decide ((l.ht:Int)+1<((Tr.node rl rv rx rr).ht:Int))=true:=decide_eq_true om;refine dr [(0,0),(0,1),(0,2),(0,3),(0,4),(0,5),(0,6),(0,7),(0,8),(0,10),(0,11),(0,12),(0,13),(1,9),(1,14),(0,15),(0,16),(0,17)] kr ?_;refine ρd ?_;refine dkt 88 af ?_;refine Jz ((ah.ext D).at (i:=5) rfl) ?_;refine Jz ((ah.ext D).at (i:=4) rfl) ?_;refine Jh (Ia (ak.ext D)) ?_;rintro u3 w3 ⟨rfl,rfl⟩;refine⟨Ext.refl _,?_⟩;refine Jh (Ia (am.ext D)) ?_;rintro u3 w3 ⟨rfl,rfl⟩;refine⟨Ext.refl _,?_⟩;refine ρd ?_;refine ciR (λZ=>?_) (λZ=>?_)
   .have Z:rl.ht<=rr.ht:=by have:=oT Z;omega
    have J:Ext w2 w2.drew.drew.drew:=D.drew;have a6:=ah.ext J;refine drR [(0,0),(0,1),(0,2),(0,3),(0,4),(0,5),(0,7),(0,8),(0,9),(0,10),(0,11),(0,12),(0,13),(0,14),(1,6),(1,15),(0,16)] ?_;refine Qz (cs:=v.cells++[wt]) (λj u hu=>(hB.ext J).at hu) ?_;refine Jz (a6.at (i:=4) rfl) ?_;refine Qz (cs:=rv.cells++[wr]) (Blk.pre (cs:=rv.cells++[wr]) a6) ?_;refine Jz (a6.at (i:=5) rfl) ?_;refine Jh (Uy (ae.ext J) (am.ext J) (aa.ext J) (λk hk=>nM (hN k hk) (O.trans J).size) (a1.le (by simp only[Tr.sum];omega)) (by simp only[Tr.sz];omega)) ?_;rintro uj w4 ⟨hj,a3⟩;refine⟨a3,?_⟩;have G:=J.trans a3;refine Jh (Uy hj (ak.ext G) (au.ext G) (λk hk=>nM (hN k hk) (O.trans G).size) (a1.le (by simp only[Tr.sum];omega)) (by simp only[Tr.sz];omega)) ?_;rintro uk w5 ⟨hk,a2⟩;refine⟨a2,?_⟩;refine ρd ?_;refine ρ ?_;refine Jj ⟨?_,(O.trans G).trans a2⟩;have e:Tr.bal l v x (.node rl rv rx rr)=.node (.node l v x rl) rv rx rr:=by simp only[Tr.bal,if_neg hc,if_pos hd,if_pos Z]
    rw[e];exact hk
   have Z:rr.ht<rl.ht:=by grind
   refine ctR af ?_;cases rl with
   | nil=>simp[Tr.ht]at Z
   | node ml mv mx mr=>
    obtain⟨bm,wm,b3,b2,sm,e2,⟨aq,ax⟩,ap,b4,ad,ac⟩:=id am;obtain rfl:ay=some ⟨bm,0,none⟩:=by injection e2
    obtain⟨b1,rfl⟩:=ad.ptr;obtain⟨az,rfl⟩:=ac.ptr;simp only[Tr.sum,Tr.sz]at a1 aj;refine ldR ((ah.ext D).at (i:=4) rfl) ?_;refine ρ ?_;have J:Ext w2 w2.drew.drew.drew:=D.drew;have a6:=ah.ext J;have a5:=aq.ext J;refine dr [(0,0),(0,1),(0,2),(0,3),(0,4),(0,5),(0,7),(0,8),(0,9),(0,10),(0,11),(0,12),(0,13),(0,14),(0,15),(0,16),(0,17),(0,18),(0,19),(0,20),(0,21),(0,22),(1,6),(1,23),(1,24),(0,25)] kr ?_;refine Qz (cs:=v.cells++[wt]) (λj u hu=>(hB.ext J).at hu) ?_;refine Jz (a5.at (i:=4) rfl) ?_;refine Qz (cs:=mv.cells++[wm]) (Blk.pre (cs:=mv.cells++[wm]) a5) ?_;refine Jz (a5.at (i:=5) rfl) ?_;refine Qz (cs:=rv.cells++[wr]) (Blk.pre (cs:=rv.cells++[wr]) a6) ?_;refine Jz (a6.at (i:=5) rfl) ?_;refine Jh (Uy (ae.ext J) (ad.ext J) (aa.ext J) (λk hk=>nM (hN k hk) (O.trans J).size) (a1.le (by simp only[Tr.sum];omega)) (by simp only[Tr.sz];omega)) ?_
    rintro uj w4 ⟨hj,a3⟩;refine⟨a3,?_⟩;have G:=J.trans a3;refine Jh (Uy (ac.ext G) (ak.ext G) (au.ext G) (λk hk=>nM (hN k hk) (O.trans G).size) (a1.le (by simp only[Tr.sum];omega)) (by simp only[Tr.sz];omega)) ?_;rintro uk w5 ⟨hk,a2⟩;refine⟨a2,?_⟩;have a4:=G.trans a2;refine Jh (Uy (hj.ext a2) hk (ap.ext a4) (λk hk=>nM (hN k hk) (O.trans a4).size) (a1.le (by simp only[Tr.sum];omega)) (by simp only[Tr.sz];omega)) ?_;rintro uo w6 ⟨ho,a9⟩;refine⟨a9,?_⟩;refine ρd ?_;refine ρ ?_;refine Jj ⟨?_,(O.trans a4).trans a9⟩;have e:Tr.bal l v x (.node (.node ml mv mx mr) rv rx rr)=.node (.node l v x ml) mv mx (.node mr rv rx rr):=by simp only[Tr.bal,if_neg hc,if_pos hd,if_neg (Nat.not_le.2 Z)]
    rw[e];exact ho
 refine dr [(0,0),(0,1),(0,2),(0,3),(0,4),(0,5),(0,6),(0,7),(0,8),(0,10),(0,11),(0,12),(0,13),(1,9),(1,14),(0,15),(0,16),(0,17)] kr ?_;refine ρd ?_;have af:decide ((l.ht:Int)+1<(r.ht:Int))=false:=decide_eq_false om;refine dkf 88 af ?_;refine ρd ?_;refine cfR af ?_;have D:Ext w2 w2.drew.drew:=a8.drew;refine Jt (cs:=v.cells++[wt]) (λj u hu=>(hB.ext D).at hu) ?_;refine clR (Uy (ae.ext D) (ab.ext D) (aa.ext D) (λk hk=>nM (hN k hk) (O.trans D).size) hb hs) ?_;rintro uj w4 ⟨hj,a3⟩;refine ρ ?_;refine Jj ⟨?_,(O.trans D).trans a3⟩;have e:Tr.bal l v x r=.node l v x r:=by simp only[Tr.bal,if_neg hc,if_neg hd]
 rw[e];exact hj
open Go.RowKit Pl Go.Wk _root_.Go.Proofs.Tryz
variable {d:Bool}{x:Nat}{N:Nat->Prop}{p p0:Option Addr}{a b v:V}{wt:Value}{w:World}
theorem neg_lt: neg d (cmpV a b)=if d=true then cmpV b a else cmpV a b:=by
 unfold neg;split
 .exact(cmp_V.anti a b).symm
 rfl
theorem Qwf: Ret prog 180 [.agg #[.bool d,.pointer p],a.val,b.val] w λu w'=>u=.int .i64 (neg d (cmpV a b))/\Ext w w':=by
 rw[neg_lt];refine enE func180 ntmps180 ?_;refine bxR ?_;intro w1 b1 a1 a8 a5;refine bxR (cs:=a.cells) ?_;intro w2 b2 O a7 a4;refine bxR (cs:=b.cells) ?_;intro w3 b3 D a6 a2;have a3:=(a5.ext O).ext D;have G:=a4.ext D;refine ldR (a3.at (i:=0) rfl) ?_;refine ciR (λh=>?_) (λh=>?_)
 .refine Jt (cs:=b.cells) (λj u Z=>a2.at Z) ?_;refine Jt (cs:=a.cells) (λj u Z=>G.at Z) ?_;refine clR (Jxh b a _) ?_;rintro u w4 ⟨rfl,J⟩;refine ρ ?_;refine Jj ⟨?_,((a1.trans O).trans D).trans J⟩;rw[if_pos h]
 refine Jt (cs:=a.cells) (λj u Z=>G.at Z) ?_;refine Jt (cs:=b.cells) (λj u Z=>a2.at Z) ?_;refine clR (Jxh a b _) ?_;rintro u w4 ⟨rfl,J⟩;refine ρ ?_;refine Jj ⟨?_,((a1.trans O).trans D).trans J⟩;rw[if_neg (by rw[h];simp)]
theorem Qvv(l:Tr)(v:V)(x:Nat)(r:Tr): (Tr.bal l v x r).sum=l.sum+x+r.sum:=by
 have:=congrArg tot (Tr.toL_bal l v x r);rw[<-Tr.sum_eq,Jkv,tot,<-Tr.sum_eq,<-Tr.sum_eq]at this;grind
theorem Jwg(d:Bool)(v:V)(x:Nat): ∀ t:Tr,(Tr.put d v x t).sum<=t.sum+x
 | .nil=>by simp[Tr.put,Tr.sum]
 | .node l a y r=>by
  have h1:=Jwg d v x l;have h2:=Jwg d v x r;unfold Tr.put;split
  .rw[Qvv,Tr.sum];omega
  split
  .rw[Qvv,Tr.sum];omega
  rw[Tr.sum,Tr.sum];omega
theorem Qlw: ∀(t:Tr) (p:Value) (w:World),TrV N w t p->NatX N w wt x->(∀ k,N k->k<w.heap.size)->Nb (t.sum+x)->t.sz+1<=1000000 ->
  Ret prog 175 [.agg #[.bool d,.pointer p0],p,.agg (v.cells++[wt]).toArray] w λu w'=>TrV N w' (Tr.put d v x t) u/\Ext w w':=by
 intro t;induction t with
 | nil=>
  intro p w hp hw hN hb hs;obtain rfl:p=.pointer none:=hp;refine enE func175 ntmps175 ?_;refine bxR ?_;intro w1 b1 aa aj af;refine bxR (cs:=v.cells++[wt]) ?_;intro w2 b2 a8 ai ac;have hx:=aa.trans a8;refine ρ ?_;refine pnl ?_;refine Jt (cs:=v.cells++[wt]) (λj u hu=>ac.at hu) ?_;refine clR (Uy (l:=.nil) (r:=.nil) (show TrV N w2 .nil (.pointer none) from rfl) (show TrV N w2 .nil (.pointer none) from rfl) (hw.ext hx) (λk hk=>nM (hN k hk) hx.size) (hb.le (by simp[Tr.sum])) (by simp[Tr.sz])) ?_;rintro u w3 ⟨hu,Z⟩;refine ρ ?_;exact Jj ⟨hu,hx.trans Z⟩
 | node l a y r ihl ihr=>
  intro p w hp hw hN hb hs;obtain⟨bn,wn,pl,pr,sn,rfl,⟨a9,ak⟩,ad,am,hl,hr⟩:=id hp;obtain⟨ql,rfl⟩:=hl.ptr;obtain⟨qr,rfl⟩:=hr.ptr;simp only[Tr.sum]at hb;simp only[Tr.sz]at hs;refine enE func175 ntmps175 ?_;refine bxR ?_;intro w1 b1 aa aj af;refine bxR (cs:=v.cells++[wt]) ?_;intro w2 b2 a8 ai ac;have hx:=aa.trans a8;refine ρ ?_;refine pnl ?_;refine ρ ?_;have a7:Ext w2 w2.drew:=(Ext.refl w2).drew;have ae:=a9.ext (hx.trans a7);have a6:=(af.ext a8).ext a7;have a2:=ac.ext a7;refine dr (scq 10 [8]) kr ?_;refine Qz (cs:=[.bool d,.pointer p0]) (λj u hu=>a6.at hu) ?_;refine Qz (cs:=v.cells) (Blk.pre (cs:=v.cells) a2) ?_;refine Qz (cs:=a.cells) (Blk.pre (cs:=a.cells) ae) ?_;refine Jh (Qwf (a:=v) (b:=a)) ?_;rintro u w3 ⟨rfl,Z⟩;refine⟨Z,?_⟩;refine ρd ?_;refine ρ ?_;have a4:=(hx.trans a7).trans Z;refine ci (λhc=>?_) (λhc=>?_)
  .have hc:=oT hc;have G:Ext w3 w3.drew:=(Ext.refl w3).drew;have D:=a4.trans G;have J:=a9.ext D;refine drR [(0,0),(0,1),(0,2),(0,3),(0,4),(0,5),(0,7),(0,8),(0,9),(0,10),(0,11),(0,12),(0,13),(0,14),(1,6),(1,15),(0,16)] ?_;refine Qz (cs:=[.bool d,.pointer p0]) (λj u hu=>((a6.ext Z).ext G).at hu) ?_;refine Jz (J.at (i:=4) rfl) ?_;refine Qz (cs:=v.cells++[wt]) (λj u hu=>((a2.ext Z).ext G).at hu) ?_;refine Qz (cs:=a.cells++[wn]) (Blk.pre (cs:=a.cells++[wn]) J) ?_;refine Jz (J.at (i:=5) rfl) ?_;refine Jh (ihl _ _ (hl.ext D) (hw.ext D) (λk hk=>nM (hN k hk) D.size) (hb.le om) om) ?_;rintro u w4 ⟨a5,O⟩;refine⟨O,?_⟩;have ah:=Tr.put_sz d v x l;have ag:=Jwg d v x l;refine Jh (Qvs a5 (hr.ext (D.trans O)) (ad.ext (D.trans O)) (λk hk=>nM (hN k hk) (D.trans O).size) (hb.le (by simp only[Tr.sum];omega)) (by simp only[Tr.sz];omega)) ?_
   rintro u w5 ⟨ab,a3⟩;refine⟨a3,?_⟩;refine ρd ?_;refine ρ ?_;refine Jj ⟨?_,(D.trans O).trans a3⟩;rw[Tr.put,if_pos hc];exact ab
  have hc:=oF hc;refine ciR (λa1=>?_) (λa1=>?_)
  .have a1:=oT a1;have G:Ext w3 w3.drew:=(Ext.refl w3).drew;have D:=a4.trans G;have J:=a9.ext D;refine drR (scq 17 [14,15]) ?_;refine Jz (J.at (i:=4) rfl) ?_;refine Qz (cs:=a.cells++[wn]) (Blk.pre (cs:=a.cells++[wn]) J) ?_;refine Qz (cs:=[.bool d,.pointer p0]) (λj u hu=>((a6.ext Z).ext G).at hu) ?_;refine Jz (J.at (i:=5) rfl) ?_;refine Qz (cs:=v.cells++[wt]) (λj u hu=>((a2.ext Z).ext G).at hu) ?_;refine Jh (ihr _ _ (hr.ext D) (hw.ext D) (λk hk=>nM (hN k hk) D.size) (hb.le om) om) ?_;rintro u w4 ⟨a5,O⟩;refine⟨O,?_⟩;have ah:=Tr.put_sz d v x r;have ag:=Jwg d v x r;refine Jh (Qvs (hl.ext (D.trans O)) a5 (ad.ext (D.trans O)) (λk hk=>nM (hN k hk) (D.trans O).size) (hb.le (by simp only[Tr.sum];omega)) (by simp only[Tr.sz];omega)) ?_;rintro u w5 ⟨ab,a3⟩;refine⟨a3,?_⟩;refine ρd ?_;refine ρ ?_;refine Jj ⟨?_,(D.trans O).trans a3⟩
   rw[Tr.put,if_neg hc,if_pos a1];exact ab
  have a1:=oF a1;have G:Ext w3 w3.drew:=(Ext.refl w3).drew;have D:=a4.trans G;have J:=a9.ext D;refine drR (scq 11 [9]) ?_;refine Jz (J.at (i:=4) rfl) ?_;refine Qz (cs:=v.cells++[wt]) (λj u hu=>((a2.ext Z).ext G).at hu) ?_;refine Jz (J.at (i:=5) rfl) ?_;refine Jh (Uy (hl.ext D) (hr.ext D) (hw.ext D) (λk hk=>nM (hN k hk) D.size) (hb.le (by simp only[Tr.sum];omega)) (by simp only[Tr.sz];omega)) ?_;rintro u w4 ⟨a5,O⟩;refine⟨O,?_⟩;refine ρd ?_;refine ρ ?_;refine Jj ⟨?_,D.trans O⟩;rw[Tr.put,if_neg hc,if_neg a1];exact a5
theorem Vn: Qr prog 76=some (.agg #[.bool false,.pointer none]):=kr
theorem Xkc(d:Bool)(p:Option Addr)(w:World): (Instr.build 76 #[(0,.bool d),(1,.pointer p)]).run prog w=.ok (.agg #[.bool d,.pointer p]) w:=kr
theorem Xzz(d:Bool)(w:World): (Instr.build 76 #[(0,.bool d)]).run prog w=.ok (.agg #[.bool d,.pointer none]) w:=kr
theorem Xkq(v:V)(wt:Value)(A:Option Addr)(n c:Nat)(h:wt=.slice A n c)(w:World): (Instr.build 230 #[(0,v.val),(1,wt)]).run prog w=.ok (.agg (v.cells++[wt]).toArray) w:=by subst h;kernel_rfl
theorem Qns: ∀ u∈[Value.bool d,.pointer p],u.oneCell'=true:=λu i=>by
 simp only[List.mem_cons,List.not_mem_nil,or_false]at i;rcases i with rfl|rfl<;>rfl
theorem Qpk: Ret prog 132 [.bool d] w λu w'=>u=.agg #[.bool d,.pointer none]/\Ext w w':=by
 refine enE func132 ntmps132 ?_;refine Jv Vn ?_;intro w1 b j J O;refine Zz (Xzz d _) ?_;refine Zk O ?_;intro Z D G i;refine ρ ?_;exact Kq D ⟨rfl,i w j J⟩
theorem Jrq{p:Value}{t:Tr}(h:TrV N w t p)(hv:Xl v=true)(hw:NatV w wt x)(hN:∀ k,N k->k<w.heap.size)(h0:x≠0)(hn:Nb (t.sum+x))(hs:t.sz+1<=1000000):
  Ret prog 133 [.agg #[.bool d,p],v.val,wt] w λu w'=>∃ q,u=.tuple #[.agg #[.bool d,q],.int .i64 0]/\TrV N w' (Tr.put d v x t) q/\Ext w w':=by
 obtain⟨q,rfl⟩:=h.ptr;refine enE func133 ntmps133 ?_;refine bxR ?_;intro w1 b1 a7 az ar;refine bxR (cs:=v.cells) ?_;intro w2 b2 a1 ay aq;refine Jv Vn ?_;intro w3 b3 a6 ad ag;have G:=(a7.trans a1).trans a6;have ai:=(ar.ext a1).ext a6;have a3:=aq.ext a6;refine Jt (cs:=v.cells) (λj u hu=>a3.at hu) ?_;refine clR (Jpz v _) ?_;rintro u w4 ⟨rfl,Z⟩;rw[hv];refine clR (Jwn (hw.ext (G.trans Z)) (hn.le om).len) ?_;rintro wn w5 ⟨ab,ao,a8⟩;have aa:=(G.trans Z).trans a8;obtain⟨A,c,rfl,hc,hm,ax⟩:=id ab;have au:0<(Jq x).length:=by
  rcases Nat.eq_zero_or_pos (Jq x).length with h1|h1
  .have:=List.eq_nil_of_length_eq_zero h1;have e:=Vo x;rw[this]at e;exact absurd e.symm h0
  exact h1
 refine cfR ?_ ?_
 .exact Jmz om
 refine ρ ?_;refine drN (λ_=>False) 10 (scq 12 [8,110,111]) kr ?_;have a4:Ext w5 w5.drew:=(Ext.refl w5).drew;have D:=(Z.trans a8).trans a4;have O:=ai.ext D;have ah:=a3.ext D;have af:=ag.ext D;have a2:=aa.trans a4;refine ρn ?_;refine nld (Jr (O.at (i:=0) rfl) (λe=>e)) ?_;refine ρn ?_;refine Xs (cs:=[.bool d,.pointer q]) (λw' hg j u hu=>(Jc O hg (λe=>e)).at hu) ?_;refine ρn ?_;refine nld (Jr (O.at (i:=1) rfl) (λe=>e)) ?_;refine ρn ?_;refine Xs (cs:=v.cells) (λw' hg j u hu=>(Jc ah hg (λe=>e)).at hu) ?_;refine ρn ?_;refine Kp (Xkq v _ A _ c rfl) ?_;refine ρn ?_;refine nop ?_;have ac:b3<w3.heap.size:=ag.lt;have av:=G.size;have ae:∀ k,(N k∨k=b3)->k<w3.heap.size:=λk J=>J.elim (λh=>nM (hN k h) G.size) (λe=>by rw[e];exact ac);have hh:TrV (λk=>N k∨k=b3) w5.drew t (.pointer q):=(h.old (N':=λk=>N k∨k=b3) λk J=>J.imp id λe=>by rw[e];exact nL (a7.trans a1).size ad).ext a2
 have ak:NatX (λk=>N k∨k=b3) w5.drew (.slice A (Jq x).length c) x:=ao.x (ab.ext a4) λk J=>nM (ae k J) Z.size;refine cl (Qlw t _ _ hh ak (λk J=>nM (ae k J) D.size) hn hs) ?_;rintro u w6 ⟨hu,a5⟩;obtain⟨q2,rfl⟩:=hu.ptr;refine ρ ?_;refine Qj (GrN.ext a5) ?_;refine ρn ?_;refine Kp (Xkc d q2) ?_;refine ρn ?_;refine Xm ?_;refine stW (af.ext a5) ?_;intro w7 ap an aj;refine ρ ?_;refine Gv ?_;refine Xm ?_;refine ρ ?_;have a9:Ext w w7:=aj w (a2.trans a5) (nL (a7.trans a1).size ad);have am:=(hu.gr (GrN.by an (λk J=>.inr (by injection J with J;exact J.symm)))).old (N':=N) λk J=>.inl (.inl J);exact Zn ap ⟨_,rfl,am,a9⟩
open Go.RowKit Pl Go.Wk _root_.Go.Proofs.Tryz
variable {d:Bool}{t:Tr}
theorem Jpx{N:Nat->Prop}{J:Tr->World->Prop}{D:World->Prop}{fid:FuncId}{cap:Array Value}{p:Value}{w:World}(hp:TrV N w t p)(hj:J t w)(hht:t.ht<=1000000)(hx:∀ s w w',J s w->Ext w w'->J s w')(hnil:∀ w,J .nil w->D w)(hcall:∀ l v x r u w,TrV N w (.node l v x r) u->J (.node l v x r) w->Ret prog fid ((#[]:Array Value).toList++[u]++cap.toList) w λz w'=>∃ c,z=.int .i64 c/\GrN N w w'/\(c<0->J l w')/\(0<c->J r w')/\(c=0->D w')):
  Ret prog 178 [.agg #[.bool d,p],.func (.func fid) #[] cap] w λz w'=>(∃ k:Nat,z=.int .i64 (k:Int)/\k<=t.ht)/\D w'/\GrN N w w':=by
 obtain⟨q,rfl⟩:=hp.ptr;refine enE func178 ntmps178 ?_;refine bxR ?_;intro w1 b Z hb hB;refine ldR (hB.at (i:=1) rfl) ?_;refine ρ ?_;refine Xn (fun (k:Nat) (s:Tr) (q:Option Addr)=>[(1,.func (.func fid) #[] cap),(5,.int .i64 (k:Int)),(6,.pointer q)])
  (λk s q w'=>k+s.ht<=t.ht/\TrV N w' s (.pointer q)/\J s w'/\GrN N w w') (λ_ s _=>s.sz) 0 t q sB
  ⟨om,hp.ext Z,hx _ _ _ hj Z,GrN.ext Z⟩ ?_
 rintro k s q2 w2 ⟨hk,hs,a2,a3⟩;refine ρ ?_;cases s with
 | nil=>
  obtain rfl:q2=none:=by have:Value.pointer q2=.pointer none:=hs;injection this
  refine pnn ?_;refine ρ ?_;refine Jj ⟨⟨k,rfl,om⟩,hnil _ a2,a3⟩
 | node l v x r=>
  obtain⟨bn,wn,pl,pr,sn,e,⟨a4,a1⟩,a9,aa,hl,hr⟩:=id hs;obtain rfl:q2=some ⟨bn,0,none⟩:=by injection e
  obtain⟨ql,rfl⟩:=hl.ptr;obtain⟨qr,rfl⟩:=hr.ptr;have a8:l.ht+1<=(Tr.node l v x r).ht:=by simp only[Tr.ht];omega
  have a7:r.ht+1<=(Tr.node l v x r).ht:=by simp only[Tr.ht];omega
  have a6:l.sz<(Tr.node l v x r).sz:=by simp only[Tr.sz];omega
  have a5:r.sz<(Tr.node l v x r).sz:=by simp only[Tr.sz];omega
  refine pnn ?_;refine ρ ?_;refine clv (hcall l v x r _ w2 hs a2) ?_;rintro z w3 ⟨c,rfl,G,k1,k2,k3⟩;have hg:=a3.trans G;have O:=Jc a4 G a1;refine ciR (λhc=>?_) (λhc=>?_)
  .have hc:=oT hc;refine ldR (O.at (i:=4) rfl) ?_;refine ρ ?_;exact Qt (k+1) l ql sO ⟨om,hl.gr G,k1 hc,hg⟩ om
  have hc:=oF hc;refine ciR (λj=>?_) (λj=>?_)
  .have j:=oT j;refine ldR (O.at (i:=5) rfl) ?_;refine ρ ?_;exact Qt (k+1) r qr sO ⟨om,hr.gr G,k2 j,hg⟩ om
  have j:=oF j;refine ρ ?_;refine Jj ⟨⟨k+1,rfl,om⟩,k3 om,hg⟩
structure BefB(bT bV bS bF:Nat)(d:Bool)(q:Option Addr)(v:V)(w:World)(sv:Value)(f:Bool): Prop where
 tb:Blk w bT 76 [.bool d,.pointer q]
 vb:Blk w bV 147 v.cells
 sb:Blk w bS 45 [sv]
 fb:Blk w bF 4 [.bool f]
theorem BefB.ext{bT bV bS bF:Nat}{d:Bool}{q:Option Addr}{v:V}{w w':World}{sv:Value}{f:Bool}(h:BefB bT bV bS bF d q v w sv f)(hx:Ext w w'): BefB bT bV bS bF d q v w' sv f :=
 ⟨h.tb.ext hx,h.vb.ext hx,h.sb.ext hx,h.fb.ext hx⟩
def BefJ(bT bV bS bF:Nat)(d:Bool)(q:Option Addr)(v:V)(t:Tr)(s:Tr)(w:World): Prop :=
 ∃ sv m,BefB bT bV bS bF d q v w sv false/\NatX (λk=>k=bS∨k=bF) w sv m/\m+Tr.befT d v s=Tr.befT d v t/\Tr.hasT d v s=Tr.hasT d v t/\m+s.sum<=t.sum
def BefD(bT bV bS bF:Nat)(d:Bool)(q:Option Addr)(v:V)(t:Tr)(w:World): Prop :=
 ∃ sv,BefB bT bV bS bF d q v w sv (Tr.hasT d v t)/\NatX (λk=>k=bS∨k=bF) w sv (Tr.befT d v t)
theorem Xwg{bT bV bS bF:Nat}{q:Option Addr}{v:V}(hne:bT≠bS/\bT≠bF/\bV≠bS/\bV≠bF/\bS≠bF)(hb:Nb t.sum):
  ∀ l a x r u w,TrV (λk=>k=bS∨k=bF) w (.node l a x r) u->BefJ bT bV bS bF d q v t (.node l a x r) w ->
  Ret prog 179 ((#[]:Array Value).toList++[u]++(#[.pointer (some ⟨bT,0,none⟩),.pointer (some ⟨bV,0,none⟩),.pointer (some ⟨bS,0,none⟩),.pointer (some ⟨bF,0,none⟩)]:Array Value).toList) w λz w'=>∃ c,z=.int .i64 c/\GrN (λk=>k=bS∨k=bF) w w'/\(c<0->BefJ bT bV bS bF d q v t l w')/\(0<c->BefJ bT bV bS bF d q v t r w')/\(c=0->BefD bT bV bS bF d q v t w'):=by
 obtain⟨n1,n2,n3,n4,n5⟩:=hne;rintro l a x r u w hs ⟨sv,m,hB,hm,e1,e2,e3⟩;obtain⟨bn,wn,pl,pr,sn,rfl,⟨ag,an⟩,b1,bd,hl,hr⟩:=id hs;obtain⟨ql,rfl⟩:=hl.ptr;obtain⟨qr,rfl⟩:=hr.ptr;simp only[Tr.sum]at e3;refine enE func179 ntmps179 ?_;refine ρ ?_;have af:Ext w w.drew:=(Ext.refl w).drew;have ay:=hB.ext af;have au:=ag.ext af;refine dr (scq 9 [7]) kr ?_;refine Qz (cs:=[.bool d,.pointer q]) (λj u hu=>ay.tb.at hu) ?_;refine Qz (cs:=v.cells) (λj u hu=>ay.vb.at hu) ?_;refine Qz (cs:=a.cells) (Blk.pre (cs:=a.cells) au) ?_;refine Jh (Qwf (a:=v) (b:=a)) ?_;rintro u w1 ⟨rfl,aj⟩;refine⟨aj,?_⟩;refine ρd ?_;have a1:=af.trans aj;have az:=hB.ext a1;have b5:=hm.ext a1;refine ciR (λhc=>?_) (λhc=>?_)
 .have hc:=oT hc;refine ρ ?_;refine Jj ⟨neg d (cmpV v a),rfl,GrN.ext a1,λ_=>⟨sv,m,az,b5,?_,?_,om⟩,λh=>om,λh=>om⟩
  .rw[<-e1,Tr.befT,if_pos hc]
  rw[<-e2,Tr.hasT,if_pos hc]
 have hc:=oF hc;have ab:Ext w1 w1.drew:=(Ext.refl w1).drew;have Z:=a1.trans ab;have ax:=ag.ext Z;have J:=az.ext ab;refine ρ ?_;refine drN (λ_=>False) 10 (scq 8 [5,6,107]) kr ?_;refine ρn ?_;refine nld (Jr (J.sb.at (i:=0) rfl) (λe=>e)) ?_;refine ρn ?_;refine nld (Jr (ax.at (i:=4) rfl) (λe=>e)) ?_;refine ρn ?_;refine nop ?_;refine cl (Jxk (hl.ext Z)) ?_;rintro ul w2 ⟨b2,rfl⟩;refine ρ ?_;refine Qj (GrN.refl _ _) ?_;refine ρn ?_;refine nop ?_;refine cl (Gt (hm.ext Z).1 b2.1 (hb.le om).len (hb.le om).len) ?_;rintro us w3 ⟨am,b6,a4⟩;refine ρ ?_;refine Qj (GrN.ext a4) ?_;refine ρn ?_;refine Xm ?_;obtain⟨A3,c3,rfl,bf,_⟩:=id am;refine Kc (J.ext a4).sb ?_ rfl;intro w4 b8 aa bc;refine ρ ?_;have ai:=J.ext a4;have ak:=Z.trans a4;have ar:∀ k,(k=bS∨k=bF)->k<w1.drew.heap.size:=λk O=>O.elim (λe=>by rw[e];exact J.sb.lt) (λe=>by rw[e];exact J.fb.lt)
 have b4:NatX (λk=>k=bS∨k=bF) w3 (.slice A3 (Jq (m+l.sum)).length c3) (m+l.sum):=b6.x am ar;have a5:GrN (λk=>k=bS∨k=bF) w3 w4:=GrN.by aa λk O=>.inl (by injection O with O;exact O.symm)
 have ao:=b4.gr a5;have a7:BefB bT bV bS bF d q v w4 (.slice A3 (Jq (m+l.sum)).length c3) false:=⟨ai.tb.grown aa (by simpa using n1),ai.vb.grown aa (by simpa using n3),b8,ai.fb.grown aa (by simpa using n5.symm)⟩;have a2:GrN (λk=>k=bS∨k=bF) w w4:=(GrN.ext ak).trans a5;refine ci (λG=>?_) (λG=>?_)
 .have G:neg d (cmpV v a)=0:=Zv G;refine ρ ?_;refine Kc a7.fb ?_ rfl;intro w5 b9 a9 a3;refine ρ ?_;have ae:GrN (λk=>k=bS∨k=bF) w4 w5:=GrN.by a9 λk O=>.inr (by injection O with O;exact O.symm)
  refine Jj ⟨0,rfl,a2.trans ae,λh=>om,λh=>om,λ_=>⟨_,⟨a7.tb.grown a9 (by simpa using n2),a7.vb.grown a9 (by simpa using n4),a7.sb.grown a9 (by simpa using n5),?_⟩,?_⟩⟩
  .rw[<-e2,Tr.hasT,if_neg hc,if_pos G];exact b9
  rw[<-e1,Tr.befT,if_neg hc,if_pos G];exact ao.gr ae
 have G:neg d (cmpV v a)≠0:=Xo G;have D:Ext w4 w4.drew:=(Ext.refl w4).drew;have a6:=a7.ext D;have av:=(Jc ag a2 an).ext D;refine ρ ?_;refine drN (λ_=>False) 10 (scq 8 [6,107]) kr ?_;refine ρn ?_;refine nld (Jr (a6.sb.at (i:=0) rfl) (λe=>e)) ?_;refine ρn ?_;refine nld (Jr (av.at (i:=3) rfl) (λe=>e)) ?_;refine ρn ?_;refine nop ?_;refine cl (Gt (ao.ext D).1 ((b1.gr a2).ext D).1 (hb.le om).len (hb.le om).len) ?_;rintro ba w5 ⟨ac,aq,a3⟩;refine ρ ?_;refine Qj (GrN.ext a3) ?_;refine ρn ?_;refine Xm ?_;obtain⟨A5,c5,rfl,be,_⟩:=id ac;refine Kc (a6.ext a3).sb ?_ rfl;intro w6 b7 a8 bb;refine ρ ?_;have ah:=a6.ext a3;have b3:NatX (λk=>k=bS∨k=bF) w5 (.slice A5 (Jq (m+l.sum+x)).length c5) (m+l.sum+x):=aq.x ac λk O=>nM (ar k O) (nL a4.size (a5.trans (GrN.ext D)).size);have ad:GrN (λk=>k=bS∨k=bF) w5 w6:=GrN.by a8 λk O=>.inl (by injection O with O;exact O.symm)
 have ap:GrN (λk=>k=bS∨k=bF) w w6:=((a2.trans (GrN.ext D)).trans (GrN.ext a3)).trans ad;refine Jj ⟨neg d (cmpV v a),rfl,ap,λh=>om,λh=>⟨_,m+l.sum+x,⟨ah.tb.grown a8 (by simpa using n1),ah.vb.grown a8 (by simpa using n3),b7,ah.fb.grown a8 (by simpa using n5.symm)⟩,b3.gr ad,?_,?_,om⟩,λh=>om⟩
 .rw[<-e1,Tr.befT,if_neg hc,if_neg G];omega
 rw[<-e2,Tr.hasT,if_neg hc,if_neg G]
end Go.Proofs.YtgobkbeokaaplaaGreatDoor
namespace Go.Wk
theorem finC4{P:Program}{n:Nat}{al:AL}{w:World}{tt:TT}[h:Tab P tt]{fn:Func}{Φ:Value->World->Prop}{c t t1 t2 t3 b:Nat}{k:TK}{cs:List Value}{x y z:Value}(hb:Blk w b t cs)(hp:Φ (.tuple #[.agg cs.toArray,x,y,z]) w)(hr:fn.results = #[.cell c t,.tmp t1,.tmp t2,.tmp t3]:=by rfl)(ht:tk tt t=some k:=by rfl)(hk:k.desc=.invalid:=by rfl)(hs:k.size=cs.length:=by rfl)(hc:lk al c=some (.pointer (some ⟨b,0,none⟩)):=by rfl)(h1:lk al t1=some x:=by rfl)(h2:lk al t2=some y:=by rfl)(h3:lk al t3=some z:=by rfl):
  QX n (Vl P fn Φ) .ret al w :=
 Jkb (rs:=[.cell c t,.tmp t1,.tmp t2,.tmp t3]) (vs:=[.agg cs.toArray,x,y,z]) hr ⟨⟨_,hc,Jjw h.ok ht hk hs (λj u i=>hb.at i)⟩,h1,h2,h3,trivial⟩ rfl hp
end Go.Wk
namespace Go.Proofs.YtgobkbeokaaplaaGreatDoor
open Go.RowKit Pl Go.Wk _root_.Go.Proofs.Tryz
attribute [local irreducible] WC WL QX WD WDB WP WN WG
variable {d:Bool}{a b k:Nat}{N:Nat->Prop}{t:Tr}{p:Value}{w:World}
theorem zNat: Qr prog 45=some (.slice none 0 0):=kr
theorem Jdk: Qr prog 4=some (.bool false):=kr
theorem Qvr{v:V}(h:TrV N w t p)(hb:Nb t.sum)(hs:t.sz<=1000000):
  Ret prog 141 [.agg #[.bool d,p],v.val] w λu w'=>∃ sv,∃ k:Nat,u=.tuple #[sv,.bool (Tr.hasT d v t),.int .i64 (k:Int)]/\k<=t.ht/\NatV w' sv (Tr.befT d v t)/\Ext w w':=by
 obtain⟨q,rfl⟩:=h.ptr;refine enE func141 ntmps141 ?_;refine bxR ?_;intro w1 bT a9 au hT;refine bxR (cs:=v.cells) ?_;intro w2 bV a7 ar hV;refine Jv zNat ?_;intro w3 bS G av hS;refine Jv Jdk ?_;intro w4 bF a8 af hF;refine ρ ?_;refine Kc hF ?_ rfl;intro w5 ai aq ac;have lT:=hT.lt;have lV:=hV.lt;have lS:=hS.lt;have an:=a7.size;have am:=G.size;have ak:=a8.size;have nT:bT≠bS/\bT≠bF/\bV≠bS/\bV≠bF/\bS≠bF:=by grind
 obtain⟨n1,n2,n3,n4,n5⟩:=nT;have j:Ext w3 w5:=ac w3 a8 af;have O:Ext w w5:=((a9.trans a7).trans G).trans j;have ab:=((hT.ext a7).ext G).ext j;have ag:=(hV.ext G).ext j;have ah:=hS.ext j;have ao:=a9.size;have hN:TrV (λk=>k=bS∨k=bF) w5 t (.pointer q):=(h.old (N':=λk=>k=bS∨k=bF) λk hk=>.inr (by grind)).ext O;have ap:=Tr.ht_le t;refine Qk ab ?_;refine clR (Jpx (N:=λk=>k=bS∨k=bF) (J:=BefJ bT bV bS bF d q v t) (D:=BefD bT bV bS bF d q v t) hN ⟨_,0,⟨ab,ag,ah,ai⟩,NatX.nil _,om,rfl,om⟩ om ?_ ?_ (Xwg ⟨n1,n2,n3,n4,n5⟩ hb)) ?_
 .rintro s w w' ⟨sv,m,a1,a2,a3,a4,a5⟩ hx;exact⟨sv,m,a1.ext hx,a2.ext hx,a3,a4,a5⟩
 .rintro w ⟨sv,m,a1,a2,a3,a4,a5⟩;simp only[Tr.befT,Tr.hasT,Nat.add_zero]at a3 a4;refine⟨sv,?_,?_⟩;repeat grind
 rintro z w6 ⟨⟨k,rfl,hk⟩,⟨sv,aj,ad⟩,ae⟩;have aa:Ext w w6:=ae.old O λk hk=>by grind
 have a6:Ext w6 w6.drew:=(Ext.refl w6).drew;have Z:=aj.ext a6;refine drR (scq 6 []) ?_;refine Jz (Z.sb.at (i:=0) rfl) ?_;refine Jz (Z.fb.at (i:=0) rfl) ?_;refine ρd ?_;refine ρ ?_;exact Vq ⟨sv,k,rfl,hk,(ad.ext a6).1,aa.trans a6⟩
structure FndB(bS bK bV bR:Nat)(w:World)(sv kv:Value)(v:V): Prop where
 sb:Blk w bS 45 [sv]
 kb:Blk w bK 45 [kv]
 vb:Blk w bV 147 v.cells
 rb:Blk w bR 147 V0.cells
theorem FndB.ext{bS bK bV bR:Nat}{w w':World}{sv kv:Value}{v:V}(h:FndB bS bK bV bR w sv kv v)(hx:Ext w w'): FndB bS bK bV bR w' sv kv v:=⟨h.sb.ext hx,h.kb.ext hx,h.vb.ext hx,h.rb.ext hx⟩
def FndJ(bS bK bV bR:Nat)(kv:Value)(k:Nat)(t:Tr)(s:Tr)(w:World): Prop :=
 ∃ sv m v,FndB bS bK bV bR w sv kv v/\NatX (λj=>j=bS∨j=bV∨j=bR) w sv m/\NatX (λj=>j=bS∨j=bV∨j=bR) w kv k/\m<=k/\k<m+s.sum/\m+s.sum<=t.sum/\Tr.findT k t=((Tr.findT (k-m) s).1,m+(Tr.findT (k-m) s).2)
def FndD(bS bK bV bR:Nat)(kv:Value)(k:Nat)(t:Tr)(w:World): Prop :=
 ∃ sv,FndB bS bK bV bR w sv kv (Tr.findT k t).1/\NatX (λj=>j=bS∨j=bV∨j=bR) w sv (Tr.findT k t).2
theorem cmpN_lt: Zg a b<0↔a<b:=by
 unfold Zg;grind
theorem Xjk{bS bK bV bR:Nat}{kv:Value}(hne:bS≠bK/\bS≠bV/\bK≠bV/\bS≠bR/\bV≠bR)(hb:Nb t.sum):
  ∀ l a x r u w,TrV (λj=>j=bS∨j=bV∨j=bR) w (.node l a x r) u->FndJ bS bK bV bR kv k t (.node l a x r) w ->
  Ret prog 183 ((#[]:Array Value).toList++[u]++(#[.pointer (some ⟨bS,0,none⟩),.pointer (some ⟨bK,0,none⟩),.pointer (some ⟨bV,0,none⟩)]:Array Value).toList) w λz w'=>∃ c,z=.int .i64 c/\GrN (λj=>j=bS∨j=bV∨j=bR) w w'/\(c<0->FndJ bS bK bV bR kv k t l w')/\(0<c->FndJ bS bK bV bR kv k t r w')/\(c=0->FndD bS bK bV bR kv k t w'):=by
 obtain⟨n1,n2,n3,n4,n5⟩:=hne;rintro l a x r u w hs ⟨sv,m,v,hB,hm,hk,e1,e2,e3,e4⟩;obtain⟨bn,wn,pl,pr,sn,rfl,⟨ae,ay⟩,ao,b1,hl,hr⟩:=id hs;obtain⟨ql,rfl⟩:=hl.ptr;obtain⟨qr,rfl⟩:=hr.ptr;simp only[Tr.sum]at e2 e3;refine enE func183 ntmps183 ?_;refine ρ ?_;have a3:Ext w w.drew:=(Ext.refl w).drew;have aa:=hB.ext a3;have ai:=ae.ext a3;refine dr (scq 8 [5,6]) kr ?_;refine Jz (aa.sb.at (i:=0) rfl) ?_;refine Jz (ai.at (i:=4) rfl) ?_;refine Jh (Jxk (hl.ext a3)) ?_;rintro ul w1 ⟨ap,rfl⟩;refine⟨Ext.refl _,?_⟩;refine Jh (Gt (hm.ext a3).1 ap.1 (hb.le om).len (hb.le om).len) ?_;rintro us w2 ⟨af,aq,ad⟩;refine⟨ad,?_⟩;refine ρd ?_;have a4:=a3.trans ad;have am:=hB.ext a4;refine ldR (am.kb.at (i:=0) rfl) ?_;refine clR (Uv (hk.ext a4).1 af) ?_;rintro u w3 ⟨rfl,a8⟩;have D:=a4.trans a8;have ak:=am.ext a8;have ah:∀ j,(j=bS∨j=bV∨j=bR)->j<w.drew.heap.size:=λj Z=>Z.elim (λe=>by rw[e];exact aa.sb.lt) (λe=>e.elim (λe=>by rw[e];exact aa.vb.lt) (λe=>by rw[e];exact aa.rb.lt))
 have a5:NatX (λj=>j=bS∨j=bV∨j=bR) w3 us (m+l.sum):=aq.x (af.ext a8) ah;refine ciR (λhc=>?_) (λhc=>?_)
 .have hc:k<m+l.sum:=cmpN_lt.1 (oT hc);refine ρ ?_;refine Jj ⟨-1,rfl,GrN.ext D,λ_=>⟨sv,m,v,ak,hm.ext D,hk.ext D,e1,hc,om,?_⟩,λh=>om,λh=>om⟩;rw[e4,Tr.findT,if_pos om]
 have hc:¬ k<m+l.sum:=λh=>oF hc (cmpN_lt.2 h);refine ldR ((ae.ext D).at (i:=3) rfl) ?_;refine clR (Gt a5.1 (ao.ext D).1 (hb.le om).len (hb.le om).len) ?_;rintro ua w4 ⟨ag,ar,a7⟩;have aj:=ak.ext a7;refine ldR (aj.kb.at (i:=0) rfl) ?_;refine clR (Uv ((hk.ext D).ext a7).1 ag) ?_;rintro u w5 ⟨rfl,a6⟩;have a1:=(D.trans a7).trans a6;have O:=aj.ext a6;have ab:NatX (λj=>j=bS∨j=bV∨j=bR) w5 ua (m+l.sum+x):=ar.x (ag.ext a6) λj Z=>nM (ah j Z) (ad.trans a8).size;obtain⟨A1,c1,ea,_⟩:=id ab.1;obtain⟨A2,c2,es,_⟩:=id a5.1;have oa:ua.oneCell'=true:=by rw[ea];rfl
 have os:us.oneCell'=true:=by rw[es];rfl
 refine ciR (λa2=>?_) (λa2=>?_)
 .have a2:m+l.sum+x<=k:=by
   have:=oT a2;rcases Nat.lt_or_ge k (m+l.sum+x) with h|h
   .have:=cmpN_lt.2 h;omega
   exact h
  refine ρ ?_;refine Kc O.sb ?_ oa;intro w6 ax J an;refine ρ ?_;have G:GrN (λj=>j=bS∨j=bV∨j=bR) w5 w6:=GrN.by J λj Z=>.inl (by injection Z with Z;exact Z.symm)
  refine Jj ⟨1,rfl,(GrN.ext a1).trans G,λh=>om,λ_=>⟨ua,m+l.sum+x,v,⟨ax,O.kb.grown J (by simpa using n1.symm),O.vb.grown J (by simpa using n2.symm),O.rb.grown J (by simpa using n4.symm)⟩,ab.gr G,(hk.ext a1).gr G,a2,om,om,?_⟩,λh=>om⟩;rw[e4,Tr.findT,if_neg om,if_pos om,show k-m-(l.sum+x)=k-(m+l.sum+x) by omega];simp only[Prod.mk.injEq,true_and];omega
 have a2:k<m+l.sum+x:=by
  rcases Nat.lt_or_ge k (m+l.sum+x) with h|h
  .exact h
  exact absurd (Int.not_lt.1 λh'=>by have:=cmpN_lt.1 h';omega) (oF a2)
 have e5:Tr.findT k t=(a,m+l.sum):=by rw[e4,Tr.findT,if_neg om,if_neg om]
 refine Jt (cs:=a.cells) (Blk.pre (cs:=a.cells) (ae.ext a1)) ?_;refine Qw (cs':=a.cells) O.vb ?_ (V.one a);intro w6 au J an;refine ρ ?_;refine Kc (O.sb.grown J (by simpa using n2)) ?_ os;intro w7 av a9 az;refine ρ ?_;have G:GrN (λj=>j=bS∨j=bV∨j=bR) w5 w6:=GrN.by J λj Z=>.inr (.inl (by injection Z with Z;exact Z.symm))
 have ac:GrN (λj=>j=bS∨j=bV∨j=bR) w6 w7:=GrN.by a9 λj Z=>.inl (by injection Z with Z;exact Z.symm)
 refine Jj ⟨0,rfl,((GrN.ext a1).trans G).trans ac,λh=>om,λh=>om,λ_=>⟨us,⟨av,(O.kb.grown J (by simpa using n3)).grown a9 (by simpa using n1.symm),?_,(O.rb.grown J (by simpa using n5.symm)).grown a9 (by simpa using n4.symm)⟩,?_⟩⟩
 .rw[e5];exact au.grown a9 (by simpa using n2.symm)
 rw[e5];exact(((a5.ext a7).ext a6).gr G).gr ac
theorem Xjj{kv:Value}(h:TrV N w t p)(hkv:NatV w kv k)(hk:k<t.sum)(hb:Nb t.sum)(hs:t.sz<=1000000):
  Ret prog 145 [.agg #[.bool d,p],kv] w λu w'=>∃ sv,∃ n:Nat,u=.tuple #[(Tr.findT k t).1.val,sv,.int .i64 (n:Int),.int .i64 0]/\n<=t.ht/\NatV w' sv (Tr.findT k t).2/\Ext w w':=by
 obtain⟨q,rfl⟩:=h.ptr;obtain⟨Ak,ck,ek,_⟩:=id hkv;refine enE func145 ntmps145 ?_;refine bxR ?_;intro w1 bT ad bb hT;refine bxR (cs:=[kv]) ?_ (hv:=by rw[ek];rfl);intro w2 bK aa bd hK;refine Jv (cs:=V0.cells) Gj ?_;intro w3 bR a9 av hR;have ab:=(ad.trans aa).trans a9;have O:Ext w3 w3.drew:=(Ext.refl w3).drew;have Z:=ab.trans O;have ai:=(hT.ext aa).ext a9;have aj:=hK.ext a9;refine drR (scq 6 [3,4]) ?_;refine Jz ((aj.ext O).at (i:=0) rfl) ?_;refine Jz ((ai.ext O).at (i:=1) rfl) ?_;refine Jh (Jxk (h.ext Z)) ?_;rintro ut w4 ⟨ap,rfl⟩;refine⟨Ext.refl _,?_⟩;refine Jh (Uv (hkv.ext Z) ap.1) ?_;rintro u w4 ⟨rfl,a8⟩;refine⟨a8,?_⟩;refine ρd ?_;have an:¬ (0<=Zg k t.sum):=Int.not_le.2 (cmpN_lt.2 hk);refine cfR (decide_eq_false an) ?_;have b2:=Z.trans a8;refine Jv (cs:=V0.cells) Gj ?_;intro w5 bV ae ba hV;refine Jv zNat ?_;intro w6 bS ac bc hS;have lT:=hT.lt;have lK:=hK.lt
 have lR:=hR.lt;have lV:=hV.lt;have b8:=ad.size;have b7:=aa.size;have b6:=a9.size;have b5:=(O.trans a8).size;have b4:=ae.size;have b3:=ac.size;have n1:bS≠bK:=om
 have n2:bS≠bV:=om
 have n3:bK≠bV:=om
 have n4:bS≠bR:=om
 have n5:bV≠bR:=om
 have G:Ext w3 w6:=((O.trans a8).trans ae).trans ac;have a6:Ext w w6:=ab.trans G;have ay:=ai.ext G;have b1:=aj.ext G;have ax:=hV.ext ac;have hN:TrV (λk=>k=bS∨k=bV∨k=bR) w6 t (.pointer q):=(h.old (N':=λk=>k=bS∨k=bV∨k=bR) λk hk=>.inr (by rcases hk with rfl|rfl|rfl<;>omega)).ext a6;have ar:NatX (λk=>k=bS∨k=bV∨k=bR) w kv k:=NatX.old (N:=λ_=>False) ⟨hkv,λ_ _ _ _ _ h=>h⟩ λk hk=>.inr (by rcases hk with rfl|rfl|rfl<;>omega);have b9:=Tr.ht_le t;refine Qk ay ?_;refine clR (Jpx (N:=λk=>k=bS∨k=bV∨k=bR) (J:=FndJ bS bK bV bR kv k t) (D:=FndD bS bK bV bR kv k t) hN ⟨_,0,V0,⟨hS,b1,ax,hR.ext G⟩,NatX.nil _,ar.ext a6,om,om,om,by simp⟩ om ?_ ?_ (Xjk ⟨n1,n2,n3,n4,n5⟩ hb)) ?_
 .rintro s w w' ⟨sv,m,v,a1,a2,a3,a4⟩ hx;exact⟨sv,m,v,a1.ext hx,a2.ext hx,a3.ext hx,a4⟩
 .rintro w ⟨sv,m,v,a1,a2,a3,a4,a5,_⟩;simp only[Tr.sum]at a5;omega
 rintro z w7 ⟨⟨n,rfl,hn⟩,⟨sv,am,aq⟩,au⟩;have af:Ext w w7:=au.old a6 λk hk=>by rcases hk with rfl|rfl|rfl<;>omega
 refine ρ ?_;refine drN (λk=>k=bR) 10 (scq 7 [3]) kr ?_;have a7:Ext w7 w7.drew:=(Ext.refl w7).drew;have ak:=am.ext a7;refine ρn ?_;refine Xs (cs:=(Tr.findT k t).1.cells) (λw' hg j u hu=>(Jc ak.vb hg n5).at hu) ?_;refine ρn ?_;refine nld (Jr (ak.sb.at (i:=0) rfl) n4) ?_;refine ρn ?_;refine nop ?_;refine stb (cs':=(Tr.findT k t).1.cells) (am.rb.ext a7) ?_ (V.one _);intro w8 az ah ao;refine ρ ?_;refine Qj (GrN.by ah λj hj=>by injection hj with hj;exact hj.symm) ?_;refine ρn ?_;refine ρ ?_;have ag:GrN (λk=>k=bS∨k=bV∨k=bR) w7.drew w8:=GrN.by ah λj hj=>.inr (.inr (by injection hj with hj;exact hj.symm))
 exact finC4 az ⟨sv,n,rfl,hn,((aq.ext a7).gr ag).1,ao w (af.trans a7) (nL (ad.trans aa).size av)⟩
end Go.Proofs.YtgobkbeokaaplaaGreatDoor
namespace Go.Wk
open Maps
variable {d n ty:Nat}
theorem dmlk{P:Program}{al:AL}{w:World}{Q:Exit->Act->World->Prop}{ops:Array Oper}{drest:List (Nat×Oper)}{pos:String}{aft:Array Edge}{tt:TT}[hT:Tab P tt]{t k e b m:Nat}{kd:TK}{f:Lit->Option Value}{x y:Operand}{key z:Value}{kl:Lit}(K:Keyed P k)(hM:MapS P k w b m f)(hz:Qr P e=some z)(hkey:keyOf P k key=some kl)(kk:WD P n ops Q drest ((d,(f kl).getD z)::al) w)(ht:tk tt t=some kd:=by rfl)(hk:kd.desc=.map k e:=by rfl)(hx:ev al x=some (.map (some b)):=by rfl)(hy:ev al y=some key:=by rfl)(hd:Nat.blt d n=true:=by rfl):
  WD P n ops Q ((0,⟨some d,.lookup t x y false,ty,pos,aft,none⟩)::drest) al w :=
 dy (λw' j a i=>by
  have:=((hM.ext j).look K (Yw hT.ok ht hk rfl) (Jfs hz w') hkey).2;simp[execOp,i.ev hx,i.ev hy,this]) hd kk
end Go.Wk
namespace Go.Proofs.YtgobkbeokaaplaaGreatDoor
open Go.RowKit Pl Go.Wk _root_.Go.Proofs.Tryz
attribute [local irreducible] WC WL QX WD WDB WP WN WG
variable {chs l:List (Nat×List Nat)}{cs ta va:List Value}{B0 b c cv f k n:Nat}{T:Nat->Row->Nat}{A VA:Option Addr}{r x:Row}{u vch vx:Value}{w w':World}
theorem Gf(hx:Ext w w'){p:Addr}(h:w.cell? p=some u): w'.cell? p=some u:=by
 have i:p.block<w.heap.size:=by
  rcases Nat.lt_or_ge p.block w.heap.size with h1|h1
  .exact h1
  unfold World.cell? at h;rw[Array.getElem?_eq_none h1]at h;simp at h
 rw[hx.cell i];exact h
theorem KS: Maps.Keyed prog 9:=Maps.string_keyed underlying9
def FitR(r:Row): Prop:=r.length<=32/\∀ v∈r,Vj v/\v.bytes.length<=24
theorem FitR.len(h:FitR r): (idn r).length<=2880:=by have:=Qzg h.2;have:=h.1;omega
theorem FitR.pm{cs:List Nat}(h:FitR r)(hc:∀ c∈cs,c<r.length)(hl:cs.length<=32): FitR (pmR cs r) :=
 ⟨by rw[Xw];exact hl,λv i=>by
  obtain⟨c,j,rfl⟩:=List.mem_map.1 i;exact h.2 _ (getD_mem' V0 r (hc c j))⟩
theorem Gu(h:FitR r): keyOf prog 9 (.string (str (idn r)))=some (.string (idn r)) :=
 WideMaps.keyOf_string_mk underlying9 (by have:=h.len;show(idn r).toArray.size<=maxLen;rw[List.size_toArray];unfold maxLen;omega)
def ChG(w:World)(cs:List Value)(p:Nat×List Nat): Prop:=∃ A c,cs=[.int .i64 (p.1:Int),.slice A p.2.length c]/\p.2.length<=c/\p.2.length<=32/\Rd w 1 A p.2.length (Je (nz p.2))
theorem ChG.ext{w w':World}{cs:List Value}{p:Nat×List Nat}(h:ChG w cs p)(hx:Ext w w'): ChG w' cs p:=by
 obtain⟨A,c,D,u,j,i⟩:=h;exact⟨A,c,D,u,j,i.ext hx⟩
def DnV(AR:Nat->Prop)(T:Row->Nat)(w:World)(x:Value): Prop:=∃ mb m fm,x=.map (some mb)/\m<=1000000/\(MapS prog 9 w mb m fm/\¬ AR mb)/\(∀ k:Row,fm (.string (idn k))=if 0<T k then some (.bool true) else none)/\∀ kl,fm kl≠none->∃ k:Row,kl=.string (idn k)
def DnT(AR:Nat->Prop)(T:Row->Nat)(w:World)(x:Value): Prop:=∃ mb m fm,x=.map (some mb)/\m<=1000000/\(MapS prog 9 w mb m fm/\¬ AR mb)/\∀ k:Row,(fm (.string (idn k))=none/\T k=0)∨∃ y,fm (.string (idn k))=some y/\0<T k/\NatX AR w y (T k)
theorem DnV.gr{AR:Nat->Prop}{T:Row->Nat}{w w':World}{x:Value}(h:DnV AR T w x)(hg:GrN AR w w'): DnV AR T w' x:=by
 obtain⟨j,m,fm,J,G,⟨D,i⟩,u⟩:=h;exact⟨j,m,fm,J,G,⟨D.gr hg i,i⟩,u⟩
theorem DnT.gr{AR:Nat->Prop}{T:Row->Nat}{w w':World}{x:Value}(h:DnT AR T w x)(hg:GrN AR w w'): DnT AR T w' x:=by
 obtain⟨j,m,fm,J,G,⟨D,i⟩,u⟩:=h;refine⟨j,m,fm,J,G,⟨D.gr hg i,i⟩,λk=>?_⟩;rcases u k with h6|⟨y,h6,h7,h8⟩
 .exact .inl h6
 exact .inr ⟨y,h6,h7,h8.gr hg⟩
def wtL(T:Nat->Row->Nat)(x:Row): List (Nat×List Nat)->Nat
 | []=>1
 | p::l=>T p.1 (pmR p.2 x)*wtL T x l
theorem Jkq(T:Nat->Row->Nat)(x:Row): ∀ l m,wtL T x (l++m)=wtL T x l*wtL T x m
 | [],m=>by rw[List.nil_append,wtL,Nat.one_mul]
 | p::l,m=>by rw[List.cons_append,wtL,wtL,Jkq T x l m,Nat.mul_assoc]
theorem Qbs{p:Nat×List Nat}(hp:p∈l)(h0:T p.1 (pmR p.2 x)=0): wtL T x l=0:=by
 obtain⟨a,b,rfl⟩:=List.append_of_mem hp;rw[Jkq,wtL,h0,Nat.zero_mul,Nat.mul_zero]
theorem Jdm{T:Nat->Row->Nat}{x:Row}: ∀ {l:List (Nat×List Nat)},(∀ p∈l,T p.1 (pmR p.2 x)<=4294967296^20)->wtL T x l<=(4294967296^20)^l.length
 | [],_=>by simp[wtL]
 | p::l,h=>by
  rw[wtL,List.length_cons,Nat.pow_succ,Nat.mul_comm];exact Nat.mul_le_mul (Jdm λq hq=>h q (List.mem_cons_of_mem _ hq)) (h p List.mem_cons_self)
theorem Nb.pow(h:n<=(4294967296^20)^k)(hk:k<=32): Nb n:=by
 refine Nat.lt_of_le_of_lt h ?_;rw[<-Nat.pow_mul];exact Nat.pow_lt_pow_right (by decide) (by rw[Jnf];omega)
theorem Qbp: Qr prog 271=some (.agg #[.int .i64 0,.slice none 0 0]):=kr
theorem Qnt{a:Int}: ∀ u∈[Value.int .i64 a,.slice A n c],u.oneCell'=true:=λu i=>by
 simp only[List.mem_cons,List.not_mem_nil,or_false]at i;rcases i with rfl|rfl<;>rfl
theorem Jwm(n:Nat)(h:n<18446744073709551616)(w:World): Ret prog 28 [.int .u64 (n:Int)] w λv w'=>NatV w' v n/\Fresh w v/\Ext w w':=by
 refine enE func28 ntmps28 ?_;refine ρ ?_;refine Uj rfl rfl (by decide) rfl ?_;refine Qv (bsN _ _) ?_;intro D b j G i;rw[Ux,Jrk]at i;have u:Rd D 1 (some ⟨b,0,none⟩) 2 (Nc [UInt32.ofNat n,UInt32.ofNat (n / 4294967296)]):=i.rd rfl;refine clR (Ij (l:=[UInt32.ofNat n,UInt32.ofNat (n / 4294967296)]) (c:=2) u (nR _) (by simp)) ?_;rintro v J ⟨rfl,rfl⟩;have:=Jjp u (by simp);rw[Jrb n h]at this ⊢;refine ρ ?_;exact Jj ⟨this,λO _ _ e=>by grind,j⟩
theorem Jps{AR:Nat->Prop}{TA:Option Addr}{ct:Nat}(hTB:TB B0 w)(hB:Blk w b 159 cs)(c1:cs[1]?=some (.int .i64 (f:Int)))(c7:cs[7]?=some (.slice VA n cv))(c8:cs[8]?=some (.slice TA n ct))(hV:Rd w 1 VA n va)(hTa:Rd w 1 TA n ta)(hch:GV 2 ChG w vch chs)(hlen:chs.length<=32)(hn:∀ p∈chs,p.1<n/\∀ c∈p.2,c<x.length)(hx:RowV w vx x)(hfit:FitR x)(hdv:∀ p∈chs,f<=p.1->DnV AR (T p.1) w (va.getD p.1 (.map none)))(hdt:∀ p∈chs,p.1<f->DnT AR (T p.1) w (ta.getD p.1 (.map none)))(hT1:∀ p∈chs,f<=p.1->∀ k,T p.1 k<=1)(hTb:∀ p∈chs,∀ k,T p.1 k<=4294967296^20):
  Ret prog 128 [.pointer (some ⟨b,0,none⟩),vch,vx] w λu w'=>NatV w' u (wtL T x chs)/\Fresh w u/\Ext w w':=by
 obtain⟨A,c,cc,rfl,bi,bh,b7,b6⟩:=hch.parts;refine enE func128 ntmps128 ?_;refine clR (Jwm 1 (by decide) _) ?_;rintro vp w1 ⟨ax,b5,au⟩;refine ρ ?_;refine Jo (fun (i:Nat) (vp:Value)=>[(0,.pointer (some ⟨b,0,none⟩)),(2,vx),(7,vp),(12,.slice A chs.length c),(13,.int .i64 (chs.length:Int)),(14,.int .i64 (i:Int))])
  (λi vp w'=>i<=chs.length/\Ext w w'/\NatV w' vp (wtL T x (chs.take i))/\Fresh w vp) (λi _=>chs.length-i) 0 vp sB
  ⟨Nat.zero_le _,au,by rw[List.take_zero];exact ax,b5⟩ ?_
 rintro i vp w2 ⟨hi,ae,a7,am⟩;refine ciR (λh=>?_) (λh=>?_)
 .have li:i<chs.length:=by have:=oT h;omega
  clear h;obtain⟨ce,bg,⟨CA,cC,rfl,b8,ab,ao⟩,ah⟩:=b6 i li;have O:chs[i]∈chs:=List.getElem_mem li;have ag:wtL T x (chs.take (i+1))=wtL T x (chs.take i)*T chs[i].1 (pmR chs[i].2 x):=by
   rw[List.take_succ_eq_append_getElem li,Jkq,wtL,wtL,Nat.mul_one]
  have az:wtL T x (chs.take i)<=(4294967296^20)^i:=by
   have:=Jdm (T:=T) (x:=x) (l:=chs.take i) λp hp=>hTb p (List.mem_of_mem_take hp) _;grind
  have ay:Nb (wtL T x (chs.take i)):=Nb.pow az om;have an:Nb (T chs[i].1 (pmR chs[i].2 x)):=Nb.pow (k:=1) (by grind) om;generalize hq:chs[i]=q at *
  obtain⟨ch,G⟩:=q;simp only at b8 ab ao ah ag an;have a5:=hn _ O;simp only at a5;refine Qu 2 i (b7.ext ae) li ?_;refine ρ ?_;have a8:∀ j u,([.int .i64 (ch:Int),.slice CA G.length cC]:List Value)[j]?=some u->w2.cell? ((adr A (i*2)).add j)=some u:=by grind [Gf]
  refine lds (cs:=[.int .i64 (ch:Int),.slice CA G.length cC]) a8 ?_;refine Jv Qbp ?_;intro w3 bc ar b9 bb;refine Zk bb ?_;intro w4 Z bf aq;have a3:Ext w2 w4:=aq w2 ar b9;have a4:=ae.trans a3;refine ldR (Z.at (i:=1) rfl) ?_;refine clR (Qjw (cs:=G) (hx.ext a4) (ao.ext a4) a5.2 om) ?_;rintro vk w5 ⟨b2,a2⟩;have aa:=a4.trans a2;have a6:FitR (pmR G x):=hfit.pm a5.2 ab;obtain⟨KA,kc,rfl,be,bd,b1⟩:=id b2;refine clR (Jzt (r:=pmR G x) (hTB.ext aa) b1 (λv hv=>(a6.2 v hv).1) (by have:=a6.len;omega) (by have:=a6.1;omega)) ?_;rintro u w6 ⟨rfl,a1⟩;have a9:=aa.trans a1;have ac:Ext w6 w6.drew:=(Ext.refl w6).drew;have ap:=((Z.ext a2).ext a1).ext ac;have ba:=hB.ext (a9.trans ac);refine drR (scq 8 []) ?_;refine Jz (ap.at (i:=0) rfl) ?_;refine Jz (ba.at (i:=1) c1) ?_;refine ρd ?_;refine ρ ?_;have J:Ext w6 w6.drew.drew:=ac.drew;have D:=a9.trans J;refine ci (λh=>?_) (λh=>?_)
  .have lf:ch<f:=by have:=oT h;omega
   obtain⟨mb,m,fm,e1,e2,⟨e3,e4⟩,e5⟩:=hdt _ O lf;simp only at e1 e5;have af:ta[ch]?=some (.map (some mb)):=by grind
   refine drR (scq 13 [11]) ?_;refine Jz ((hB.ext D).at (i:=8) c8) ?_;refine Jz ((((Z.ext a2).ext a1).ext J).at (i:=0) rfl) ?_;refine Jb ch (hTa.ext D) a5.1 ?_;refine Jz ((hTa.ext D).cell af) ?_;refine ρd ?_;refine dmlk KS (e3.ext D) zNat (Gu a6) ?_;have aj:NatV w6.drew.drew ((fm (.string (idn (pmR G x)))).getD (.slice none 0 0)) (T ch (pmR G x)):=by
    rcases e5 (pmR G x) with⟨h6,h7⟩|⟨y,h6,h7,h8⟩
    .rw[h6,h7];exact NatV.nil _
    rw[h6];exact h8.1.ext D
   refine Jh (Jzm (a7.ext ((a3.trans a2).trans a1 |>.trans J)) aj ay.len an.len) ?_;rintro vr w7 ⟨av,ak,ai⟩;refine⟨ai,?_⟩;refine ρd ?_;refine ρ ?_;refine Jl (i+1) vr sO ⟨li,D.trans ai,?_,λad m c e=>nL D.size (ak ad m c e)⟩ om;rw[ag];exact av
  have lf:f<=ch:=by have:=oF h;omega
  obtain⟨mb,m,fm,e1,e2,⟨e3,e4⟩,e5,e6⟩:=hdv _ O lf;simp only at e1 e5;have af:va[ch]?=some (.map (some mb)):=by grind
  refine drR (scq 11 []) ?_;refine Jz ((hB.ext D).at (i:=7) c7) ?_;refine Jz ((((Z.ext a2).ext a1).ext J).at (i:=0) rfl) ?_;refine Jb ch (hV.ext D) a5.1 ?_;refine Jz ((hV.ext D).cell af) ?_;refine ρd ?_;refine dmlk KS (e3.ext D) Jdk (Gu a6) ?_;rw[e5];by_cases h0:0<T ch (pmR G x)
  .rw[if_pos h0];have h1:=hT1 _ O lf (pmR G x);simp only at h1;refine ρd ?_;refine ρ ?_;refine Jl (i+1) vp sO ⟨li,D,?_,am⟩ om;rw[ag,show T ch (pmR G x)=1 by omega,Nat.mul_one];exact a7.ext ((a3.trans a2).trans a1 |>.trans J)
  rw[if_neg h0];refine ρd ?_;refine ρ ?_;have b4:Fresh w (.slice none 0 0):=λad m c e=>by cases e
  refine Jj ⟨?_,b4,D⟩;grind [Qbs,pmR,NatV.nil]
 have b3:i=chs.length:=by grind
 rw[b3,List.take_length]at a7;refine ρ ?_;exact Jj ⟨a7,am,ae⟩
open Go.RowKit Pl Go.Wk _root_.Go.Proofs.Tryz
def chK(kf:Nat->Nat)(pf:Nat->Int)(v k:Nat): List (Nat×List Nat):=((List.range k).filter λc=>decide (pf c=(v:Int))).map λc=>(c,Xj (bk (kf v ||| 2^v) 32) (kf c))
theorem Jcr(kf:Nat->Nat)(pf:Nat->Int)(v k:Nat): chK kf pf v (k+1)=chK kf pf v k++if pf k=(v:Int) then[(k,Xj (bk (kf v ||| 2^v) 32) (kf k))] else[]:=by
 unfold chK;rw[List.range_succ,List.filter_append,List.map_append];grind
theorem Jkf(kf:Nat->Nat)(pf:Nat->Int)(v k:Nat): (chK kf pf v k).length<=k:=by grind [chK,List.length_map,List.length_filter_le,List.range,List.length_range]
theorem Jmj(vars:List Nat)(s:Nat): (Xj vars s).length<=vars.length:=by
 have:=List.length_filter_le (λi=>s.testBit (vars.getD i 0)) (List.range vars.length);rw[List.length_range]at this;exact this
theorem EC: ElT prog 214 271 2 32 (.agg #[.int .i64 0,.slice none 0 0]):=⟨underlying214,info_parts kr,rfl,by decide⟩
theorem Xkt(z:Int)(v:Value)(A:Option Addr)(n c:Nat)(h:v=.slice A n c)(w:World): (Instr.build 271 #[(0,.int .i64 z),(1,v)]).run prog w=.ok (.agg [.int .i64 z,v].toArray) w:=by subst h;kernel_rfl
theorem Xzp(z:Int)(v:Value)(A:Option Addr)(n c:Nat)(h:v=.slice A n c)(w:World): (Instr.buildSlice 214 1 #[(0,.agg [.int .i64 z,v].toArray)]).run prog w=.ok (.slice (some ⟨w.heap.size,0,none⟩) 1 1) (w.alloc (.cells [.int .i64 z,v].toArray 271)):=by subst h;kernel_rfl
theorem Qws{w:World}{b n v cb:Nat}{cs:List Value}{BA:Option Addr}{vR:Value}{kf:Nat->Nat}{pf:Nat->Int}{R:Nat->List Row}(hB:Blk w b 159 cs)(c5:cs[5]?=some (.slice BA n cb))(c6:cs[6]?=some vR)(hBags:Rd w 3 BA n (Qo n (Qp kf pf)))(hR:GV 3 AtG w vR ((List.range n).map λv=>Yb (kf v ||| 2^v) (R v)))(hn:n<=32)(hv:v<n)(hk:∀ v,v<n->kf v<4294967296):
  Ret prog 125 [.pointer (some ⟨b,0,none⟩),.int .i64 (v:Int)] w λu w'=>OwnG 271 2 ChG w' w.heap.size u (chK kf pf v n)/\Ext w w':=by
 obtain⟨RA,rc,ap,rfl,af,ae,aa,ak⟩:=hR.parts;rw[List.length_map,List.length_range]at c6 af ae aa;obtain⟨re,ao,⟨t,rfl,ab⟩,a1⟩:=ak v (by simpa using hv);simp only[List.getElem_map,List.getElem_range]at ab;obtain⟨⟨PA,pc,ac,ar,aq,ag⟩,b4,ad⟩:=id ab;obtain⟨t1,t2,t3⟩:=t;simp only[Yb]at ac;subst ac;have a7:(nz (bk (kf v ||| 2^v) 32)).length=(bk (kf v ||| 2^v) 32).length:=Qg _;refine enE func125 ntmps125 ?_;refine ldR (hB.at (i:=5) c5) ?_;refine ρ ?_;refine Jo (fun (k:Nat) (vl:Value)=>[(0,.pointer (some ⟨b,0,none⟩)),(1,.int .i64 (v:Int)),(5,vl),(11,.int .i64 (n:Int)),(12,.int .i64 (k:Int))])
  (λk vl w'=>k<=n/\Ext w w'/\OwnG 271 2 ChG w' w.heap.size vl (chK kf pf v k)) (λk _=>n-k) 0 (.slice none 0 0) sB
  ⟨Nat.zero_le _,Ext.refl _,OwnG.nil _ _⟩ ?_
 rintro k vl w1 ⟨ax,G,a2⟩;refine ciR (λh=>?_) (λh=>?_)
 .have lk:k<n:=by have:=oT h;omega
  clear h;have an:=hB.ext G;have O:∀ {w'} (hx:Ext w w') j u,(Qp kf pf k)[j]?=some u->w'.cell? ((adr BA (k*3)).add j)=some u:=λhx j u hu=>by
   have hj:j<3:=by grind [Nat.lt_or_ge,List.getElem?_eq_none,Qp]
   rw[Xh];exact(hBags.ext hx).cell ((Jqs (sz:=3) (λ_ _=>rfl) lk hj).trans hu)
  refine ldR (an.at (i:=5) c5) ?_;refine Qu 3 k (hBags.ext G) lk ?_;refine ldR (O G 2 _ rfl) ?_;refine ciR (λh=>?_) (λh=>?_)
  .have hp:pf k=(v:Int):=Zv h;have a3:Ext w1 w1.drew:=(Ext.refl w1).drew;have D:=G.trans a3;have b2:=hB.ext D;obtain⟨LA,lc,b5,av,a5⟩:=a2.form;refine ρ ?_;refine drN (λk=>w.heap.size<=k) 10 (scq 23 [18,20,21]) kr ?_;have ay:¬ w.heap.size<=b:=by have:=hB.lt;omega
   have J:∀ {p:Addr} {u:Value},w.cell? p=some u->∀ w',GrN (λk=>w.heap.size<=k) w1.drew w'->w'.cell? p=some u:=fun {p u} h w' hg=>
    Gf ((hg.old D λk hk=>hk)) h
   refine ρn ?_;refine nld (J (hB.at (i:=6) c6)) ?_;refine ρn ?_;refine Yr 3 v (aa.ext D) hv ?_;refine ρn ?_;refine nld (J (a1 0 _ rfl)) ?_;refine ρn ?_;refine nld (J (hB.at (i:=5) c5)) ?_;refine ρn ?_;refine Yr 3 k (hBags.ext D) lk ?_;refine ρn ?_;refine nld (J (O (Ext.refl w) 1 _ rfl)) ?_;refine ρn ?_;refine nop ?_;rw[a7];refine cl (Qkz (vars:=bk (kf v ||| 2^v) 32) (a7 ▸ ag.ext D) (hk k lk) (λu hu=>(bk_mem.1 hu).1) (Yo _ _)) ?_;rintro uc w2 ⟨a9,a6⟩;refine ρ ?_;refine Qj (GrN.ext a6) ?_;obtain⟨CA,cc,rfl,aj,ai⟩:=Jy a9;refine ρn ?_;refine Kp (Xkt _ _ CA _ cc rfl) ?_;refine ρn ?_;refine nop ?_;refine bsl (Xzp _ _ CA _ cc rfl) ?_;intro w3 b3 a4 az am;refine ρ ?_;refine Qj (GrN.ext a4) ?_;refine ρn ?_;refine nop ?_;have Z:Ext w1 w3:=(a3.trans a6).trans a4;have hΦ:Off (Xx w.heap.size vl) w3 (λu=>ChG u [.int .i64 (k:Int),.slice CA (Xj (bk (kf v ||| 2^v) 32) (kf k)).length cc] (k,Xj (bk (kf v ||| 2^v) 32) (kf k))):=by
    have h1:=Jxx (Jk a9 a4) (N:=Xx w.heap.size vl) λg eg hN=>by
     have:=(ai g eg).1;rcases hN with h'|h'
     .have:=D.size;omega
     have:=(a5 g h').2;have:=a3.size;omega
    refine h1.imp λu h=>⟨CA,cc,rfl,aj,?_,Rd.own h⟩;grind [Nat.le_trans,Jmj,bk,kf,Yo]
   refine apG EC (Φ:=ChG) (a2.ext Z) am rfl Qnt hΦ (by grind [Jkf,kf]) om (G.trans Z).size ?_;intro v4 w4 b1 a8 au;refine ρ ?_;refine Qj (GrN.by a8 λg eg=>(a5 g eg).1) ?_;refine ρn ?_;refine ρ ?_;refine Jl (k+1) v4 sO ⟨lk,Ql (G.trans Z) a8 (λg eg=>(a5 g eg).1),?_⟩ om;grind [Jcr]
  have hp:pf k≠(v:Int):=Xo h;refine ρ ?_;refine Jl (k+1) vl sO ⟨lk,G,?_⟩ om;grind [Jcr]
 have ah:k=n:=by grind
 rw[ah]at a2;refine ρ ?_;exact Jj ⟨a2,G⟩
open Go.RowKit Pl Go.Wk
variable {cols:List Nat}{rows:List Row}{cs ta va:List Value}{b cv n:Nat}{pf:Nat->Int}{BA VA:Option Addr}{k:Row}{W:Row->Nat}{w w' wF:World}
structure FixW(B0 n f:Nat)(kf:Nat->Nat)(pf:Nat->Int)(R:Nat->List Row)(vR:Value)(BA:Option Addr)(wF:World): Prop where
 tb:TB B0 wF
 bags:Rd wF 3 BA n (Qo n (Qp kf pf))
 rels:GV 3 AtG wF vR ((List.range n).map λv=>Yb (kf v ||| 2^v) (R v))
 n32:n<=32
 fn:f<=n
 kb:∀ v,v<n->kf v<4294967296
 pn:∀ c,c<n->pf c≠(c:Int)
 rows:∀ v,v<n->∀ x∈R v,x.length=(bk (kf v ||| 2^v) 32).length/\FitR x
 rlen:∀ v,v<n->(R v).length<=65536
def bCs(n f:Nat)(Dv Pv Av:Value)(BA:Option Addr)(cb:Nat)(vR:Value)(VA:Option Addr)(cv:Nat)(TA:Option Addr)(ct:Nat)(Kv:Value): List Value :=
 [.int .i64 (n:Int),.int .i64 (f:Int),Dv,Pv,Av,.slice BA n cb,vR,.slice VA n cv,.slice TA n ct,Kv]
def ARk(n f:Nat)(VA:Option Addr)(cv:Nat)(TA:Option Addr)(ct:Nat)(Kv:Value)(k:Nat): Prop:=(Value.slice VA n cv).ownBlock=some k∨(Value.slice TA n ct).ownBlock=some k∨Kv.ownBlock=some k
structure BldW(wF:World)(b n:Nat)(cs:List Value)(VA:Option Addr)(cv:Nat)(TA:Option Addr)(ct:Nat)(w:World)(va ta:List Value): Prop where
 ext:Ext wF w
 blk:Blk w b 159 cs
 va:w.ownsRow wF.heap.size 213 1 (.slice VA n cv) n va
 ta:w.ownsRow wF.heap.size 221 1 (.slice TA n ct) n ta
theorem BldW.ext'{TA:Option Addr}{ct:Nat}(h:BldW wF b n cs VA cv TA ct w va ta)(hx:Ext w w'): BldW wF b n cs VA cv TA ct w' va ta :=
 ⟨h.ext.trans hx,h.blk.ext hx,Jk h.va hx,Jk h.ta hx⟩
def Za(kf:Nat->Nat)(v:Nat): List Nat:=Xj (bk (kf v ||| 2^v) 32) (kf v)
open Classical in
noncomputable def Un (rows:List Row) (cols:List Nat) (W:Row->Nat) (k:Row):Nat:=if ∃ x∈rows,0<W x/\pmR cols x=k then 1 else 0
theorem redT_pos: 0<Un rows cols W k↔∃ x∈rows,0<W x/\pmR cols x=k:=by
 unfold Un;split
 repeat grind
theorem Jtx: Un rows cols W k<=1:=by
 unfold Un;split<;>omega
theorem Jnh{a:Atm}(h:AtG w cs a)(hx:Ext w w'): AtG w' cs a:=by
 obtain⟨t,e,i⟩:=h;exact⟨t,e,i.ext hx⟩
theorem Jqg{kf:Nat->Nat}{v:Nat}{p:Nat×List Nat}(h:p∈chK kf pf v n): p.1<n/\pf p.1=(v:Int)/\p.2=Xj (bk (kf v ||| 2^v) 32) (kf p.1):=by
 obtain⟨c,i,rfl⟩:=List.mem_map.1 h;grind
theorem Jhr{v:Value}(h:NatV w v n): ∃ A c,v=.slice A (Jq n).length c/\(0<(Jq n).length↔0<n):=by
 obtain⟨A,c,e,_⟩:=h;grind [Nat.pos_of_ne_zero,Qxk,limbs_pos']
theorem Qlf{B0 f v cb ct:Nat}{kf:Nat->Nat}{R:Nat->List Row}{vR Dv Pv Av Kv:Value}{TA:Option Addr}{T:Nat->Row->Nat}{AR:Nat->Prop}(hF:FixW B0 n f kf pf R vR BA wF)(hW:BldW wF b n (bCs n f Dv Pv Av BA cb vR VA cv TA ct Kv) VA cv TA ct w va ta)(hv:v<n)(hdv:∀ c,c<n->pf c=(v:Int)->f<=c->DnV AR (T c) w (va.getD c (.map none)))(hdt:∀ c,c<n->pf c=(v:Int)->c<f->DnT AR (T c) w (ta.getD c (.map none)))(hT1:∀ c,f<=c->∀ k,T c k<=1)(hTb:∀ c k,T c k<=4294967296^20)(hAR:∀ k,ARk n f VA cv TA ct Kv k->AR k)(hARl:∀ k,AR k->k<w.heap.size):
  Ret Tryz.prog 75 [.pointer (some ⟨b,0,none⟩),.int .i64 (v:Int)] w λu w'=>u=.tuple #[]/\∃ mv,BldW wF b n (bCs n f Dv Pv Av BA cb vR VA cv TA ct Kv) VA cv TA ct w' (va.set v mv) ta/\GrN (λk=>(Value.slice VA n cv).ownBlock=some k) w w' /\
   DnV AR (Un (R v) (Za kf v) λx=>wtL T x (chK kf pf v n)) w' mv:=by
 obtain⟨bj,hB,a8,c6⟩:=hW;have bp:=hF.n32;refine enE Tryz.func75 Tryz.ntmps75 ?_;refine ldR (hB.at (i:=7) rfl) ?_;refine ρ ?_;refine mkm 9 ?_;intro w1 mb Z cr hM;obtain⟨s1,s2,s3,s4,s5⟩:=Zt (Jk a8 Z) (q:=v) om (.map (some mb));have df:va.length=n:=by have:=a8.1;omega
 refine ixR v (Rd.own (Jk a8 Z)) om ?_;refine Xq (s1.trans (show va[v]?=some (va.getD v (.map none)) by simp[List.getD,List.getElem?_eq_getElem (show v<va.length by omega)])) s2 ?_;refine ρ ?_;obtain⟨w2,bl⟩:∃ w2,w2=w1.setCell (adr VA v) (.map (some mb)):=⟨_,rfl⟩;rw[<-bl]at s3 s5 ⊢;clear bl;have aj:∀ g,(Value.slice VA n cv).ownBlock=some g->wF.heap.size<=g/\g<w.heap.size:=(Jy a8).choose_spec.choose_spec.2.2;have bg:∀ g,(Value.slice TA n ct).ownBlock=some g->wF.heap.size<=g/\g<w.heap.size:=(Jy c6).choose_spec.choose_spec.2.2;have d8:=Z.size;have db:=hM.lt;have ai:Blk w2 b 159 _:=(hB.ext Z).grown s5 ((hB.ext Z).ne_own (Jk a8 Z) rfl);have ay:w2.ownsRow wF.heap.size 221 1 (.slice TA n ct) n ta:=Zl (Jk c6 Z) (Jk a8 Z) s5 rfl;have c9:MapS Tryz.prog 9 w2 mb 0 (λ_=>none):=hM.kept s5 (λe=>by have:=(aj mb e.symm).2;omega);have c1:GrN AR w w2:=(GrN.ext Z).trans (GrN.by s5 λk G=>hAR k (.inl G))
 have a3:Ext wF w2:=Ql (bj.trans Z) s5 λk G=>(aj k G).1;have br:wF.heap.size<=mb:=nL bj.size cr;have av:=c9.lt;obtain⟨RA,rc,de,cd,co,cn,bc,d1⟩:=hF.rels.parts;rw[List.length_map,List.length_range]at cd co cn bc;obtain⟨re,d9,⟨t,d7,be⟩,a5⟩:=d1 v (by simpa using hv);subst d7;simp only[List.getElem_map,List.getElem_range]at be;obtain⟨⟨PA,pc,cg,dh,dg,cp⟩,ce,ch⟩:=id be;obtain⟨t1,t2,t3⟩:=t;simp only[Yb]at cg ce;subst cg;subst ce;have bo:(nz (bk (kf v ||| 2^v) 32)).length=(bk (kf v ||| 2^v) 32).length:=Qg _;have aq:∀ j u,(Qp kf pf v)[j]?=some u->wF.cell? ((adr BA (v*3)).add j)=some u:=λj u hu=>by
  have hj:j<3:=by
   rcases Nat.lt_or_ge j 3 with h'|h'
   .exact h'
   rw[List.getElem?_eq_none (by simp[Qp];omega)]at hu;cases hu
  rw[Xh];exact hF.bags.cell ((Jqs (sz:=3) (λ_ _=>rfl) hv hj).trans hu)
 subst cd;have ak:Ext w2 w2.drew:=(Ext.refl w2).drew;have J:=a3.trans ak;have bd:=ai.ext ak;refine dr [(0,0),(0,1),(0,3),(0,4),(0,5),(0,6),(0,7),(0,8),(0,9),(0,10),(0,11),(0,12),(0,13),(0,14),(0,15),(0,16),(0,17),(0,18),(1,2),(1,19),(0,20),(0,21)] kr ?_;refine Jz (bd.at (i:=6) rfl) ?_;refine Uf 3 v (bc.ext J) hv ?_;refine Jz (Gf J (a5 0 _ rfl)) ?_;refine Jz (bd.at (i:=5) rfl) ?_;refine Uf 3 v (hF.bags.ext J) hv ?_;refine Jz (Gf J (aq 1 _ rfl)) ?_;refine Jh (Qws (R:=R) bd rfl rfl (hF.bags.ext J) (hF.rels.ext J λcs a h=>Jnh h J) bp hv hF.kb) ?_;rintro vl w3 ⟨d3,an⟩;refine⟨an,?_⟩;have bi:=J.trans an;refine ρd ?_;rw[bo];refine dcl (Qkz (vars:=bk (kf v ||| 2^v) 32) (bo ▸ cp.ext bi) (hF.kb v hv) (λu hu=>(bk_mem.1 hu).1) (Yo _ _)) ?_;rintro uc w4 ⟨c3,b5⟩;refine⟨b5,?_⟩;obtain⟨CA,cc,rfl,dl,cz⟩:=Jy c3;refine ρd ?_;refine ρ ?_;have a4:=(ak.trans an).trans b5
 have aa:=a3.trans a4;have d6:=ai.ext a4;have b7:∀ j u,([.int .i64 ((bk (kf v ||| 2^v) 32).length:Int),t3]:List Value)[j]?=some u->w4.cell? (((adr RA (v*3)).add 1).add j)=some u:=λj u hu=>by
  have:=a5 (1+j) u (by rw[Nat.add_comm];exact hu);rw[Xh]at this;rw[Xh,Xh,Nat.add_assoc];exact Gf aa this
 refine ld (d6.at (i:=6) rfl) ?_;refine Qu 3 v (bc.ext aa) hv ?_;refine Jt (cs:=[.int .i64 ((bk (kf v ||| 2^v) 32).length:Int),t3]) b7 ?_;refine clR (Jgf (ar:=(bk (kf v ||| 2^v) 32).length) (ls:=R v) ((be.ext aa).rel)) ?_;rintro ur w5 ⟨b4,ao⟩;obtain⟨ps,GA,gc,bf,rfl,dk,da,bn,b6⟩:=ao;have a1:(R v).length=ps.length:=by rw[bf,List.length_map]
 have ab:=a4.trans b4;have bq:mb<w4.heap.size:=nM av a4.size;have b8:b≠mb:=λe=>by have h1:=hB.lt;omega
 refine ρ ?_;refine Xn (fun (i:Nat) (m:Nat) (fm:Lit->Option Value)=>[(0,.pointer (some ⟨b,0,none⟩)),(1,.int .i64 (v:Int)),(4,vl),(5,.slice CA (Za kf v).length cc),(43,.slice GA ps.length gc),(44,.int .i64 (ps.length:Int)),(45,.int .i64 (i:Int))])
  (λi m fm w'=>i<=ps.length/\GrN (λk=>k=mb) w5 w'/\MapS Tryz.prog 9 w' mb m fm/\m<=i/\(∀ k:Row,fm (.string (idn k))=if 0<Un ((R v).take i) (Za kf v) (λx=>wtL T x (chK kf pf v n)) k then some (.bool true) else none)/\∀ kl,fm kl≠none->∃ k:Row,kl=.string (idn k)) (λi _ _=>ps.length-i) 0 0 (λ_=>none) sB
  ⟨Nat.zero_le _,GrN.refl _ _,c9.ext ab,Nat.le_refl _,λk=>?_,λkl h=>absurd rfl h⟩ ?_
 .rw[if_neg];intro h;obtain⟨x,hx,_⟩:=redT_pos.1 h;simp at hx
 rintro i m fm w6 ⟨hi,ag,c8,di,ap,b9⟩;refine ciR (λh=>?_) (λh=>?_)
 .have li:i<ps.length:=by have:=oT h;omega
  clear h;obtain⟨x,b2⟩:∃ x,x=(ps.getD i z0).2:=⟨_,rfl⟩;have cj:x∈R v:=by rw[bf,b2];exact List.mem_map_of_mem (getD_mem' z0 ps li)
  have b1:(R v).getD i []=x:=by rw[bf,b2];simp[List.getD,List.getElem?_eq_getElem li]
  obtain⟨az,a9⟩:=hF.rows v hv x cj;have D:GrN (λk=>k=mb) w2 w6:=(GrN.ext ab).trans ag;have a2:Ext wF w6:=D.old a3 λk G=>by rw[G];exact br
  have d5:=Jc ai D b8;have c5:=Rd.own (Ja s3 D λg eg e=>by have:=(aj g eg).2;omega);have d0:=Rd.own (Ja ay D λg eg e=>by have:=(bg g eg).2;omega);have d2:GV 2 ChG w6 vl (chK kf pf v n):=((((d3.ext b5).ext b4).gr ag λk G=>by rw[G];exact av)).gv (by have:=Jkf kf pf v n;omega);have ax:GrN (λk=>k<w4.heap.size) w5 w6:=ag.mono λk _ G=>by rw[G];exact bq
  have ad:RowV w6 (ps.getD i z0).1 x:=by rw[b2];exact b6 _ (getD_mem' z0 ps li) w6 ax
  have au:=bn w6 ax;have a6:GrN AR w w6:=((c1.mono λk _ G=>(.inl G:AR k∨k=mb)).trans (D.mono λk _ G=>.inr G)).mono λk G h=>h.elim id λe=>by omega
  have bm:∀ c,c≠v->(va.set v (.map (some mb))).getD c (.map none)=va.getD c (.map none):=λc hc=>by simp[List.getD,List.getElem?_set_ne (Ne.symm hc)]
  have cq:∀ c,c<n->pf c=(v:Int)->c≠v:=λc hc hp e=>hF.pn c hc (by rw[hp,e]);refine ixR i au li ?_;refine ldR (au.cell (show(ps.map (·.1))[i]?=some (ps.getD i z0).1 by simp[List.getD,List.getElem?_eq_getElem li])) ?_
  refine clR (Jps (T:=T) (AR:=AR) (hF.tb.ext a2) d5 rfl rfl rfl c5 d0 d2 (by have:=Jkf kf pf v n;omega) (λp hp=>?_) ad a9 (λp hp af=>?_) (λp hp af=>?_) (λp hp af k=>hT1 _ af k) (λp hp k=>hTb _ k)) ?_
  .obtain⟨h1,h2,h3⟩:=Jqg hp;refine⟨h1,λc hc=>?_⟩;rw[h3]at hc;rw[az];exact Jkc hc
  .obtain⟨h1,h2,h3⟩:=Jqg hp;rw[bm _ (cq _ h1 h2)];exact(hdv _ h1 h2 af).gr a6
  .obtain⟨h1,h2,h3⟩:=Jqg hp;exact(hdt _ h1 h2 af).gr a6
  rintro vw w7 ⟨ck,_,a7⟩;obtain⟨WA,wc,rfl,ac⟩:=Jhr ck;have c7:=c8.ext a7;have ba:=ag.trans (GrN.ext a7);refine ciR (λh=>?_) (λh=>?_)
  .have ae:0<wtL T x (chK kf pf v n):=ac.1 (by have:=oT h;omega);have bw:GrN (λk=>k=mb) w2 w7:=D.trans (GrN.ext a7);have bh:=a2.trans a7;have O:Ext w7 w7.drew:=(Ext.refl w7).drew;have d4:=(Jc ai bw b8).ext O;have c4:Rd w7.drew 1 VA n (va.set v (.map (some mb))):=c5.ext (a7.trans O);have c2:Rd w7.drew 1 CA (Za kf v).length (Je (nz (Za kf v))):=Rd.own (Jk (Ja (Jk c3 b4) ba λg eg e=>by have:=(cz g eg).1;have:=an.size;have:=ak.size;omega) O);have ah:FitR (pmR (Za kf v) x):=a9.pm (λc hc=>by rw[az];exact Jkc hc) (nL (Jmj _ _) (Yo _ _));have cm:(va.set v (.map (some mb)))[v]?=some (.map (some mb)):=by rw[List.getElem?_set_self om]
   refine ρ ?_;refine drN (λ_=>False) 10 (scq 12 [9,10,111]) kr ?_;refine ρn ?_;refine nld (Jr (d4.at (i:=7) rfl) (λe=>e)) ?_;refine ρn ?_;refine nix v c4 hv ?_;refine ρn ?_;refine nld (Jr (c4.cell cm) (λe=>e)) ?_;refine ρn ?_;refine nop ?_;refine cl (Qjw (cs:=Za kf v) ((ad.ext a7).ext O) c2 (λc hc=>by rw[az];exact Jkc hc) (by have:=Jmj (bk (kf v ||| 2^v) 32) (kf v);have:=Yo (kf v ||| 2^v) 32;unfold Za;omega)) ?_;rintro uk w8 ⟨cx,am⟩;obtain⟨KA,kc,rfl,dj,dc,cw⟩:=id cx;refine ρ ?_;refine Qj (GrN.ext am) ?_;refine ρn ?_;refine nop ?_;refine cl (Jzt (r:=pmR (Za kf v) x) ((hF.tb.ext (bh.trans O)).ext am) cw (λu hu=>(ah.2 u hu).1) (by have:=ah.len;omega) (by have:=ah.1;omega)) ?_;rintro un w9 ⟨rfl,b3⟩;refine ρ ?_;refine Qj (GrN.ext b3) ?_;refine ρn ?_;refine Xm ?_;refine mup KS (((c7.ext O).ext am).ext b3) (by unfold maxLen;omega) (Gu ah) ?_
   intro dd ca bz;refine ρ ?_;refine Qt (i+1) (m+1) (upL fm (.string (idn (pmR (Za kf v) x))) (some (.bool true))) sO ⟨li,((ba.trans (GrN.ext O)).trans ((GrN.ext am).trans (GrN.ext b3))).trans (GrN.by bz λk G=>by injection G with G;exact G.symm),ca,om,λk=>?_,λkl bs=>?_⟩ om
   .by_cases e:pmR (Za kf v) x=k
    .rw[<-e,Kw (KS.key (Gu ah)),if_pos];refine redT_pos.2 ⟨x,?_,ae,rfl⟩;rw[Qs [] (by rw[a1];exact li),b1];exact List.mem_append_right _ (List.mem_singleton.2 rfl)
    rw[Ul (λe'=>e (Jcf (by injection e'.symm))),ap k];have e2:(0<Un ((R v).take (i+1)) (Za kf v) (λx=>wtL T x (chK kf pf v n)) k)↔(0<Un ((R v).take i) (Za kf v) (λx=>wtL T x (chK kf pf v n)) k):=by
     rw[redT_pos,redT_pos,Qs [] (by rw[a1];exact li),b1];constructor
     .rintro⟨y,hy,h1,h2⟩;rcases List.mem_append.1 hy with h3|h3
      .exact⟨y,h3,h1,h2⟩
      rw[List.mem_singleton.1 h3]at h2;exact absurd h2 e
     rintro⟨y,hy,h1,h2⟩;exact⟨y,List.mem_append_left _ hy,h1,h2⟩
    simp only[e2]
   by_cases e:kl=.string (idn (pmR (Za kf v) x))
   .exact⟨_,e⟩
   rw[Ul e]at bs;exact b9 kl bs
  have ae:¬ 0<wtL T x (chK kf pf v n):=λh'=>by have:=ac.2 h';have:=oF h;omega
  refine ρ ?_;refine Qt (i+1) m fm sO ⟨li,ba,c7,om,λk=>?_,b9⟩ om;rw[ap k];have e:(0<Un ((R v).take (i+1)) (Za kf v) (λx=>wtL T x (chK kf pf v n)) k)↔(0<Un ((R v).take i) (Za kf v) (λx=>wtL T x (chK kf pf v n)) k):=by
   rw[redT_pos,redT_pos,Qs [] (by rw[a1];exact li),b1];constructor
   .rintro⟨y,hy,h1,h2⟩;rcases List.mem_append.1 hy with h3|h3
    .exact⟨y,h3,h1,h2⟩
    rw[List.mem_singleton.1 h3]at h1;exact absurd h1 ae
   rintro⟨y,hy,h1,h2⟩;exact⟨y,List.mem_append_left _ hy,h1,h2⟩
  simp only[e]
 have cy:i=ps.length:=by have:=oF h;omega
 rw[cy,<-a1,List.take_length]at ap;have D:GrN (λk=>k=mb) w2 w6:=(GrN.ext ab).trans ag;have a2:Ext wF w6:=D.old a3 λk G=>by rw[G];exact br
 have bb:GrN (λk=>(Value.slice VA n cv).ownBlock=some k) w w2:=(GrN.ext Z).trans (GrN.by s5 λk G=>G);have a6:GrN (λk=>(Value.slice VA n cv).ownBlock=some k) w w6:=((bb.mono λk _ G=>(.inl G:(Value.slice VA n cv).ownBlock=some k∨k=mb)).trans (D.mono λk _ G=>.inr G)).mono λk G h=>h.elim id λe=>by omega
 refine ρ ?_;refine Yt ⟨rfl,.map (some mb),⟨a2,Jc ai D b8,Ja s3 D λg eg e=>(by have:=(aj g eg).2;omega),Ja ay D λg eg e=>(by have:=(bg g eg).2;omega)⟩,a6,mb,m,fm,rfl,by have:=hF.rlen v hv;omega,⟨c8,?_⟩,ap,b9⟩;intro h';have:=hARl mb h';omega
end Go.Proofs.YtgobkbeokaaplaaGreatDoor
namespace Go.Wk
open Go.RowKit
variable {cs xs:List Value}{base c e m n q ty:Nat}{A:Option Addr}{P:Program}{w:World}
theorem Qmw{sz:Nat}(ho:w.ownsRow base e sz (.slice A m c) m xs)(hj:q+cs.length<=m*sz)(h0:0<cs.length)(h1:∀ u∈cs,u.oneCell'=true):
  ∃ w',(storeCells (adr A q) cs).run P w=.ok () w'/\w'.ownsRow base e sz (.slice A m c) m (xs.take q++cs++xs.drop (q+cs.length))/\w.grownBy w' (Value.slice A m c).ownBlock:=by
 rcases ho.2 with⟨hn,O⟩|⟨g,cap,cur,hv,hb,hg,hc,hcm,hcs,ht⟩
 .grind
 injection hv with D _ e3
 subst D;subst e3;have G:m*sz<=c*sz:=nO _ hc;have J:adr (some ⟨g,0,none⟩) q=⟨g,q,none⟩:=by simp[adr,Yc]
 rw[J];have i:=run_storeCells_at (P:=P) g q e cs 0 cur w hg om h1;simp only[Nat.add_zero]at i;refine⟨_,i,⟨?_,.inr ⟨g,c,_,rfl,hb,setRow_heap w g cur _ e (0,0) hg,hc,hcm,?_,?_⟩⟩,?_⟩
 .grind
 .grind
 .simp only;have j:(cur.toList.take q++cs).length=q+cs.length:=by grind
  rw[List.take_append,j];have D:(cur.toList.take q++cs).take (m*sz)=cur.toList.take q++cs:=List.take_of_length_le om;rw[D,<-ht,List.take_take,Nat.min_eq_left om,List.drop_take]
 exact Jqq w g (cur.toList.take q++cs++cur.toList.drop (q+cs.length)).toArray
theorem stoG{al:AL}{Q:Exit->Act->World->Prop}{ops:Array Oper}{rest:List Oper}{pos:String}{aft:Array Edge}{tt:TT}[h:Tab P tt]{x y:Operand}{t sz:Nat}{k:TK}(ho:w.ownsRow base e sz (.slice A m c) m xs)(hj:q+cs.length<=m*sz)(h0:0<cs.length)(kk:∀ w1,w1.ownsRow base e sz (.slice A m c) m (xs.take q++cs++xs.drop (q+cs.length))->w.grownBy w1 (Value.slice A m c).ownBlock->WL P n ops Q rest al w1)(h1:∀ u∈cs,u.oneCell'=true)(ht:tk tt t=some k:=by rfl)(hk:k.desc=.invalid:=by rfl)(hs:k.size=cs.length:=by rfl)(hx:ev al x=some (.pointer (some (adr A q))):=by rfl)(hy:ev al y=some (.agg cs.toArray):=by rfl):
  WL P n ops Q (⟨none,.store t x y,ty,pos,aft,none⟩::rest) al w:=by
 obtain⟨w',j,D,G⟩:=Qmw (P:=P) ho hj h0 h1;refine Jjl (λa J=>?_) (kk w' D G);have i:=Yj w (Jxm h.ok ht hk w).2;simp[execOp,J.ev hx,J.ev hy,Instr.storeAt,Instr.sureAddr,storeVar,Value.cells,i,hs,j]
end Go.Wk
namespace Go.Proofs.YtgobkbeokaaplaaGreatDoor
open Go.RowKit Pl Go.Wk
attribute [local irreducible] WC WL QX WD WDB WP WN WG
variable {d:Bool}{N:Nat->Prop}{v:Value}{w w':World}
abbrev BkT:= Row×Tr
def BkE(d:Bool)(N:Nat->Prop)(w:World)(cs:List Value)(b:BkT): Prop:=∃ kv q,cs=[kv,.bool d,q]/\RowX w N kv b.1/\TrV N w b.2 q
theorem RowX.gr{r:Row}(h:RowX w N v r)(hg:GrN N w w'): RowX w' N v r:=by
 obtain⟨A,c,G,D,u,j,i⟩:=h;exact⟨A,c,G,D,u,Vb j hg λh0 J e=>i (λO=>by grind [Js]) J e,i⟩
theorem BkE.gr{d:Bool}{N:Nat->Prop}{w w':World}{cs:List Value}{b:BkT}(h:BkE d N w cs b)(hg:GrN N w w'): BkE d N w' cs b:=by
 obtain⟨kv,q,u,j,i⟩:=h;exact⟨kv,q,u,j.gr hg,i.gr hg⟩
theorem BkE.ext{d:Bool}{N:Nat->Prop}{w w':World}{cs:List Value}{b:BkT}(h:BkE d N w cs b)(hx:Ext w w'): BkE d N w' cs b:=h.gr (GrN.ext hx)
theorem BkE.old{d:Bool}{N N':Nat->Prop}{w:World}{cs:List Value}{b:BkT}(h:BkE d N w cs b)(hs:∀ k,N' k->N k∨w.heap.size<=k): BkE d N' w cs b:=by
 obtain⟨kv,q,u,j,i⟩:=h;exact⟨kv,q,u,j.mono λk D h=>(hs k h).elim id λG=>om,i.old hs⟩
structure OwnB(d:Bool)(base:Nat)(w:World)(v:Value)(ps:List (List Value×BkT)): Prop where
 own:w.ownsRow base 78 3 v ps.length (Qm ps)
 el:∀ p∈ps,BkE d (Xx base v) w p.1 p.2
theorem BkE.len{cs:List Value}{b:BkT}(h:BkE d N w cs b): cs.length=3:=by
 obtain⟨kv,q,rfl,_⟩:=h;rfl
theorem OwnB.nil(d:Bool)(base:Nat)(w:World): OwnB d base w (.slice none 0 0) []:=⟨Zw _ _ _ _,λp hp=>by cases hp⟩
theorem OwnB.form{base:Nat}{ps:List (List Value×BkT)}(h:OwnB d base w v ps): ∃ A c,v=.slice A ps.length c/\ps.length<=c/\∀ g,v.ownBlock=some g->base<=g/\g<w.heap.size:=Jy h.own
theorem OwnB.gr{d:Bool}{base:Nat}{w w':World}{v:Value}{ps:List (List Value×BkT)}(h:OwnB d base w v ps){N:Nat->Prop}(hg:GrN N w w')(hN:∀ k,N k->k<base): OwnB d base w' v ps:=by
 obtain⟨_,_,_,_,j⟩:=h.form;exact⟨Ja h.own hg (λg u hn=>by grind),λp hp=>(h.el p hp).gr (hg.mono λk _ i=>.inl (hN k i))⟩
theorem OwnB.ext{d:Bool}{base:Nat}{w w':World}{v:Value}{ps:List (List Value×BkT)}(h:OwnB d base w v ps)(hx:Ext w w'): OwnB d base w' v ps:=h.gr (N:=λ_=>False) (GrN.ext hx) λk e=>e.elim
theorem BkE.one{d:Bool}{N:Nat->Prop}{w:World}{cs:List Value}{b:BkT}(h:BkE d N w cs b): ∀ u∈cs,u.oneCell'=true:=by
 obtain⟨kv,q,rfl,D,j⟩:=h;obtain⟨p,rfl⟩:=j.ptr;intro u i;simp only[List.mem_cons,List.not_mem_nil,or_false]at i;rcases i with rfl|rfl|rfl
 .exact D.v.one
 .rfl
 rfl
theorem EBk: ElT Tryz.prog 72 78 3 40 (.agg #[.slice none 0 0,.bool false,.pointer none]):=⟨Tryz.underlying72,info_parts kr,rfl,by decide⟩
open Go.RowKit Pl Go.Wk
variable {d dir:Bool}{ps:List (List Value×BkT)}{bs i:List (Row×Tr)}{b base m n ty:Nat}{x:Row}{wt:Row->Nat}
theorem apB{al:AL}{w:World}{Q:Exit->Act->World->Prop}{ops:Array Oper}{rest:List Oper}{d:Nat}{pos:String}{aft:Array Edge}{x y:Operand}{v:Value}{cs:List Value}{bt:BkT}(ho:OwnB dir base w v ps)(hb:Blk w b 78 cs)(hΦ:BkE dir (Xx base v) w cs bt)(hm:ps.length<=1000000)(hbase:base<=w.heap.size)(kk:∀ v' w',OwnB dir base w' v' (ps++[(cs,bt)])->w.grownBy w' v.ownBlock->WL Tryz.prog n ops Q rest ((d,v')::al) w')(hx:ev al x=some v:=by rfl)(hy:ev al y=some (.slice (some ⟨b,0,none⟩) 1 1):=by rfl)(hd:Nat.blt d n=true:=by rfl):
  WL Tryz.prog n ops Q (⟨some d,.call { callee:=.builtin .append,args:=#[x,y],argTypes:=#[72,72] },ty,pos,aft,none⟩::rest) al w:=by
 refine apb (m':=1) (news:=cs) EBk ho.own (hb.rd (n:=1) (by rw[hΦ.len])) hΦ.one (by unfold maxLen;omega) om hbase ?_ hx hy hd;intro v' w' u D hn;refine kk v' w' ⟨?_,?_⟩ D
 .rw[List.length_append,List.length_singleton];have e:Qm (ps++[(cs,bt)])=Qm ps++cs:=by simp[Qm]
  rw[e];exact u
 have key:∀ p:List Value×BkT,BkE dir (Xx base v) w p.1 p.2->BkE dir (Xx base v') w' p.1 p.2:=λp j=>by
  have G:BkE dir (λk=>Xx base v k∨Xx base v' k) w p.1 p.2:=j.old λk i=>by
   rcases i with h|h|h
   .exact .inl h
   .exact .inl (.inl h)
   rcases hn k h with h'|h'
   .exact .inl (.inr h')
   exact .inr h'
  exact(G.gr (GrN.by D λk i=>.inl (.inr i))).old λk i=>.inl (.inr i)
 intro p hp;rcases List.mem_append.1 hp with j|j
 .exact key p (ho.el p j)
 rw[List.mem_singleton.1 j];exact key (cs,bt) hΦ
theorem Xjg(hl:∀ p∈ps,p.1.length=3)(kv x1 x2 y1 y2:Value)(b b':BkT):
  (Qm (ps++[([kv,x1,x2],b)])).take (ps.length*3+1)++[y1,y2]++(Qm (ps++[([kv,x1,x2],b)])).drop (ps.length*3+1+2)=Qm (ps++[([kv,y1,y2],b')]):=by
 have e:∀ z:List Value×BkT,Qm (ps++[z])=Qm ps++z.1:=λz=>by simp[Qm]
 have i:=Jlq hl;grind [Qm,kv,List.take_append,List.take_of_length_le,Nat.add_sub_cancel_left,List.drop_of_length_le]
theorem Qfv(h0:wt x≠0)(h1:¬ (bs.getLast?.map (·.1))=some (x.take m)): Pl.stepG d wt m bs x=bs++[(x.take m,Tr.put d (x.getD m V0) (wt x) .nil)]:=by
 rw[Pl.stepG,if_neg h0,if_neg h1]
theorem Qfw{t:Tr}(h0:wt x≠0): Pl.stepG d wt m (i++[(x.take m,t)]) x=i++[(x.take m,Tr.put d (x.getD m V0) (wt x) t)]:=by
 rw[Pl.stepG,if_neg h0,if_pos (by simp)];simp
theorem Qft(h0:wt x=0): Pl.stepG d wt m bs x=bs:=by rw[Pl.stepG,if_pos h0]
def Vs(d:Bool)(wt:Row->Nat)(m:Nat)(rs:List Row): List BkT:=rs.foldl (Pl.stepG d wt m) []
theorem Jcg(d:Bool)(wt:Row->Nat)(m:Nat)(rs:List Row)(x:Row): Vs d wt m (rs++[x])=Pl.stepG d wt m (Vs d wt m rs) x:=by grind [Vs]
theorem Jvc{rs:List Row}(hs:Lt [] rs)(hl:∀ y∈rs,y.length=m+1): GInv d wt m rs (Vs d wt m rs):=by
 suffices h:∀ k,k<=rs.length->GInv d wt m (rs.take k) (Vs d wt m (rs.take k)) by
  have:=h rs.length (nR _);rw[List.take_length]at this;exact this
 intro k;induction k with
 | zero=>intro _;exact GInv.nil d wt m
 | succ k ih=>
  intro i;have e:=Qs [] (show k<rs.length by omega);rw[e,Jcg];refine(ih om).step ?_ ?_
  .rw[<-e];exact hs.sublist (List.take_sublist _ _)
  repeat grind
def Gk(bs:List BkT)(k:Row): Nat:=match bs.find? λb=>decide (b.1=k) with
 | some b=>b.2.sum
 | none=>0
theorem Jdz(bs:List BkT)(k:Row): Gk bs k=tot (entK bs k):=by
 unfold Gk entK;cases bs.find? λb=>decide (b.1=k) with
 | some b=>exact Tr.sum_eq _
 | none=>rfl
end Go.Proofs.YtgobkbeokaaplaaGreatDoor
namespace Go.Wk
variable {d n t ty:Nat}
theorem dalc'{P:Program}{al:AL}{w:World}{Q:Exit->Act->World->Prop}{ops:Array Oper}{drest:List (Nat×Oper)}{pos:String}{aft:Array Edge}{z:Value}{cs:List Value}(hz:Qr P t=some z)(kk:∀ w1 b,Ext w w1->w.heap.size<=b->Blk w1 b t cs->WD P n ops Q drest ((d,.pointer (some ⟨b,0,none⟩))::al) w1)(hv:z.cells=cs.toArray:=by rfl)(hd:Nat.blt d n=true:=by rfl):
  WD P n ops Q ((1,⟨some d,.alloc t,ty,pos,aft,none⟩)::drest) al w:=by grind [Gc,alc,Jd,Gb]
end Go.Wk
namespace Go.Proofs.YtgobkbeokaaplaaGreatDoor
open Go.RowKit Pl Go.Wk _root_.Go.Proofs.Tryz
attribute [local irreducible] WC WL QX WD WDB WP WN WG
variable {d:Bool}{S e k m n:Nat}{AR N:Nat->Prop}{Av Pv v vR:Value}{w wF:World}
theorem Qvl(kv:Value)(A:Option Addr)(n c:Nat)(d:Bool)(p:Option Addr)(h:kv=.slice A n c)(w:World): (Instr.build 78 #[(0,kv),(1,.agg #[.bool d,.pointer p])]).run prog w=.ok (.agg [kv,.bool d,.pointer p].toArray) w:=by subst h;kernel_rfl
theorem Qvf(kv:Value)(A:Option Addr)(n c:Nat)(d:Bool)(p:Option Addr)(h:kv=.slice A n c)(w:World): (Instr.buildSlice 72 1 #[(0,.agg [kv,.bool d,.pointer p].toArray)]).run prog w=.ok (.slice (some ⟨w.heap.size,0,none⟩) 1 1) (w.alloc (.cells [kv,.bool d,.pointer p].toArray 78)):=by subst h;kernel_rfl
def DnB(AR:Nat->Prop)(d:Bool)(w:World)(x:Value)(bs:List BkT): Prop:=∃(ps:List (List Value×BkT)) (A:Option Addr) (c:Nat),bs=ps.map (·.2)/\x=.slice A ps.length c/\ps.length<=c/\ps.length<=65536/\Rd w 3 A ps.length (Qm ps)/\(0<ps.length->∀ ad,A=some ad->¬ AR ad.block)/\∀ p∈ps,p.1.length=3/\BkE d AR w p.1 p.2
theorem DnB.gr{AR:Nat->Prop}{d:Bool}{w w':World}{x:Value}{bs:List BkT}(h:DnB AR d w x bs)(hg:GrN AR w w'): DnB AR d w' x bs:=by
 obtain⟨ps,A,c,O,J,G,D,u,j,i⟩:=h;refine⟨ps,A,c,O,J,G,D,Vb u hg λh0 Z e=>j ?_ Z e,j,λp hp=>⟨(i p hp).1,(i p hp).2.gr hg⟩⟩;have:=u.1;omega
theorem Nb.big(hS:S<=4294967296^e)(he:e<=800)(hk:k<=4294967296)(hn:n<=k*S): Nb n:=by
 have i:k*S<=4294967296^(e+1):=by
  rw[Nat.pow_succ,Nat.mul_comm];exact Nat.mul_le_mul hS hk
 exact Nat.lt_of_le_of_lt (nL hn i) (Nat.pow_lt_pow_right (by decide) (by rw[Jnf];omega))
theorem Jfz(x:Row)(h:m<=x.length): (Js x).take (m*3)=Js (x.take m):=by grind [Js,rowC_app',List.take_append_drop,List.take_left',Jtp,List.length_take,Nat.min_eq_left]
theorem Jdw{p:Value}{t:Tr}(h:TrV N w t p)(hn:Nb t.sum): Ret prog 134 [.agg #[.bool d,p]] w λu w'=>NatV w' u t.sum/\Fresh w u/\Ext w w':=by
 obtain⟨q,rfl⟩:=h.ptr;refine enE func134 ntmps134 ?_;refine bxR ?_;intro w1 b j hb Z;refine ldR (Z.at (i:=1) rfl) ?_;refine clR (Jxk (h.ext j)) ?_;rintro u w2 ⟨O,rfl⟩;refine clR (Jwn O.1 hn.len) ?_;rintro u3 w3 ⟨G,J,D⟩;refine ρ ?_;exact Jj ⟨G,λad m c e=>nL j.size (J ad m c e),j.trans D⟩
theorem Jdj: Qr prog 78=some (.agg #[.slice none 0 0,.bool false,.pointer none]):=kr
theorem Jbm{p:Option Addr}(h:v.oneCell'=true): ∀ u∈[v,.bool d,.pointer p],u.oneCell'=true:=λu i=>by
 simp only[List.mem_cons,List.not_mem_nil,or_false]at i;rcases i with rfl|rfl|rfl
 .exact h
 .rfl
 rfl
theorem Qdx(bs:List BkT)(b:BkT)(k:Row)(h:b.1 ∉ bs.map (·.1)): Gk (bs++[b]) k=if b.1=k then b.2.sum else Gk bs k:=by grind [Gk,List.find?_eq_none.2,List.mem_map.2]
theorem Qdv{wt:Row->Nat}{rs:List Row}{bs:List BkT}(h:GInv d wt m rs bs){b:BkT}(hb:b∈bs): 0<b.2.sum:=by
 obtain⟨u,j⟩:=h.con b hb;rw[Tr.sum_eq,u,Jcp];exact(Qds λp hp=>by obtain⟨x,_,_,_,_,i⟩:=entL_mem.1 hp;exact i).2 j
theorem Qtw{B0 f b v cb cv ct ck dc:Nat}{kf:Nat->Nat}{pf:Nat->Int}{R:Nat->List Row}{BA VA TA KA DA:Option Addr}{va ta ba:List Value}{ds:List Bool}{T:Nat->Row->Nat}(hF:FixW B0 n f kf pf R vR BA wF)(hds:ds.length=f)(hD:RdB wF DA ds)(hW:BldW wF b n (bCs n f (.slice DA f dc) Pv Av BA cb vR VA cv TA ct (.slice KA f ck)) VA cv TA ct w va ta)(hBa:w.ownsRow wF.heap.size 72 1 (.slice KA f ck) f ba)(hvf:v<f)(hm:0<(bk (kf v ||| 2^v) 32).length)(hval:∀ x∈R v,Xl (x.getD ((bk (kf v ||| 2^v) 32).length-1) V0)=true)(hlt:Lt [] (R v))(hdv:∀ c,c<n->pf c=(v:Int)->f<=c->DnV AR (T c) w (va.getD c (.map none)))(hdt:∀ c,c<n->pf c=(v:Int)->c<f->DnT AR (T c) w (ta.getD c (.map none)))(hT1:∀ c,f<=c->∀ k,T c k<=1)(hTb:∀ c k,T c k<=4294967296^20)(hAR:∀ k,ARk n f VA cv TA ct (.slice KA f ck) k->AR k)(hARl:∀ k,AR k->k<w.heap.size):
  Ret prog 76 [.pointer (some ⟨b,0,none⟩),.int .i64 (v:Int)] w λu w'=>u=.int .i64 0/\∃ mv lv,BldW wF b n (bCs n f (.slice DA f dc) Pv Av BA cb vR VA cv TA ct (.slice KA f ck)) VA cv TA ct w' va (ta.set v mv)/\w'.ownsRow wF.heap.size 72 1 (.slice KA f ck) f (ba.set v lv) /\
   GrN AR w w'/\DnT AR (Gk (Vs (ds.getD v false) (λx=>wtL T x (chK kf pf v n)) ((bk (kf v ||| 2^v) 32).length-1) (R v))) w' mv /\
   DnB AR (ds.getD v false) w' lv (Vs (ds.getD v false) (λx=>wtL T x (chK kf pf v n)) ((bk (kf v ||| 2^v) 32).length-1) (R v)):=by
 obtain⟨ef,hB,fj,av⟩:=hW;have ex:=hF.n32;have ja:=hF.fn;have hv:v<n:=om
 have i1:Rd wF 1 DA f (ds.map Value.bool):=hds ▸ hD;refine enE func76 ntmps76 ?_;refine ldR (hB.at (i:=8) rfl) ?_;refine ρ ?_;refine mkm 9 ?_;intro w1 mb a5 gx hM;obtain⟨s1,s2,s3,s4,s5⟩:=Zt (Jk av a5) (q:=v) om (.map (some mb));have j0:ta.length=n:=by have:=av.1;omega
 refine ixR v (Rd.own (Jk av a5)) om ?_;refine Xq (s1.trans (show ta[v]?=some (ta.getD v (.map none)) by simp[List.getD,List.getElem?_eq_getElem (show v<ta.length by omega)])) s2 ?_;refine ρ ?_;obtain⟨w2,eo⟩:∃ w2,w2=w1.setCell (adr TA v) (.map (some mb)):=⟨_,rfl⟩;rw[<-eo]at s3 s5 ⊢;clear eo;have ge:∀ g,(Value.slice VA n cv).ownBlock=some g->wF.heap.size<=g/\g<w.heap.size:=(Jy fj).choose_spec.choose_spec.2.2;have d3:∀ g,(Value.slice TA n ct).ownBlock=some g->wF.heap.size<=g/\g<w.heap.size:=(Jy av).choose_spec.choose_spec.2.2;have e7:∀ g,(Value.slice KA f ck).ownBlock=some g->wF.heap.size<=g/\g<w.heap.size:=(Jy hBa).choose_spec.choose_spec.2.2;have ic:=a5.size;have ik:=hM.lt;have dw:Blk w2 b 159 _:=(hB.ext a5).grown s5 ((hB.ext a5).ne_own (Jk av a5) rfl);have cy:w2.ownsRow wF.heap.size 213 1 (.slice VA n cv) n va:=Zl (Jk fj a5) (Jk av a5) s5 rfl
 have fy:w2.ownsRow wF.heap.size 72 1 (.slice KA f ck) f ba:=Zl (Jk hBa a5) (Jk av a5) s5 rfl;have fw:MapS prog 9 w2 mb 0 (λ_=>none):=hM.kept s5 (λe=>by have:=(d3 mb e.symm).2;omega);have fa:GrN AR w w2:=(GrN.ext a5).trans (GrN.by s5 λk G=>hAR k (.inr (.inl G)));have ai:Ext wF w2:=Ql (ef.trans a5) s5 λk G=>(d3 k G).1;have gy:wF.heap.size<=mb:=nL ef.size gx;have ij:=fw.lt;obtain⟨RA,rc,iv,g4,gn,gm,fp,ho⟩:=hF.rels.parts;rw[List.length_map,List.length_range]at g4 gn gm fp;obtain⟨re,ie,⟨t,i8,dz⟩,c7⟩:=ho v (by simpa using hv);subst i8;simp only[List.getElem_map,List.getElem_range]at dz;obtain⟨⟨PA,pc,g7,j4,j3,j2⟩,g6,gb⟩:=id dz;obtain⟨t1,t2,t3⟩:=t;simp only[Yb]at g7 g6;subst g7;subst g6;have ew:(nz (bk (kf v ||| 2^v) 32)).length=(bk (kf v ||| 2^v) 32).length:=Qg _;subst g4;refine cl (Qws (R:=R) dw rfl rfl (hF.bags.ext ai) (hF.rels.ext ai λcs a h=>Jnh h ai) ex hv hF.kb) ?_
 rintro vl w3 ⟨i0,d9⟩;have bc:=ai.trans d9;have i4:=dw.ext d9;have de:∀ j u,([.int .i64 ((bk (kf v ||| 2^v) 32).length:Int),t3]:List Value)[j]?=some u->w3.cell? (((adr RA (v*3)).add 1).add j)=some u:=λj u hu=>by
  have:=c7 (1+j) u (by rw[Nat.add_comm];exact hu);rw[Xh]at this;rw[Xh,Xh,Nat.add_assoc];exact Gf bc this
 refine ldR (i4.at (i:=6) rfl) ?_;refine Qu 3 v (fp.ext bc) hv ?_;refine Jt (cs:=[.int .i64 ((bk (kf v ||| 2^v) 32).length:Int),t3]) de ?_;refine clR (Jgf (ar:=(bk (kf v ||| 2^v) 32).length) (ls:=R v) ((dz.ext bc).rel)) ?_;rintro ur w5 ⟨ej,c6⟩;obtain⟨ps,GA,gc,e2,rfl,j8,ih,et,dd⟩:=c6;have dh:(R v).length=ps.length:=by rw[e2,List.length_map]
 have j1:=hF.rlen v hv;have a3:=d9.trans ej;have df:=et.here;have az:∀ p∈ps,RowV w5 p.1 p.2:=λp hp=>(dd p hp).here;have ca:=dw.ext a3;have ax:=ai.trans a3;have hx:=i0.ext ej;have du:=fw.ext a3;have er:∀ c,c≠v->(ta.set v (.map (some mb))).getD c (.map none)=ta.getD c (.map none):=λc hc=>by simp[List.getD,List.getElem?_set_ne (Ne.symm hc)]
 have gw:∀ c,c<n->pf c=(v:Int)->c≠v:=λc hc hp e=>hF.pn c hc (by rw[hp,e]);have cw:GrN AR w w5:=fa.trans (GrN.ext a3);have bn:=cw;obtain⟨d,hd⟩:∃ d,d=ds.getD v false:=⟨_,rfl⟩;obtain⟨m,c8⟩:∃ m,m=(bk (kf v ||| 2^v) 32).length-1:=⟨_,rfl⟩;obtain⟨wt,da⟩:∃ wt:Row->Nat,wt=λx=>wtL T x (chK kf pf v n):=⟨_,rfl⟩;rw[<-hd,<-c8,<-da];rw[<-c8]at hval;obtain⟨S,hS⟩:∃ S:Nat,S=(4294967296^20)^32:=⟨_,rfl⟩;obtain⟨e,he,fl⟩:∃ e,e<=800/\S<=4294967296^e:=⟨20*32,om,by rw[hS,<-Nat.pow_mul];exact nR _⟩;have ek:∀ x,wt x<=S:=λx=>by
  rw[da,hS];refine nL (Jdm λp hp=>hTb _ _) (Nat.pow_le_pow_right (Nat.pow_pos (by decide)) ?_);have:=Jkf kf pf v n;omega
 refine ρ ?_;refine Jo (fun (i:Nat) (vb:Value)=>[(0,.pointer (some ⟨b,0,none⟩)),(1,.int .i64 (v:Int)),(5,vl),(6,vb),(34,.slice GA ps.length gc),(35,.int .i64 (ps.length:Int)),(36,.int .i64 (i:Int))])
  (λi vb w'=>i<=ps.length/\Ext w5 w'/\∃ O,OwnB d w5.heap.size w' vb O/\O.map (·.2)=Vs d wt m ((R v).take i)/\O.length<=i/\∀ q∈O,q.2.2.sum<=i*S/\q.2.2.sz<=i) (λi _=>ps.length-i) 0 (.slice none 0 0) sB
  ⟨Nat.zero_le _,Ext.refl _,[],OwnB.nil _ _ _,rfl,Nat.le_refl _,λq hq=>by cases hq⟩ ?_
 clear hS;rintro i vb w6 ⟨hi,J,O,ao,ae,gq,b6⟩;obtain⟨LA,lc,rfl,gz,aq⟩:=ao.form;refine ciR (λh=>?_) (λh=>?_)
 .have li:i<ps.length:=by have:=oT h;omega
  clear h;obtain⟨x,c3⟩:∃ x,x=(ps.getD i z0).2:=⟨_,rfl⟩;have ea:x∈R v:=by rw[e2,c3];exact List.mem_map_of_mem (getD_mem' z0 ps li)
  have gi:(R v).getD i []=x:=by rw[e2,c3];simp[List.getD,List.getElem?_eq_getElem li]
  obtain⟨eb,d4⟩:=hF.rows v hv x ea;have bh:RowV w6 (ps.getD i z0).1 x:=by rw[c3];exact(az _ (getD_mem' z0 ps li)).ext J
  have cm:=df.ext J;have b9:=ax.trans J;have co:=cw.trans (GrN.ext J);have hw:GV 2 ChG w6 vl (chK kf pf v n):=(hx.ext J).gv (by have:=Jkf kf pf v n;omega);have c5:=Qs [] (show i<(R v).length by omega);rw[gi]at c5;refine ixR i cm li ?_;refine ldR (cm.cell (show(ps.map (·.1))[i]?=some (ps.getD i z0).1 by simp[List.getD,List.getElem?_eq_getElem li])) ?_
  refine clR (Jps (T:=T) (AR:=AR) (hF.tb.ext b9) (ca.ext J) rfl rfl rfl (Rd.own (Jk cy (a3.trans J))) (Rd.own (Jk s3 (a3.trans J))) hw (by have:=Jkf kf pf v n;omega) (λp hp=>?_) bh d4 (λp hp bj=>?_) (λp hp bj=>?_) (λp hp bj k=>hT1 _ bj k) (λp hp k=>hTb _ k)) ?_
  .obtain⟨Z,h2,h3⟩:=Jqg hp;refine⟨Z,λc hc=>?_⟩;rw[h3]at hc;rw[eb];exact Jkc hc
  .obtain⟨Z,h2,h3⟩:=Jqg hp;exact(hdv _ Z h2 bj).gr co
  .obtain⟨Z,h2,h3⟩:=Jqg hp;rw[er _ (gw _ Z h2)];exact(hdt _ Z h2 bj).gr co
  rintro vw w7 ⟨db,fb,b5⟩;have i7:wtL T x (chK kf pf v n)=wt x:=by rw[da]
  rw[i7]at db;obtain⟨WA,wc,rfl,bf⟩:=Jhr db;refine ciR (λh=>?_) (λh=>?_)
  .have h0:wt x=0:=by
    have:=Zv h;rcases Nat.eq_zero_or_pos (wt x) with h'|h'
    .exact h'
    have:=bf.2 h';omega
   refine ρ ?_;refine Jl (i+1) _ sO ⟨li,J.trans b5,O,ao.ext b5,?_,om,λq hq=>⟨?_,by have:=(b6 q hq).2;omega⟩⟩ om
   .rw[c5,Jcg,Qft h0];exact ae
   have:=(b6 q hq).1;rw[Nat.succ_mul];omega
  have h0:wt x≠0:=λe=>by(have:=Xo h;have Z:¬ 0<(Jq (wt x)).length:=λh'=>by have:=bf.1 h';omega);(omega)
  clear h;obtain⟨XA,xc,g3,iz,ia,gj⟩:=id bh;have j5:x.length=m+1:=by rw[eb,c8];omega
  rw[g3];have dj:RdR w7 XA (x.take m):=by
   have Z:=(Rd.ext gj b5).take (m:=m) om;have h2:(Js x).take (m*3)=Js (x.take m):=Jfz x om;rw[h2]at Z;have h3:(x.take m).length=m:=by rw[List.length_take];omega
   unfold RdR;rw[h3];exact Z
  have bm:RowV w7 (.slice XA m xc) (x.take m):=⟨XA,xc,by rw[List.length_take,Nat.min_eq_left om],by rw[List.length_take];omega,by rw[List.length_take];omega,dj⟩;have cj:=J.trans b5;have an:=ao.ext b5;refine ρ ?_;refine slh m ?_;refine ρ ?_;refine Jpp (fun (bb:Bool) (_:Unit)=>[(66,.bool bb),(0,.pointer (some ⟨b,0,none⟩)),(1,.int .i64 (v:Int)),(5,vl),(6,.slice LA O.length lc),(8,.slice XA x.length xc),(9,.slice WA (Jq (wt x)).length wc),(10,.slice XA m xc),(34,.slice GA ps.length gc),(35,.int .i64 (ps.length:Int)),(36,.int .i64 (i:Int))])
   (λbb _ w'=>Ext w7 w'/\(bb=true↔¬ (O.getLast?.map (·.2.1))=some (x.take m))) ?_ ?_
  .refine ki 55 (λh=>?_) (λh=>?_)
   .have gt:O=[]:=List.eq_nil_of_length_eq_zero (by have:=Zv h;omega);refine ρ ?_;refine Vc true () sB ⟨Ext.refl _,?_⟩;rw[gt];simp
   have dg:O≠[]:=λe=>by have:=Xo h;rw[e]at this;simp at this
   obtain⟨D,z,ez,e0,_⟩:=Jcj dg;have ah:z∈O:=by rw[ez];simp
   obtain⟨kv,zq,b7,c2,b8⟩:=an.el z ah;have ig:O.length=D.length+1:=by rw[ez];simp
   have gf:(Qm O)[(D.length)*3+0]?=some kv:=by
    rw[Iu (p:=z) (λp hp=>(an.el p hp).len) (by rw[ez];simp) om,b7];rfl
   have eu:=Rd.own an.own;refine Qu 3 D.length eu om ?_;refine ldR (by have:=eu.cell gf;rw[<-Xh]at this;exact this) ?_;refine clR (Jbd c2.v bm) ?_;rintro u w8 ⟨rfl,d5⟩;refine ρ ?_;refine Vc (!decide (z.2.1=x.take m)) () sB ⟨d5,?_⟩;rw[e0];simp
  rintro bb _ w8 ⟨a8,fe⟩;refine Zb (λs:((List (List Value×BkT))×Value×Option Addr×Tr)×Value=>[(0,.pointer (some ⟨b,0,none⟩)),(1,.int .i64 (v:Int)),(5,vl),(6,s.2),(8,.slice XA x.length xc),(9,.slice WA (Jq (wt x)).length wc),(10,.slice XA m xc),(34,.slice GA ps.length gc),(35,.int .i64 (ps.length:Int)),(36,.int .i64 (i:Int))])
   (λs w'=>Ext w5 w'/\GrN (λk=>Xx w5.heap.size (.slice LA O.length lc) k/\w5.heap.size<=k) w7 w'/\OwnB d w5.heap.size w' s.2 (s.1.1++[([s.1.2.1,.bool d,.pointer s.1.2.2.1],(x.take m,s.1.2.2.2))])/\Vs d wt m ((R v).take (i+1))=s.1.1.map (·.2)++[(x.take m,Tr.put d (x.getD m V0) (wt x) s.1.2.2.2)]/\s.1.1.length<=i/\s.1.2.2.2.sum<=i*S/\s.1.2.2.2.sz<=i/\∀ q∈s.1.1,q.2.2.sum<=i*S/\q.2.2.sz<=i) ?_ ?_
  .have br:=an.ext a8;refine ci (λh=>?_) (λh=>?_)
   .have ew:=fe.1 h;have aa:=cj.trans a8;have a6:Ext w8 w8.drew:=(Ext.refl w8).drew;have i2:=(ca.ext aa).ext a6;have ee:=(ax.trans aa).trans a6;have hf:¬ w5.heap.size<=b:=by have:=ca.lt;omega
    refine ρ ?_;refine drN (λk=>w5.heap.size<=k) 10 [(0,0),(0,1),(0,3),(0,4),(0,5),(0,6),(0,7),(0,8),(0,9),(0,10),(1,2),(1,11),(0,12),(1,13),(1,14),(0,15)] kr ?_;refine ρn ?_;refine nld (Jr (i2.at (i:=2) rfl) hf) ?_;refine ρn ?_;refine nix v (Rd.ext i1 ee) om ?_;refine ρn ?_;refine nld (λw' hg=>Gf (ax.trans (hg.old (aa.trans a6) λk G=>G)) (RdB.cell hD (show v<ds.length by omega))) ?_;refine ρn ?_;refine nop ?_;refine cl (Ye ((bm.ext a8).ext a6) (Xx w5.heap.size (.slice LA O.length lc)) λk G=>?_) ?_
    .rcases G with h'|h'
     .exact nM h' (aa.trans a6).size
     exact nM (aq k h').2 ((b5.trans a8).trans a6).size
    rintro kv w9 ⟨f3,c4⟩;obtain⟨ap,ag,rfl,_⟩:=id f3;refine ρ ?_;refine Qj (GrN.ext c4) ?_;refine ρn ?_;refine nop ?_;refine cl Qpk ?_;rintro u gd ⟨rfl,a4⟩;refine ρ ?_;refine Qj (GrN.ext a4) ?_;rw[<-hd];refine ρn ?_;refine Kp (Qvl _ ap _ ag d none rfl) ?_;refine ρn ?_;refine nop ?_;refine bsl (Qvf _ ap _ ag d none rfl) ?_;intro c1 jc ab iq g2;refine ρ ?_;refine Qj (GrN.ext ab) ?_;refine ρn ?_;refine nop ?_;have ay:Ext w8 c1:=((a6.trans c4).trans a4).trans ab;have f0:BkE d (Xx w5.heap.size (.slice LA O.length lc)) c1 [.slice ap (x.take m).length ag,.bool d,.pointer none] (x.take m,.nil):=⟨_,_,rfl,(f3.ext a4).ext ab,rfl⟩;refine apB (br.ext ay) g2 f0 om (aa.trans ay).size ?_;intro e5 bz fr aj;refine ρ ?_;refine Qj (GrN.by aj λg eg=>(aq g eg).1) ?_;refine ρn ?_;refine ρ ?_;refine Jf ((O,.slice ap (x.take m).length ag,none,.nil),e5) sB ⟨?_,?_,fr,?_,gq,by simp[Tr.sum],by simp[Tr.sz],b6⟩
    .exact Ql (aa.trans ay) aj λg eg=>(aq g eg).1
    .exact(GrN.ext (a8.trans ay)).trans (GrN.by aj λg eg=>⟨.inr eg,(aq g eg).1⟩)
    rw[c5,Jcg,<-ae];exact Qfv h0 (by rw[List.getLast?_map];simpa [Option.map_map] using ew)
   have hl:(O.getLast?.map (·.2.1))=some (x.take m):=Classical.byContradiction λh'=>by rw[fe.2 h']at h;cases h
   have dg:O≠[]:=λe=>by rw[e]at hl;cases hl
   obtain⟨D,z,ez,e0,_⟩:=Jcj dg;rw[e0]at hl;have e9:z.2.1=x.take m:=by simpa using hl
   have ah:z∈O:=by rw[ez];simp
   obtain⟨kv,zq,b7,c2,b8⟩:=br.el z ah;obtain⟨zp,rfl⟩:=b8.ptr;obtain⟨zc,zk,zt⟩:=z;simp only at b7 e9;subst b7;subst e9;have fh:=b6 _ ah;refine ρ ?_;refine Jf ((D,kv,zp,zt),.slice LA O.length lc) sB ⟨cj.trans a8,GrN.ext a8,by rw[<-ez];exact br,?_,?_,fh.1,fh.2,λq hq=>b6 q (by rw[ez];simp[hq])⟩
   .rw[c5,Jcg,<-ae,ez,List.map_append];exact Qfw h0
   have:O.length=D.length+1:=by rw[ez];simp
   simp only;omega
  rintro⟨⟨D,kv,q,t⟩,e5⟩ w9 ⟨be,f8,am,f7,h7,gl,gk,f5⟩;simp only at am f7 h7 gl gk f5;obtain⟨LB,lb,rfl,h5,b1⟩:=am.form;have af:(D++[([kv,.bool d,.pointer q],(x.take m,t))]).length=D.length+1:=by simp
  rw[af]at h5 b1 ⊢;have b2:=am.own;rw[af]at b2;refine Qu 3 D.length (Rd.own b2) om ?_;refine ρ ?_;have a2:Ext w9 w9.drew:=(Ext.refl w9).drew;have bd:=be.trans a2;have ir:=am.ext a2;have dq:=Jk b2 a2;have gh:RowV w9.drew (.slice XA x.length xc) x:=by
   have:=(az _ (getD_mem' z0 ps li)).ext bd;rw[<-c3,g3]at this;exact this
  obtain⟨jd,iu,i6,_,_,cd⟩:=id gh;injection i6 with exx1 _ exx2
  subst exx1;subst exx2;have fd:BkE d (Xx w5.heap.size (.slice LB (D.length+1) lb)) w9 [kv,.bool d,.pointer q] (x.take m,t):=by
   have:=am.el ([kv,.bool d,.pointer q],(x.take m,t)) (by simp);rw[af]at this;exact this
  obtain⟨iy,q',ga,f0,ep⟩:=id fd;simp only[List.cons.injEq,and_true,true_and]at ga;obtain⟨g9,g8⟩:=ga;subst g9;subst g8;have di:∀ j u,([.bool d,.pointer q]:List Value)[j]?=some u->w9.drew.cell? (((adr LB (D.length*3)).add 1).add j)=some u:=λj u hu=>by
   have j7:j<2:=(List.getElem?_eq_some_iff.1 hu).1;have Z:(Qm (D++[([kv,.bool d,.pointer q],(x.take m,t))]))[D.length*3+(1+j)]?=some u:=by
    rw[Iu (p:=([kv,.bool d,.pointer q],(x.take m,t))) (λp hp=>(am.el p hp).len) (by simp) om,Nat.add_comm 1 j];exact hu
   have:=(Rd.own dq).cell Z;rw[Xh,Xh,Nat.add_assoc];exact this
  have em:NatV w9.drew (.slice WA (Jq (wt x)).length wc) (wt x):=by
   have Z:NatX (λk=>Xx w5.heap.size (.slice LA O.length lc) k/\w5.heap.size<=k) w7 (.slice WA (Jq (wt x)).length wc) (wt x):=fb.x db λk G=>by
    rcases G.1 with h'|h'
    .have:=J.size;omega
    exact(aq k h').2
   exact(Z.gr f8).1.ext a2
  have bg:Xl (x.getD m V0)=true:=hval x ea;have cn:Nb (t.sum+wt x):=Nb.big (k:=i+1) fl he om (by have:=ek x;rw[Nat.succ_mul];omega);have e6:t.sz+1<=1000000:=om
  have bl:∀ k,Xx w5.heap.size (.slice LB (D.length+1) lb) k->k<w9.heap.size:=λk G=>by
   rcases G with h'|h'
   .exact nM h' be.size
   exact(b1 k h').2
  refine drH (λi=>Nat.ble 16 i) ?_;refine Zo (fuel':=7) 8 [(0,0),(0,1),(0,2),(0,3),(0,4),(0,5),(0,6),(0,7),(0,8),(0,9),(0,10)] #[true,true,true,true,true,true,true,true,true,true,true,false,false,false,false,false,false,false] kr kr rfl ?_;refine Qz (cs:=[.bool d,.pointer q]) di ?_;refine Uf 3 m cd om ?_;refine Qz (cs:=(x.getD m V0).cells) (λj u hu=>RdR.cell cd om hu) ?_;refine ρd ?_;refine Xb ?_;refine Jvb 2 (lst 18 16) (fun (y:Nat×Option Addr)=>[(12,.pointer (some ⟨y.1,0,none⟩)),(100,.agg #[.bool d,.pointer y.2]),(101,.int .i64 0),(0,.pointer (some ⟨b,0,none⟩)),(1,.int .i64 (v:Int)),(5,vl),(6,.slice LB (D.length+1) lb),(11,.pointer (some (adr LB (D.length*3)))),(34,.slice GA ps.length gc),(35,.int .i64 (ps.length:Int)),(36,.int .i64 (i:Int))])
   (λy W=>Ext w9.drew W/\Blk W y.1 76 [.bool false,.pointer none]/\w9.drew.heap.size<=y.1/\TrV (λk=>Xx w5.heap.size (.slice LB (D.length+1) lb) k∨k=y.1) W (Tr.put d (x.getD m V0) (wt x) t) (.pointer y.2)) ?_ ?_
  .rintro⟨e4,p2⟩ W ⟨ed,g0,ff,fk⟩;simp only at g0 ff fk;refine Zo (fuel':=0) 8 [(2,16),(2,17)] (lst 18 18) kr kr rfl ?_;refine Qq ?_;refine stW g0 ?_;intro W2 fz cq ib;refine Jd (Qa ?_);refine Qq ?_;refine ρ ?_;refine Qa ?_;refine Ue (Xb ?_);refine Ud kr ?_;refine ρ ?_;have d8:Ext w5 W:=bd.trans ed;have cg:Ext w9 W:=a2.trans ed;have eh:w9.heap.size<=e4:=nL a2.size ff;have au:GrN (λk=>k=e4) W W2:=GrN.by cq λk G=>by injection G with G;exact G.symm
   have fq:W2.ownsRow w5.heap.size 78 3 (.slice LB (D.length+1) lb) (D.length+1) (Qm (D++[([kv,.bool d,.pointer q],(x.take m,t))])):=Ja (Jk b2 cg) au λg eg e=>by have:=(b1 g eg).2;omega
   refine Qk fz ?_;refine ρ ?_;refine Go.Wk.kv 108 (congrArg (λp=>Value.pointer (some p)) (Xh LB (D.length*3) 1)) ?_;refine stoG (q:=D.length*3+1) (cs:=[.bool d,.pointer p2]) fq (by simp;omega) (by simp) ?_ Qns;intro W3 d0 cp;have dk:∀ p∈D,p.1.length=3:=λp hp=>(am.el p (by simp[hp])).len;have i9:=Xjg dk kv (.bool d) (.pointer q) (.bool d) (.pointer p2) (x.take m,t) (x.take m,Tr.put d (x.getD m V0) (wt x) t);rw[show D.length*3+1+([Value.bool d,.pointer p2]:List Value).length=D.length*3+1+2 from rfl,i9]at d0;have d7:Ext w5 W2:=Ql d8 cq λk G=>by injection G with G;have:=be.size;omega
   have d6:Ext w5 W3:=Ql d7 cp λk G=>(b1 k G).1;have cr:GrN (λk=>Xx w5.heap.size (.slice LB (D.length+1) lb) k) W2 W3:=GrN.by cp λk G=>.inr G
   have cx:∀ p:List Value×BkT,BkE d (Xx w5.heap.size (.slice LB (D.length+1) lb)) w9 p.1 p.2->BkE d (Xx w5.heap.size (.slice LB (D.length+1) lb)) W3 p.1 p.2:=λp hp=>by
    have Z:BkE d (λk=>Xx w5.heap.size (.slice LB (D.length+1) lb) k∨k=e4) w9 p.1 p.2:=hp.old λk G=>G.imp id λe=>by rw[e];exact eh
    exact(((Z.ext cg).gr (au.mono λk _ G=>.inr G)).old λk G=>.inl (.inl G)).gr cr
   refine ρ ?_;refine Jl (i+1) (.slice LB (D.length+1) lb) sO ⟨li,d6,D++[([kv,.bool d,.pointer p2],(x.take m,Tr.put d (x.getD m V0) (wt x) t))],⟨?_,λp hp=>?_⟩,?_,by simp;omega,λp hp=>?_⟩ om
   .have:(D++[([kv,Value.bool d,.pointer p2],(x.take m,Tr.put d (x.getD m V0) (wt x) t))]).length=D.length+1:=by simp
    rw[this];exact d0
   .rcases List.mem_append.1 hp with Z|Z
    .have:=am.el p (by simp[Z]);rw[af]at this;exact cx p this
    rw[List.mem_singleton.1 Z];obtain⟨iw,q3,e3,f4,_⟩:=cx ([kv,.bool d,.pointer q],(x.take m,t)) fd;simp only[List.cons.injEq,and_true,true_and]at e3;rw[<-e3.1]at f4;exact⟨kv,.pointer p2,rfl,f4,((fk.gr (au.mono λk _ G=>.inr G)).old λk G=>.inl (.inl G)).gr cr⟩
   .rw[f7];simp
   rcases List.mem_append.1 hp with Z|Z
   .have:=f5 p Z;rw[Nat.succ_mul];omega
   rw[List.mem_singleton.1 Z];have h2:=Jwg d (x.getD m V0) (wt x) t;have h3:=Tr.put_sz d (x.getD m V0) (wt x) t;have h4:=ek x;simp only;rw[Nat.succ_mul];omega
  intro rest;refine htwo 11 15 kr rfl rfl rfl ?_ ?_
  .refine clR (Jrq (ep.ext a2) bg em (λk G=>nM (bl k G) a2.size) h0 cn e6) ?_;rintro u W ⟨q2,rfl,bi,hy⟩;obtain⟨p2,rfl⟩:=bi.ptr;refine Jd (Il hy ?_);refine Zo (fuel':=4) 8 [(0,12),(0,13)] (lst 18 14) kr kr rfl ?_;refine ρd ?_;refine Xb ?_;refine Ub (fuel':=3) 14 kr kr rfl rfl ?_;refine ρp ?_;refine ρd ?_;refine Xb ?_;refine Zo (fuel':=2) 8 [(1,15)] (lst 18 16) kr kr rfl ?_;refine dalc' (cs:=[.bool false,.pointer none]) Vn ?_;intro W2 bw b4 ak b3;refine Ue (Xb ?_);exact rest (bw,p2) _ _ ⟨hy.trans b4,b3,Nat.le_trans hy.size ak,(bi.old λk G=>G.imp id λe=>by rw[e];exact ak).ext b4⟩ sB
  refine Jv Vn ?_;intro W bw hy ak b3;refine Jd (Il hy ?_);refine Zo (fuel':=3) 8 [(1,11),(0,12),(0,13)] #[true,true,true,true,true,true,true,true,true,true,true,true,true,true,false,true,false,false] kr kr rfl ?_;refine ρd ?_;have hr:∀ k,(Xx w5.heap.size (.slice LB (D.length+1) lb) k∨k=bw)->k<W.heap.size:=λk G=>by
   rcases G with h'|h'
   .exact nM (bl k h') (a2.trans hy).size
   rw[h'];exact b3.lt
  refine dcl (Jrq (N:=λk=>Xx w5.heap.size (.slice LB (D.length+1) lb) k∨k=bw) (((ep.ext a2).old λk G=>G.imp id λe=>by rw[e];exact ak).ext hy) bg (em.ext hy) hr h0 cn e6) ?_;rintro u W2 ⟨q2,rfl,bi,b4⟩;obtain⟨p2,rfl⟩:=bi.ptr;refine⟨b4,?_⟩;refine ρd ?_;refine Xb ?_;refine Ub (fuel':=2) 14 kr kr rfl rfl ?_;refine ρp ?_;refine ρd ?_;refine Xb ?_;refine hlist (listed':=lst 18 16) kr ?_;exact rest (bw,p2) _ _ ⟨hy.trans b4,b3.ext b4,ak,bi⟩ sB
 have h9:i=ps.length:=by have:=oF h;omega
 clear h;rw[h9,<-dh,List.take_length]at ae;have dv:GInv d wt m (R v) (Vs d wt m (R v)):=Jvc hlt λy hy=>by rw[(hF.rows v hv y hy).1,c8];omega
 have b9:=ax.trans J;have io:=(GrN.ext (N:=λk=>k=mb) (a3.trans J));have fu:=du.ext J;have ii:=fu.lt;have i3:=ca.ext J;have hh:=Jk s3 (a3.trans J);have ey:∀ g,(Value.slice LA O.length lc).ownBlock=some g->¬ g=mb:=λg eg e=>by have:=(aq g eg).1;have:=du.lt;omega
 have hb:¬ b=mb:=λe=>by have:=hB.lt;omega
 have dt:=du.lt;have i5:∀ k,(AR k∨k=mb)->k<w6.heap.size:=by
  rintro k (h'|h')
  .have:=hARl k h';have:=(bn.size);have:=J.size;omega
  omega
 refine ρ ?_;refine Xn (fun (j:Nat) (mc:Nat) (fm:Lit->Option Value)=>[(0,.pointer (some ⟨b,0,none⟩)),(1,.int .i64 (v:Int)),(6,.slice LA O.length lc),(110,.slice LA O.length lc),(111,.int .i64 (O.length:Int)),(112,.int .i64 (j:Int))])
  (λj mc fm w'=>j<=O.length/\GrN (λk=>k=mb) w6 w'/\MapS prog 9 w' mb mc fm/\mc<=j/\∀ k:Row,(fm (.string (idn k))=none/\Gk ((O.map (·.2)).take j) k=0)∨∃ y,fm (.string (idn k))=some y/\0<Gk ((O.map (·.2)).take j) k/\NatX (λk=>AR k∨k=mb) w' y (Gk ((O.map (·.2)).take j) k)) (λj _ _=>O.length-j) 0 0 (λ_=>none) sB
  ⟨Nat.zero_le _,GrN.refl _ _,fu,Nat.le_refl _,λk=>.inl ⟨rfl,rfl⟩⟩ ?_
 rintro j mc fm w7 ⟨hj,a1,ft,j6,dm⟩;have c9:=Jc i3 a1 hb;have an:=Ja ao.own a1 ey;have fo:=Ja hh a1 λg eg e=>by have:=(d3 g eg).2;omega
 have ce:Ext wF w7:=a1.old b9 λk G=>by rw[G];exact gy
 refine ciR (λh=>?_) (λh=>?_)
 .have lj:j<O.length:=by have:=oT h;omega
  clear h;obtain⟨z,hz⟩:∃ z,z=O[j]:=⟨_,rfl⟩;have ah:z∈O:=by rw[hz];exact List.getElem_mem lj
  have e8:z.2∈Vs d wt m (R v):=by rw[<-ae];exact List.mem_map_of_mem ah
  have fc:=(ao.el z ah).gr (a1.mono λk _ G=>.inl (by rw[G];exact dt));obtain⟨kv,zq,b7,c2,b8⟩:=id fc;obtain⟨zp,rfl⟩:=b8.ptr;obtain⟨ap,ag,rfl,im,il,f2,_⟩:=id c2;have a9:FitR z.2.1:=by
   obtain⟨y,hy,e1,_⟩:=entL_ne.1 (dv.con z.2 e8).2;have:=(hF.rows v hv y hy).2;rw[<-e1];exact⟨by have:=this.1;rw[List.length_take];omega,λu hu=>this.2 u (List.mem_of_mem_take hu)⟩
  have dn:∀ i u,([.slice ap z.2.1.length ag,.bool d,.pointer zp]:List Value)[i]?=some u->w7.cell? ((adr LA (j*3)).add i)=some u:=λi u hu=>by
   have h8:i<3:=(List.getElem?_eq_some_iff.1 hu).1;rw[Xh];refine(Rd.own an).cell ?_;rw[Iu (p:=z) (λp hp=>(ao.el p hp).len) (by rw[hz];exact gE lj) h8,b7];exact hu
  refine Qu 3 j (Rd.own an) lj ?_;refine Jt (cs:=[.slice ap z.2.1.length ag,.bool d,.pointer zp]) dn ?_;refine Jv Jdj ?_;intro w8 jb d5 fg g1;refine Qw (cs':=[.slice ap z.2.1.length ag,.bool d,.pointer zp]) g1 ?_ (Jbm rfl);intro w9 dx j9 c4;have ei:Ext w7 w9:=c4 w7 d5 fg;have ec:Ext w9 w9.drew:=(Ext.refl w9).drew;have a7:=ei.trans ec;refine ρ ?_;refine drN (λ_=>False) 10 [(0,0),(0,1),(0,2),(0,3),(0,4),(0,5),(0,6),(0,7),(0,8),(0,10),(0,11),(1,9),(1,12),(2,13)] kr ?_;have cz:=Rd.own (Jk fo a7);have bs:=dx.ext ec;refine ρn ?_;refine nld (Jr ((c9.ext a7).at (i:=8) rfl) (λe=>e)) ?_;refine ρn ?_;refine nix v cz hv ?_;refine ρn ?_;refine nld (Jr (cz.cell (show(ta.set v (.map (some mb)))[v]?=some (.map (some mb)) by rw[List.getElem?_set_self om])) (λe=>e)) ?_;refine ρn ?_;refine nld (Jr (bs.at (i:=0) rfl) (λe=>e)) ?_;refine ρn ?_;refine Xs (cs:=[.bool d,.pointer zp]) (λw' hg j u hu=>Jr (bs.sub (i:=1) (j:=j) (by rw[Nat.add_comm];exact hu)) (λe=>e) w' hg) ?_
  refine ρn ?_;refine nop ?_;refine cl (Jzt (r:=z.2.1) (hF.tb.ext (ce.trans a7)) (f2.ext a7) (λu hu=>(a9.2 u hu).1) (by have:=a9.len;omega) (by have:=a9.1;omega)) ?_;rintro un gd ⟨rfl,a4⟩;refine ρ ?_;refine Qj (GrN.ext a4) ?_;refine ρn ?_;refine nop ?_;refine cl (Jdw ((b8.ext a7).ext a4) (Nb.big (k:=i) fl he om (b6 z ah).1)) ?_;rintro uy c1 ⟨cc,ha,ab⟩;obtain⟨YA,yc,rfl,_⟩:=id cc;have ch:=(a7.trans a4).trans ab;refine ρ ?_;refine Qj (GrN.ext ab) ?_;refine ρn ?_;refine Xm ?_;refine mup KS (ft.ext ch) (by unfold maxLen;omega) (Gu a9) ?_;intro bz fx aj;have bq:GrN (λk=>k=mb) c1 bz:=GrN.by aj λk G=>by injection G with G;exact G.symm
  have bp:GrN (λk=>k=mb) w7 bz:=(GrN.ext ch).trans bq;have gg:NatX (λk=>AR k∨k=mb) bz (.slice YA (Jq z.2.2.sum).length yc) z.2.2.sum :=
   (ha.x cc λk G=>nM (i5 k G) (nL a1.size (a7.trans a4).size)).gr (bq.mono λk _ G=>.inr G)
  have g5:(O.map (·.2)).take (j+1)=(O.map (·.2)).take j++[z.2]:=by
   rw[List.take_succ_eq_append_getElem (by rw[List.length_map];exact lj),List.getElem_map,hz]
  have gu:z.2.1 ∉ ((O.map (·.2)).take j).map (·.1):=by
   have Z:=dv.lt;rw[<-ae,<-List.take_append_drop (j+1) (O.map (·.2)),g5,List.map_append,List.map_append]at Z
   intro hm;have h2:=(List.pairwise_append.1 (List.pairwise_append.1 Z).1).2.2 _ hm z.2.1 (by simp);rw[Ya]at h2;omega
  refine ρ ?_;refine Qt (j+1) (mc+1) (upL fm (.string (idn z.2.1)) (some (.slice YA (Jq z.2.2.sum).length yc))) sO ⟨lj,a1.trans bp,fx,om,λk=>?_⟩ om;rw[g5,Qdx _ _ _ gu];by_cases e:z.2.1=k
  .rw[if_pos e,<-e,Kw (KS.key (Gu a9))];exact .inr ⟨_,rfl,Qdv dv e8,gg⟩
  rw[if_neg e,Ul (λe'=>e (Jcf (by injection e'.symm)))];rcases dm k with Z|⟨y,Z,h2,h3⟩
  .exact .inl Z
  exact .inr ⟨y,Z,h2,h3.gr (bp.mono λk _ G=>.inr G)⟩
 have h6:j=O.length:=by have:=oF h;omega
 clear h;have dl:(O.map (·.2)).take j=Vs d wt m (R v):=by rw[ae,h6,List.take_of_length_le];rw[<-ae,List.length_map];exact nR _
 rw[dl]at dm;have ac:=Ja (Jk fy (a3.trans J)) a1 λg eg e=>by have:=(e7 g eg).2;omega
 have fi:=Ja (Jk cy (a3.trans J)) a1 λg eg e=>by have:=(ge g eg).2;omega
 obtain⟨r1,r2,r3,r4,r5⟩:=Zt ac (q:=v) om (.slice LA O.length lc);have ip:ba.length=f:=by have:=hBa.1;omega
 refine ldR (c9.at (i:=9) rfl) ?_;refine ixR v (Rd.own ac) hvf ?_;refine Xq (r1.trans (show ba[v]?=some (ba.getD v (.slice none 0 0)) by simp[List.getD,List.getElem?_eq_getElem (show v<ba.length by omega)])) r2 ?_;refine ρ ?_;obtain⟨w8,en⟩:∃ w8,w8=w7.setCell (adr KA v) (.slice LA O.length lc):=⟨_,rfl⟩;rw[<-en]at r3 r5 ⊢;clear en;have f6:GrN AR w w7:=(((bn.trans (GrN.ext J)).mono λk _ G=>(.inl G:AR k∨k=mb)).trans (a1.mono λk _ G=>.inr G)).mono λk G h=>h.elim id λe=>by omega
 have bo:GrN AR w7 w8:=GrN.by r5 λk G=>hAR k (.inr (.inr G))
 have f9:GrN (λk=>AR k∨k=mb) w6 w8:=(a1.mono λk _ G=>.inr G).trans (bo.mono λk _ G=>.inl G);have br:=Zl an ac r5 rfl;have d1:¬ AR mb:=by
  intro h';have:=hARl mb h';omega
 have d2:∀ k,(AR k∨k=mb)->k<w5.heap.size:=by
  rintro k (h'|h')
  .have:=hARl k h';have:=(bn.size);omega
  omega
 refine Jj ⟨rfl,.map (some mb),.slice LA O.length lc,⟨Ql ce r5 λk G=>(e7 k G).1,c9.grown r5 (c9.ne_own ac rfl),Zl fi ac r5 rfl,Zl fo ac r5 rfl⟩,r3,f6.trans bo,
  ⟨mb,mc,fm,rfl,om,⟨ft.kept r5 (λe=>d1 (hAR mb (.inr (.inr e.symm)))),d1⟩,λk=>?_⟩,
  ⟨O,LA,lc,ae.symm,rfl,gz,om,Rd.own br,λh0 ad e=>?_,λp hp=>⟨(ao.el p hp).len,?_⟩⟩⟩
 .rcases dm k with Z|⟨y,Z,h2,h3⟩
  .exact .inl Z
  exact .inr ⟨y,Z,h2,(h3.old λk G=>.inl (.inl G)).gr bo⟩
 .intro hA;have:=(aq ad.block (by rw[e];simp[Value.ownBlock])).1;have:=d2 _ (.inl hA);omega
 have Z:BkE d (λk=>AR k∨k=mb) w6 p.1 p.2:=(ao.el p hp).old λk G=>.inl (.inl (d2 k G));exact(Z.gr f9).old λk G=>.inl (.inl G)
end Go.Proofs.YtgobkbeokaaplaaGreatDoor
namespace Go.Proofs.YtgobkbeokaaplaaGreatDoor
open Pl Go.Wk
variable {k n v:Nat}{g h pl:Nat->Nat}
def Qc: Nat->(Nat->Nat)->Nat
 | 0,_=>0
 | n+1,g=>Qc n g+g n
theorem Jfd(e:∀ c,c<n->g c=h c): Qc n g=Qc n h:=by
 induction n with
 | zero=>rfl
 | succ n ih=>rw[Qc,Qc,ih (λc i=>e c om),e n om]
theorem Jsc(n:Nat)(g h:Nat->Nat): Qc n (λc=>g c+h c)=Qc n g+Qc n h:=by
 induction n with
 | zero=>rfl
 | succ n ih=>rw[Qc,Qc,Qc,ih];omega
theorem Jrz(e:∀ c,c<n->g c=0): Qc n g=0:=by
 induction n with
 | zero=>rfl
 | succ n ih=>rw[Qc,ih (λc i=>e c om),e n om]
theorem Qfm(g:Nat->Nat)(hk:k<n): g k<=Qc n g:=by
 induction n with
 | zero=>omega
 | succ n ih=>
  grind [Qc]
theorem Qfl(x:Nat)(hv:v<n): Qc n (λc=>if c=v then x else 0)=x:=by
 induction n with
 | zero=>omega
 | succ n ih=>
  grind [Qc,Jrz]
theorem pw2(a b s t:Nat)(h:a*s<=b*t): (2^a)^s<=(2^b)^t:=by
 rw[<-Nat.pow_mul,<-Nat.pow_mul];exact Nat.pow_le_pow_right (by decide) h
theorem Jnw{T T':Nat->Row->Nat}{x:Row}: ∀ {l:List (Nat×List Nat)},(∀ p∈l,T p.1=T' p.1)->wtL T x l=wtL T' x l
 | [],_=>rfl
 | p::l,h=>by rw[wtL,wtL,h p List.mem_cons_self,Jnw λq hq=>h q (List.mem_cons_of_mem _ hq)]
section
variable (n f:Nat) (kf:Nat->Nat) (pf:Nat->Int) (R:Nat->List Row) (ds:List Bool)
def lastC(v:Nat): Nat:=(bk (kf v ||| 2^v) 32).length-1
noncomputable def Kb(T:Nat->Row->Nat)(v:Nat): Row->Nat :=
 if v<n then(if v<f then Gk (Vs (ds.getD v false) (λx=>wtL T x (chK kf pf v n)) (lastC kf v) (R v)) else Un (R v) (Za kf v) λx=>wtL T x (chK kf pf v n)) elseλ_=>0
noncomputable def TF: Nat->Nat->Row->Nat
 | 0=>λ_ _=>0
 | s+1=>λv=>Kb n f kf pf R ds (TF s) v
noncomputable def TV(pl:Nat->Nat)(v:Nat): Row->Nat:=TF n f kf pf R ds (pl v+1) v
variable {n f:Nat} {kf:Nat->Nat} {pf:Nat->Int} {R:Nat->List Row} {ds:List Bool}
theorem Jsd{T T':Nat->Row->Nat}(h:∀ c,c<n->pf c=(v:Int)->T c=T' c): Kb n f kf pf R ds T v=Kb n f kf pf R ds T' v:=by grind [wtL,chK,kf,Jnw,Jqg,Kb]
def ChF(n:Nat)(pf:Nat->Int)(pl:Nat->Nat): Prop:=∀ c v:Nat,c<n->pf c=(v:Int)->v<n/\pl c<pl v
theorem Qyx{pl:Nat->Nat}(hch:ChF n pf pl): ∀(s s' v:Nat),v<n->pl v<s->pl v<s'->TF n f kf pf R ds s v=TF n f kf pf R ds s' v
 | 0,_,_,_,h,_=>by omega
 | s+1,0,_,_,_,h=>by omega
 | s+1,s'+1,v,hv,h1,h2=>Jsd λc hc hp=>by
  have:=(hch c v hc hp).2;exact Qyx hch s s' c hc om om
theorem Qyw(hch:ChF n pf pl)(hv:v<n): TV n f kf pf R ds pl v=Kb n f kf pf R ds (TV n f kf pf R ds pl) v :=
 Jsd λc i hp=>by
  have:=(hch c v i hp).2;exact Qyx hch (pl v) (pl c+1) c i om om
theorem Qyt(hv:¬ v<n)(k:Row): TV n f kf pf R ds pl v k=0:=by
 show Kb n f kf pf R ds _ v k=0;grind [Kb]
theorem Jdb(hch:ChF n pf pl)(hfn:f<=n)(hv:v<f): TV n f kf pf R ds pl v=Gk (Vs (ds.getD v false) (λx=>wtL (TV n f kf pf R ds pl) x (chK kf pf v n)) (lastC kf v) (R v)):=by grind [Qyw,Kb]
theorem Jyb(hch:ChF n pf pl)(hv:v<n)(hf:f<=v): TV n f kf pf R ds pl v=Un (R v) (Za kf v) λx=>wtL (TV n f kf pf R ds pl) x (chK kf pf v n):=by grind [Qyw,Kb]
section
variable (n) (pf)
def stF: Nat->Nat->Nat
 | 0=>λ_=>0
 | s+1=>λv=>1+Qc n λc=>if pf c=(v:Int) then stF s c else 0
def stV(pl:Nat->Nat)(v:Nat): Nat:=stF n pf (pl v+1) v
end
theorem Jsh{pl:Nat->Nat}(hch:ChF n pf pl): ∀(s s' v:Nat),v<n->pl v<s->pl v<s'->stF n pf s v=stF n pf s' v
 | 0,_,_,_,h,_=>by omega
 | s+1,0,_,_,_,h=>by omega
 | s+1,s'+1,v,hv,h1,h2=>by
  show 1+_=1+_;congr 1
  refine Jfd λc hc=>?_;split
  .rename_i hp;have:=(hch c v hc hp).2;exact Jsh hch s s' c hc om om
  rfl
theorem Jsg(hch:ChF n pf pl)(hv:v<n): stV n pf pl v=1+Qc n λc=>if pf c=(v:Int) then stV n pf pl c else 0:=by
 show 1+_=1+_;congr 1
 refine Jfd λc i=>?_;split
 .rename_i hp;have:=(hch c v i hp).2;exact Jsh hch (pl v) (pl c+1) c i om om
 rfl
theorem Jsf{pl:Nat->Nat}(hch:ChF n pf pl)(hpf:∀ c,c<n->pf c = -1∨∃ p:Nat,pf c=p/\p<n)(hin:∀ u v,u<n->v<n->pl u=pl v->u=v)(hat:∀ i,i<n->∃ v,v<n/\pl v=i):
  ∀ i,i<=n->Qc n (λc=>if pl c<i/\(pf c = -1∨i<=pl (pf c).toNat) then stV n pf pl c else 0)=i
 | 0,_=>Jrz λc _=>if_neg om
 | i+1,hi=>by
  have ih:=Jsf hch hpf hin hat i om;obtain⟨v,hv,hpv⟩:=hat i om;have e1:Qc n (λc=>(if pl c<i+1/\(pf c = -1∨i+1<=pl (pf c).toNat) then stV n pf pl c else 0)+if pf c=(v:Int) then stV n pf pl c else 0)=Qc n (λc=>(if pl c<i/\(pf c = -1∨i<=pl (pf c).toNat) then stV n pf pl c else 0)+if c=v then stV n pf pl v else 0):=by
   refine Jfd λc hc=>?_;by_cases ec:c=v
   .subst ec;have hne:pf c≠(c:Int):=λe=>by have:=(hch c c hc e).2;omega
    rw[if_neg hne,if_pos rfl,if_neg (show¬ (pl c<i/\_) by omega)];rw[if_pos]
    .omega
    refine⟨om,?_⟩;rcases hpf c hc with h|⟨p,h,_⟩
    .exact .inl h
    have:=(hch c p hc h).2;rw[h];right;simp only[Int.toNat_natCast];omega
   rw[if_neg ec];have hnp:pl c≠i:=by grind
   by_cases ep:pf c=(v:Int)
   .have h1:=(hch c v hc ep).2;grind [Int.toNat_natCast]
   repeat grind
  rw[Jsc,Jsc,Qfl _ hv,ih,Jsg hch hv]at e1;omega
theorem Qgb(hch:ChF n pf pl)(hpf:∀ c,c<n->pf c = -1∨∃ p:Nat,pf c=p/\p<n)(hin:∀ u v,u<n->v<n->pl u=pl v->u=v)(hat:∀ i,i<n->∃ v,v<n/\pl v=i)(hpl:∀ v,v<n->pl v<n)(hv:v<n): stV n pf pl v<=n:=by
 have D:=Jsf hch hpf hin hat (pl v+1) (hpl v hv);have j:=Qfm (n:=n) (λc=>if pl c<pl v+1/\(pf c = -1∨pl v+1<=pl (pf c).toNat) then stV n pf pl c else 0) hv;rw[D]at j;have G:pl v<pl v+1/\(pf v = -1∨pl v+1<=pl (pf v).toNat):=by
  refine⟨om,?_⟩;rcases hpf v hv with h|⟨p,h,_⟩
  .exact .inl h
  have:=(hch v p hv h).2;rw[h];right;simp only[Int.toNat_natCast];omega
 grind
theorem Jnv{T:Nat->Row->Nat}{x:Row}{st:Nat->Nat}{kf:Nat->Nat}{pf:Nat->Int}{v n:Nat}(hT:∀ c,c<n->pf c=(v:Int)->∀ k,T c k<=65536^st c): ∀ k,k<=n->wtL T x (chK kf pf v k)<=65536^Qc k (λc=>if pf c=(v:Int) then st c else 0)
 | 0,_=>nR _
 | k+1,hk=>by
  have ih:=Jnv (T:=T) (x:=x) (kf:=kf) hT k om;rw[Jcr,Jkq,Qc,Nat.pow_add];refine Nat.mul_le_mul ih ?_;split
  .rename_i hp;rw[wtL,wtL,Nat.mul_one];exact hT k om hp _
  exact nR _
theorem Jrs{wt:Row->Nat}{m S:Nat}(h:∀ x,wt x<=S)(k:Row): ∀ rs:List Row,tot (Xz wt m rs k)<=rs.length*S
 | []=>by simp[Xz,tot]
 | x::rs=>by
  have ih:=Jrs (m:=m) h k rs;have e:tot (Xz wt m (x::rs) k)<=wt x+tot (Xz wt m rs k):=by
   unfold Xz;rw[List.filter_cons];split
   .rw[List.map_cons,tot];exact nR _
   omega
  grind [List.length_cons,Nat.succ_mul]
theorem Qyv{pl:Nat->Nat}(hch:ChF n pf pl)(hfn:f<=n)(hlt:∀ v,v<f->Lt [] (R v))(hl:∀ v,v<f->∀ y∈R v,y.length=lastC kf v+1)(hR:∀ v,v<n->(R v).length<=65536):
  ∀(s v:Nat),v<n->pl v<s->∀ k,TV n f kf pf R ds pl v k<=65536^stV n pf pl v
 | 0,_,_,h,_=>by omega
 | s+1,v,hv,hs,k=>by
  have hW:∀ x,wtL (TV n f kf pf R ds pl) x (chK kf pf v n)<=65536^Qc n (λc=>if pf c=(v:Int) then stV n pf pl c else 0):=λx=>
   Jnv (λc hc hp k=>Qyv hch hfn hlt hl hR s c hc (by have:=(hch c v hc hp).2;omega) k) n (nR _)
  rw[Jsg hch hv,Nat.pow_add,Nat.pow_one];by_cases hf:v<f
  .rw[Jdb hch hfn hf,Jdz,(Jvc (hlt v hf) (hl v hf)).entK,Jcp];exact nL (Jrs hW k _) (nO _ (hR v hv))
  rw[Jyb hch hv om];grind [Nat.le_trans,Jtx,Nat.mul_pos,Nat.pow_pos]
theorem Jnn(hch:ChF n pf pl)(c:Nat)(hc:f<=c)(k:Row): TV n f kf pf R ds pl c k<=1:=by
 by_cases h:c<n
 .rw[Jyb hch h hc];exact Jtx
 rw[Qyt h];omega
theorem Xvk(hch:ChF n pf pl)(hfn:f<=n)(hn:n<=32)(hpf:∀ c,c<n->pf c = -1∨∃ p:Nat,pf c=p/\p<n)(hin:∀ u v,u<n->v<n->pl u=pl v->u=v)(hat:∀ i,i<n->∃ v,v<n/\pl v=i)(hpl:∀ v,v<n->pl v<n)(hlt:∀ v,v<f->Lt [] (R v))(hl:∀ v,v<f->∀ y∈R v,y.length=lastC kf v+1)(hR:∀ v,v<n->(R v).length<=65536)(c:Nat)(k:Row): TV n f kf pf R ds pl c k<=4294967296^20:=by
 by_cases h:c<n
 .refine nL (Qyv hch hfn hlt hl hR (pl c+1) c h om k) ?_;have D:=Qgb hch hpf hin hat hpl h;have j:=pw2 16 32 (stV n pf pl c) 20 om;grind
 rw[Qyt h];omega
end
end Go.Proofs.YtgobkbeokaaplaaGreatDoor
