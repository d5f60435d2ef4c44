/- Part 5. -/
import Derived.Test.YtgobkbeokaaplaaGreatDoorR04
import Derived.Lib.ItoaLen
set_option linter.unusedVariables false
set_option maxRecDepth 100000
set_option maxHeartbeats 40000000
namespace Go.Proofs.YtgobkbeokaaplaaGreatDoor
open Go.RowKit Pl Go.Wk Go.Lib
def decV(l:List UInt8): Nat:=l.foldl (λa c=>10*a+(c.toNat-48)) 0
theorem Qvl{k:Nat}(h:k<10): (UInt8.ofNat (48+k)).toNat=48+k:=by
 rw[UInt8.toNat_ofNat'];omega
theorem Xwd(u:Nat): decV (decDigits u)=u:=by
 induction u using Nat.strongRecOn with
 | ind u ih=>
  rw[decDigits];split
  repeat grind [decV,Qvl]
theorem Jms(u:Nat): ∀ c∈decDigits u,48<=c.toNat/\c.toNat<=57:=by
 induction u using Nat.strongRecOn with
 | ind u ih=>
  rw[decDigits];split
  repeat grind [List.mem_singleton.1,Qvl,List.mem_append.1]
theorem Jzm(i:Int): ∀ c∈itoa i,c≠44:=by
 intro c j e;subst e;unfold itoa at j;split at j
 .rcases List.mem_cons.1 j with h|h
  .grind
  have:=Jms _ _ h;grind
 have:=Jms _ _ j;grind
theorem Jmc{i j:Int}(h:itoa i=itoa j): i=j:=by
 have key:∀(a:Nat) (l:List UInt8),decDigits a≠45::l:=λa l e=>by
  have:=Jms a 45 (by grind);grind
 unfold itoa at h;split at h<;>split at h
 repeat grind [decV,List.cons.inj,Xwd]
theorem Jmw{a b x y:List UInt8}(ha:∀ c∈a,c≠44)(hb:∀ c∈b,c≠44)(h:a++44::x=b++44::y): a=b/\x=y:=by
 induction a generalizing b with
 | nil=>cases b with
  | nil=>simpa using h
  | cons c b=>simp only[List.nil_append,List.cons_append,List.cons.injEq]at h;exact absurd h.1.symm (hb c mC)
 | cons d a ih=>cases b with
  | nil=>simp only[List.nil_append,List.cons_append,List.cons.injEq]at h;exact absurd h.1 (ha d mC)
  | cons c b=>
   grind
theorem Jvk(v:V)(r:Row): idn (v::r)=itoa v.kind++44::(itoa v.num++44::(itoa (v.str.size:Int)++44::(v.bytes++idn r))):=by
 simp only[idn,List.flatMap_cons,Jjf,List.append_assoc,List.cons_append,List.nil_append]
theorem Jcz: ∀ {r s:Row},idn r=idn s->r=s
 | [],[],_=>rfl
 | [],v::s,h=>by
  rw[Jvk]at h;have:=congrArg List.length h;simp[idn]at this
 | v::r,[],h=>by
  rw[Jvk]at h;have:=congrArg List.length h;simp[idn]at this
 | v::r,u::s,h=>by
  rw[Jvk,Jvk]at h;obtain⟨h1,h⟩:=Jmw (Jzm _) (Jzm _) h;obtain⟨h2,h⟩:=Jmw (Jzm _) (Jzm _) h;obtain⟨h3,h⟩:=Jmw (Jzm _) (Jzm _) h;have h3:=Jmc h3;rw[Jkv,Jkv]at h3;obtain⟨h4,h5⟩:=List.append_inj h om;have:=Jcz h5;subst this;have e:v=u:=by
   obtain⟨k1,n1,s1⟩:=v;obtain⟨k2,n2,s2⟩:=u;have a1:k1=k2:=Jmc h1;have a2:n1=n2:=Jmc h2;have a3:s1=s2:=by
    apply ByteArray.ext
    exact Array.toList_inj.1 h4
   rw[a1,a2,a3]
  rw[e]
theorem Qwc: ∀ {r:Row},(∀ v∈r,Xs v/\v.bytes.length<=24)->(idn r).length<=r.length*90
 | [],_=>by simp[idn]
 | v::r,h=>by
  have ih:=Qwc (r:=r) λu hu=>h u (List.mem_cons_of_mem _ hu);obtain⟨⟨h1,h2⟩,h3⟩:=h v mC;have a1:=itoa_length_le _ h1.1 h1.2;have a2:=itoa_length_le _ h2.1 h2.2;have a3:=itoa_length_le (v.str.size:Int) om (by rw[Jkv];omega);grind [Jvk,List.length_append,List.length_cons]
open Go.RowKit Pl Go.Wk _root_.Go.Proofs.Tryz
attribute [local irreducible] WC WL QX WD WDB WP WN WG
variable {cs vars:List Nat}{cc d k s:Nat}{C D:Option Addr}{x:Row}{w:World}
theorem Jnl(v:V)(w:World): (Instr.buildSlice 59 1 #[(0,v.val)]).run prog w=.ok (.slice (some ⟨w.heap.size,0,none⟩) 1 1) (w.alloc (.cells v.cells.toArray 147)):=kr
theorem rowC_app'(a b:Row): Jp (a++b)=Jp a++Jp b:=by simp[Jp]
theorem rowC_one''(v:V): Jp [v]=v.cells:=by simp[Jp]
theorem Qrq(h:k<cs.length): pmR (cs.take (k+1)) x=pmR (cs.take k) x++[x.getD (cs.getD k 0) V0]:=by grind [pmR,Qr]
theorem Qqt{vx:Value}(hx:RowV w vx x)(hC:Rd w 1 C cs.length (Jt (nz cs)))(hlt:∀ c∈cs,c<x.length)(hl:cs.length<=1000):
  Ret prog 130 [vx,.slice C cs.length cc] w λu w'=>RowV w' u (pmR cs x)/\Ext w w':=by
 obtain⟨A,c,rfl,ab,aa,hR⟩:=hx;refine enE func130 ntmps130 ?_;refine ρ ?_;refine mk0 EV cs.length om (by unfold maxLen;omega) ?_;intro w0 O a1 a4;refine ρ ?_;refine Jo (fun (k:Nat) (Z:Value)=>[(0,.slice A x.length c),(5,Z),(11,.slice C cs.length cc),(12,.int .i64 (cs.length:Int)),(13,.int .i64 (k:Int))])
  (λk Z w'=>k<=cs.length/\Ext w w'/\Vs w' w.heap.size Z (pmR (cs.take k) x)) (λk _=>cs.length-k) 0 (.slice O 0 cs.length) sB
  ⟨Nat.zero_le _,a1,a4⟩ ?_
 rintro k Z w1 ⟨hk,i,G⟩;refine ciR (λh=>?_) (λh=>?_)
 .have lk:k<cs.length:=by have:=oT h;omega
  clear h;have J:RdR w1 A x:=Rd.ext hR i;have D:=hlt _ (getD_mem' 0 cs lk);refine ixR k (hC.ext i) lk ?_;refine ldR ((hC.ext i).cell (Zb lk)) ?_;refine Qp 3 (cs.getD k 0) J D ?_;refine Jh (cs:=(x.getD (cs.getD k 0) V0).cells) (λj u hu=>RdR.cell J D hu) ?_;refine Qb (Jnl _) ?_;intro w2 b o hb hB;have a2:=Qrq (x:=x) lk;have a9:(pmR (cs.take k) x).length=k:=by rw[Xc,List.length_take];omega
  refine ρ ?_;refine apb (m':=1) (news:=(x.getD (cs.getD k 0) V0).cells) EV (Jk G o) (hB.rd (n:=1) rfl) (V.one _) (by unfold maxLen;omega) om (i.trans o).size ?_;intro v3 w3 a3 a6 a8;refine ρ ?_;refine Jf (k+1) v3 sO ⟨lk,Qa (i.trans o) a6 (Ku (Jk G o)),?_⟩ om;rw[Vs,a2,List.length_append,rowC_app',rowC_one''];exact a3
 have a5:k=cs.length:=by grind
 rw[a5,List.take_length]at G;obtain⟨A3,c3,rfl,a7,_⟩:=Jb G;refine ρ ?_;refine Jj ⟨⟨A3,c3,rfl,a7,by rw[Xc];omega,Rd.own G⟩,i⟩
theorem Qyd(hD:Rd w 1 D vars.length (Jt (nz vars)))(hs:s<4294967296)(hv:∀ v∈vars,v<32)(hl:vars.length<=32):
  Ret prog 126 [.slice D vars.length d,.int .u32 (s:Int)] w λu w'=>Zs w' w.heap.size u (Xw vars s)/\Ext w w':=by
 refine enE func126 ntmps126 ?_;refine ρ ?_;refine Jo (fun (k:Nat) (vc:Value)=>[(1,.int .u32 (s:Int)),(5,vc),(8,.slice D vars.length d),(9,.int .i64 (vars.length:Int)),(10,.int .i64 (k:Int))])
  (λk vc w'=>k<=vars.length/\Ext w w'/\Zs w' w.heap.size vc (Zm vars s k)) (λk _=>vars.length-k) 0 (.slice none 0 0) sB
  ⟨Nat.zero_le _,Ext.refl _,Zd _ _ _ _⟩ ?_
 rintro k vc w1 ⟨hk,j,C⟩;refine ciR (λh=>?_) (λh=>?_)
 .have lk:k<vars.length:=by have:=oT h;omega
  clear h;have a2:(Zm vars s k).length<=k:=by
   have:=List.length_filter_le (λi=>s.testBit (vars.getD i 0)) (List.range k);rw[List.length_range]at this;exact this
  refine ixR k (hD.ext j) lk ?_;refine ldR ((hD.ext j).cell (Zb lk)) ?_;refine ρ ?_;refine Ia (s:=s) (v:=vars.getD k 0) (by grind [getD_mem',lk]) ?_;refine ciR (λh=>?_) (λh=>?_)
  .rw[Gu hs]at h;refine Qb (bs1Int'' _) ?_;intro w2 b o hb hB;refine ρ ?_;refine apI (Jk C o) hB om (j.trans o).size ?_;intro O w3 Z J a1;refine ρ ?_;refine Jf (k+1) O sO ⟨lk,Qa (j.trans o) J (Ku (Jk C o)),?_⟩ om;grind [Iv]
  rw[Gu hs]at h;refine ρ ?_;refine Jf (k+1) vc sO ⟨lk,j,?_⟩ om;grind [Iv]
 have G:k=vars.length:=by grind
 rw[G]at C;refine ρ ?_;exact Jj ⟨C,j⟩
open Go.RowKit Pl Go.Wk
variable {a b l os:List UInt32}{c i k m n x y:Nat}
theorem Jrs(c:UInt32)(h:k<l.length): val (l.set k c)+4294967296^k*(l.getD k 0).toNat=val l+4294967296^k*c.toNat:=by
 induction l generalizing k with
 | nil=>simp at h
 | cons x l ih=>
  cases k with
  | zero=>simp[val];omega
  | succ k=>
   have:=ih (k:=k) (by simpa using h);simp only[List.set_cons_succ,val,List.getD_cons_succ,Nat.pow_succ];grind
structure MulO(a b:List UInt32)(i:Nat)(os:List UInt32): Prop where
 len:os.length=a.length+b.length
 val:val os=val (a.take i)*val b
 zero:∀ k,i+b.length<=k->os.getD k 0=0
structure MulI(a b:List UInt32)(i j c:Nat)(os:List UInt32): Prop where
 len:os.length=a.length+b.length
 small:c<4294967296
 val:val os+4294967296^(i+j)*c=Pl.val (a.take i)*Pl.val b+4294967296^i*(a.getD i 0).toNat*Pl.val (b.take j)
 zero:∀ k,i+b.length<=k->os.getD k 0=0
theorem Xzq(c:UInt32)(h:k≠m): (l.set k c).getD m 0=l.getD m 0:=by grind
theorem Qxp(hx:x<4294967296)(hy:y<4294967296): x*y<=18446744065119617025:=by
 have:=Nat.mul_le_mul (show x<=4294967295 by omega) (show y<=4294967295 by omega);omega
theorem MulO.first: MulO a b 0 (List.replicate (a.length+b.length) 0):=by
 refine⟨by simp,?_,λk _=>?_⟩
 .have:∀ n,Pl.val (List.replicate n (0:UInt32))=0:=λn=>by
   induction n with
   | zero=>rfl
   | succ n ih=>rw[List.replicate_succ];simp[Pl.val,ih]
  rw[this];simp[Pl.val]
 repeat grind
theorem MulO.start(h:MulO a b i os): MulI a b i 0 0 os :=
 ⟨h.len,om,by rw[h.val];simp[Pl.val],h.zero⟩
theorem MulI.step{j s:Nat}(h:MulI a b i j c os)(hi:i<a.length)(hj:j<b.length)(hs:s=c+((a.getD i 0).toNat*(b.getD j 0).toNat+(os.getD (i+j) 0).toNat)):
  MulI a b i (j+1) (s / 4294967296) (os.set (i+j) (UInt32.ofNat s))/\s<18446744073709551616:=by
 obtain⟨h1,h2,h3,h4⟩:=h;have G:(a.getD i 0).toNat<4294967296:=(a.getD i 0).toNat_lt;have D:(b.getD j 0).toNat<4294967296:=(b.getD j 0).toNat_lt;have O:(os.getD (i+j) 0).toNat<4294967296:=(os.getD (i+j) 0).toNat_lt;have hm:=Qxp G D;have o:s<18446744073709551616:=om
 refine⟨⟨by grind,om,?_,λk hk=>by grind⟩,o⟩;have e:=Jrs (UInt32.ofNat s) (show i+j<os.length by omega);rw[UInt32.toNat_ofNat']at e;rw[Jkq];generalize hX:(a.getD i 0).toNat=X at *
 generalize hY:(b.getD j 0).toNat=Y at *
 generalize hZ:(os.getD (i+j) 0).toNat=Z at *
 generalize Pl.val (os.set (i+j) (UInt32.ofNat s))=V' at *
 generalize Pl.val os=V at *
 generalize Pl.val (b.take j)=W at *
 generalize Pl.val (a.take i)*Pl.val b=U at *
 have C:4294967296^(i+(j+1))*(s / 4294967296)=4294967296^(i+j)*(4294967296*(s / 4294967296)):=by grind
 have u:4294967296^i*X*(W+4294967296^j*Y)=4294967296^i*X*W+4294967296^(i+j)*(X*Y):=by grind
 have J:4294967296^(i+j)*(s % 2^32)+4294967296^(i+j)*(4294967296*(s / 4294967296))=4294967296^(i+j)*c+(4294967296^(i+j)*(X*Y)+4294967296^(i+j)*Z):=by
  rw[<-Nat.mul_add,<-Nat.mul_add,<-Nat.mul_add];congr 1
  omega
 rw[C,u];omega
theorem MulI.last(h:MulI a b i b.length c os)(hi:i<a.length): MulO a b (i+1) (os.set (i+b.length) (UInt32.ofNat c)):=by
 obtain⟨D,C,o,j⟩:=h;refine⟨by grind,?_,λk u=>by grind [Xzq]⟩;have e:=Jrs (UInt32.ofNat c) (show i+b.length<os.length by omega);rw[j _ (nR _),UInt32.toNat_ofNat',show c % 2^32=c by omega,show(0:UInt32).toNat=0 from rfl,Nat.mul_zero,Nat.add_zero]at e;rw[e,o,List.take_length,Jkq,Nat.add_mul]
theorem Xjf{z:Nat}(hc:c<4294967296)(hx:x<4294967296)(hy:y<4294967296)(hz:z<4294967296):
  IntKind.u64.wrap ((c:Int)+IntKind.u64.wrap (IntKind.u64.wrap (IntKind.u64.wrap (x:Int)*IntKind.u64.wrap (y:Int))+IntKind.u64.wrap (z:Int)))=((c+(x*y+z):Nat):Int):=by
 have i:=Qxp hx hy;have w:∀ n:Nat,n<18446744073709551616->IntKind.u64.wrap (n:Int)=(n:Int):=λn hn=>by rw[IntKind.wrap_u64];omega
 rw[w x om,w y om,w z om,<-Int.natCast_mul,w _ om,<-Int.natCast_add,w _ om,<-Int.natCast_add,w _ om]
theorem Jcd{v u:Value}{w:World}(hv:NatV w v n)(hu:NatV w u m)(hln:(Jq n).length<=1000)(hlm:(Jq m).length<=1000): Ret Tryz.prog 135 [v,u] w λr w'=>NatV w' r (n*m)/\Fresh w r/\Ext w w':=by
 refine enE Tryz.func135 Tryz.ntmps135 ?_;refine clR (Kl hv) ?_;rintro v' w' ⟨⟨A,rfl,ha⟩,rfl⟩;refine clR (Kl hu) ?_;rintro u' G ⟨⟨B,rfl,hb⟩,rfl⟩;generalize hL:(Jq n).length=L at *
 generalize hM:(Jq m).length=M at *
 refine ρ ?_;refine mkn EN (L+M) om (by unfold maxLen;omega) ?_;intro w1 O ab ah hO;have a7:Vt w1 G.heap.size (.slice O (L+M) (L+M)) (List.replicate (L+M) 0):=by
  have e:(madeCells (Value.int .u32 0).cells ((L+M)*1)).toList=Nc (List.replicate (L+M) 0):=by rw[Nat.mul_one,<-Jpg];exact Gq _ _
  grind
 refine ρ ?_;refine Jo (fun (i:Nat) (o:List UInt32)=>[(0,.slice A L L),(1,.slice B M M),(5,.slice O (L+M) (L+M)),(20,.int .i64 (L:Int)),(21,.int .i64 (i:Int))])
  (λi o w2=>i<=L/\Ext G w2/\MulO (Jq n) (Jq m) i o/\Vt w2 G.heap.size (.slice O (L+M) (L+M)) o) (λi _=>L-i) 0 (List.replicate (L+M) 0) sB
  ⟨Nat.zero_le _,ab,by grind [MulO.first],a7⟩ ?_
 rintro i o w2 ⟨hi,a6,hI,a5⟩;refine ciR (λh=>?_) (λh=>?_)
 .have li:i<L:=by have:=oT h;omega
  clear h;refine ρ ?_;refine Zj (fun (j c:Nat) (o:List UInt32)=>[(0,.slice A L L),(1,.slice B M M),(5,.slice O (L+M) (L+M)),(6,.int .i64 (i:Int)),(7,.int .u64 (c:Int)),(20,.int .i64 (L:Int)),(21,.int .i64 (i:Int)),(25,.int .i64 (M:Int)),(26,.int .i64 (j:Int))])
   (λj c o w3=>j<=M/\Ext G w3/\MulI (Jq n) (Jq m) i j c o/\Vt w3 G.heap.size (.slice O (L+M) (L+M)) o) (λj _ _=>M-j) 0 0 o sB
   ⟨Nat.zero_le _,a6,hI.start,a5⟩ ?_
  clear hI a5;rintro j c o w3 ⟨hj,a1,hI,J⟩;have C:o.length=L+M:=by rw[hI.len,hL,hM]
  refine ciR (λh=>?_) (λh=>?_)
  .have lj:j<M:=by have:=oT h;omega
   clear h;have Z:Ext w3 w3.drew:=(Ext.refl w3).drew;have aa:=ha.ext (a1.trans Z);have a9:=hb.ext (a1.trans Z);have D:=Jk J Z;rw[C]at D;have a4:Rd w3.drew 1 O (L+M) (Nc o):=Rd.own D;refine drR (scq 22 []) ?_;refine Jd i aa li ?_;refine Jz (aa.cell (Va (show i<(Jq n).length by omega))) ?_;refine Jd j a9 lj ?_;refine Jz (a9.cell (Va (show j<(Jq m).length by omega))) ?_;refine Jd (i+j) a4 om ?_;refine Jz (a4.cell (Va (show i+j<o.length by omega))) ?_;refine ρd ?_;have hx:((Jq n).getD i 0).toNat<4294967296:=((Jq n).getD i 0).toNat_lt;have hy:((Jq m).getD j 0).toNat<4294967296:=((Jq m).getD j 0).toNat_lt;have hz:(o.getD (i+j) 0).toNat<4294967296:=(o.getD (i+j) 0).toNat_lt;obtain⟨a3,ag⟩:=hI.step (s:=c+(((Jq n).getD i 0).toNat*((Jq m).getD j 0).toNat+(o.getD (i+j) 0).toNat)) om om rfl;have a8:=Xjf hI.small hx hy hz
   refine ρ ?_;generalize c+(((Jq n).getD i 0).toNat*((Jq m).getD j 0).toNat+(o.getD (i+j) 0).toNat)=s at *
   refine kv 7 (u:=.int .u64 (s:Int)) (congrArg (Value.int .u64) a8) ?_;refine kv 55 (u:=.int .u32 ((UInt32.ofNat s).toNat:Int)) (congrArg (Value.int .u32) ((congrArg IntKind.u32.wrap a8).trans (Ih s))) ?_;obtain⟨s1,s2,s3,s4,s5⟩:=Vc D (q:=i+j) om (.int .u32 ((UInt32.ofNat s).toNat:Int));refine ixR (i+j) a4 om ?_;refine sto (s1.trans (Va (show i+j<o.length by omega))) s2 ?_;refine ρ ?_;refine Uf rfl rfl (by decide) rfl ?_;refine ρ ?_;refine Qe (j+1) (s / 4294967296) (o.set (i+j) (UInt32.ofNat s)) ?_ ⟨lj,(a1.trans Z).setCell s4 _,a3,?_⟩ om
   .rw[Jgk];exact sB
   rw[Vt,List.length_set,C,<-Jyk];exact s3
  have ae:j=M:=by grind
  subst ae;clear h;have ac:MulI (Jq n) (Jq m) i (Jq m).length c o:=by rw[hM];exact hI
  have hl:=ac.last (show i<(Jq n).length by omega);have D:=J;rw[Vt,C]at D;obtain⟨s1,s2,s3,s4,s5⟩:=Vc D (q:=i+j) om (.int .u32 ((UInt32.ofNat c).toNat:Int));refine ixR (i+j) (Rd.own D) om ?_;rw[Ih];refine sto (s1.trans (Va (show i+j<o.length by omega))) s2 ?_;refine ρ ?_;rw[hM]at hl;refine Jf (i+1) (o.set (i+j) (UInt32.ofNat c)) sO ⟨li,a1.setCell s4 _,hl,?_⟩ om;rw[Vt,List.length_set,C,<-Jyk];exact s3
 have af:i=L:=by grind
 have C:o.length=L+M:=by rw[hI.len,hL,hM]
 have a2:=hI.val;rw[af,List.take_of_length_le om,Uq,Uq]at a2;have J:=a5;rw[Vt,C]at J;have hr:=Rd.own J;refine ρ ?_;rw[<-C]at hr ⊢;refine cl (Jks hr (nR _) om) ?_;rintro t w4 ⟨rfl,rfl⟩;have:=Jbc hr om;rw[a2]at this ⊢;refine ρ ?_;exact Jj ⟨this,λad _ _ e=>hO ad (by injection e),a6⟩
open Go.RowKit Pl Go.Wk
variable {l os:List UInt32}{c k n:Nat}
theorem Xqd(h0:n≠0)(h:n<4294967296): Jq n=[UInt32.ofNat n]:=by grind [Jcj,limbs_0]
theorem Xvp{A:Option Addr}{cs:List Value}{w:World}(hr:Rd w 1 A n cs)(h1:∀ u∈cs,u.oneCell'=true)(hb:n*4<=140737488355328):
  Ret Tryz.prog 64 [.slice A n c] w λv w'=>w'.ownsRow w.heap.size 64 1 v n cs/\Ext w w':=by
 refine enE Tryz.func64 Tryz.ntmps64 ?_;refine ρ ?_;refine Kr ?_;refine ciR (λh=>?_) (λh=>?_)
 .have J:A=none:=by simpa using h
  subst J;have hn:n=0:=by
   rcases Nat.eq_zero_or_pos n with h0|h0
   .exact h0
   obtain⟨ad,O,_⟩:=hr.isome h0 om;cases O
  subst hn;have D:cs=[]:=List.eq_nil_of_length_eq_zero (by rw[hr.len]);subst D;refine ρ ?_;exact Jj ⟨Zd _ _ _ _,Ext.refl w⟩
 refine Qb Qbt ?_;intro w1 b i G C;refine ρ ?_;refine apo i EN (C.own (n:=0) G rfl (Nat.zero_le _)) (hr.ext i) h1 (by unfold maxLen;omega) om ?_;intro v2 Z j o _ _;refine ρ ?_;rw[Nat.zero_add,List.nil_append]at j;exact Jj ⟨j,o⟩
theorem Jrt(h:k<l.length): val (l.drop k)=(l.getD k 0).toNat+4294967296*val (l.drop (k+1)):=by grind [List.drop_eq_getElem_cons,val,List.getD,List.getElem?_eq_getElem]
structure DivI(l:List UInt32)(d k r:Nat)(os:List UInt32): Prop where
 len:os.length=l.length
 lt:r<d
 old:∀ j,j<k->os.getD j 0=l.getD j 0
 val:val (l.drop k)=Pl.val (os.drop k)*d+r
theorem DivI.step{d r s:Nat}(h:DivI l d (k+1) r os)(hk:k<l.length)(hd:d<4294967296)(hs:s=r*4294967296+(l.getD k 0).toNat): DivI l d k (s % d) (os.set k (UInt32.ofNat (s / d)))/\s<18446744073709551616:=by
 obtain⟨h1,Z,O,o⟩:=h;have D:(l.getD k 0).toNat<4294967296:=(l.getD k 0).toNat_lt;have i:s<4294967296*d:=by rw[hs];omega
 have G:s / d<4294967296:=Nat.div_lt_of_lt_mul (by grind);refine⟨⟨by grind,Nat.mod_lt _ om,λj J=>by grind,?_⟩,om⟩;rw[Jrt hk,Jrt (l:=os.set k (UInt32.ofNat (s / d))) (k:=k) (by grind),o];have C:(os.set k (UInt32.ofNat (s / d))).getD k 0=UInt32.ofNat (s / d):=by grind
 have u:(os.set k (UInt32.ofNat (s / d))).drop (k+1)=os.drop (k+1):=List.drop_set_of_lt om;rw[C,u,UInt32.toNat_ofNat',Nat.mod_eq_of_lt (show s / d<2^32 by omega)];grind [Nat.div_add_mod,Nat.mul_add,Nat.add_mul,Nat.mul_assoc,Nat.mul_comm]
end Go.Proofs.YtgobkbeokaaplaaGreatDoor
namespace Go.Wk
variable {d n t ty:Nat}
theorem dbx{P:Program}{al:AL}{w:World}{Q:Exit->Act->World->Prop}{ops:Array Oper}{drest:List (Nat×Oper)}{pos:String}{aft:Array Edge}{x:Operand}{v:Value}{cs:List Value}(kk:∀ w1 b,Ext w w1->w.heap.size<=b->Blk w1 b t cs->WD P n ops Q drest ((d,.pointer (some ⟨b,0,none⟩))::al) w1)(hx:ev al x=some v:=by rfl)(hv:v.cells=cs.toArray:=by rfl)(hd:Nat.blt d n=true:=by rfl): WD P n ops Q ((1,⟨some d,.box t x,ty,pos,aft,none⟩)::drest) al w :=
 by grind [Jqv,bx,Jl,Jqt]
end Go.Wk
namespace Go.Proofs.YtgobkbeokaaplaaGreatDoor
open Go.RowKit Pl Go.Wk _root_.Go.Proofs.Tryz
attribute [local irreducible] WC WL QX WD WDB WP WN WG
variable {c m n:Nat}{N N':Nat->Prop}{l r t:Tr}{pl pr u v wt:Value}{w w':World}
theorem Qzj(h:0<(Jq n).length): n≠0:=by grind [limbs_0]
def NatX(N:Nat->Prop)(w:World)(v:Value)(n:Nat): Prop:=NatV w v n/\(n≠0->∀ ad m c,v=.slice (some ad) m c->¬ N ad.block)
theorem NatX.ext{N:Nat->Prop}{w w':World}{v:Value}{n:Nat}(h:NatX N w v n)(hx:Ext w w'): NatX N w' v n:=⟨h.1.ext hx,h.2⟩
theorem NatX.gr(h:NatX N w v n)(hg:GrN N w w'): NatX N w' v n:=by
 obtain⟨⟨A,c,rfl,u,o,j⟩,i⟩:=h;exact⟨⟨A,c,rfl,u,o,Yj j hg (λh0 C e=>i (Qzj (by grind [Qds])) C _ _ (by rw[e]))⟩,i⟩
theorem NatX.nil{N:Nat->Prop}(w:World): NatX N w (.slice none 0 0) 0:=⟨NatV.nil w,λ_ i m c e=>by cases e⟩
theorem limbs_pos'(h:n≠0): 0<(Jq n).length:=by rw[Jcj h];simp
theorem NatX.old(h:NatX N w v n)(hs:∀ k,N' k->N k∨w.heap.size<=k): NatX N' w v n:=⟨h.1,λh0 j m c e i=>by
 rcases hs _ i with h1|h1
 .exact h.2 h0 j m c e h1
 obtain⟨A,C,u,_,_,o⟩:=h.1;grind [Rd.isome,limbs_pos']⟩
theorem Fresh.x(h:Fresh w v)(hn:NatV w' v n)(hN:∀ k,N k->k<w.heap.size): NatX N w' v n :=
 ⟨hn,λ_ j m c e i=>by have:=h j m c e;have:=hN _ i;omega⟩
def TrV(N:Nat->Prop)(w:World): Tr->Value->Prop
 | .nil,u=>u=.pointer none
 | .node l v x r,u=>∃ b wt pl pr st,u=.pointer (some ⟨b,0,none⟩)/\(Blk w b 232 (v.cells++[wt,pl,pr,.int .i64 ((Tr.node l v x r).ht:Int),.int .i64 ((Tr.node l v x r).sz:Int),st])/\¬ N b)/\NatX N w wt x/\NatX N w st (Tr.node l v x r).sum/\TrV N w l pl/\TrV N w r pr
theorem TrV.gr{N:Nat->Prop}{w w':World}: ∀ {t:Tr} {u:Value},TrV N w t u->GrN N w w'->TrV N w' t u
 | .nil,u,h,_=>h
 | .node l v x r,u,h,hx=>by
  obtain⟨b,wt,pl,pr,st,h1,⟨h2,h2'⟩,h3,h4,h5,h6⟩:=h;exact⟨b,wt,pl,pr,st,h1,⟨Jy h2 hx h2',h2'⟩,h3.gr hx,h4.gr hx,h5.gr hx,h6.gr hx⟩
theorem TrV.ext{N:Nat->Prop}{w w':World}{t:Tr}{u:Value}(h:TrV N w t u)(hx:Ext w w'): TrV N w' t u:=h.gr (GrN.ext hx)
theorem TrV.old{N N':Nat->Prop}{w:World}(hs:∀ k,N' k->N k∨w.heap.size<=k): ∀ {t:Tr} {u:Value},TrV N w t u->TrV N' w t u
 | .nil,u,h=>h
 | .node l v x r,u,h=>by
  obtain⟨b,wt,pl,pr,st,h1,⟨h2,h2'⟩,h3,h4,h5,h6⟩:=h;exact⟨b,wt,pl,pr,st,h1,⟨h2,λhk=>(hs _ hk).elim h2' (λh=>by have:=h2.lt;omega)⟩,h3.old hs,h4.old hs,h5.old hs,h6.old hs⟩
theorem TrV.ptr(h:TrV N w t u): ∃ p,u=.pointer p:=by
 cases t with
 | nil=>exact⟨none,h⟩
 | node l v x r=>obtain⟨b,_,_,_,_,i,_⟩:=h;exact⟨_,i⟩
theorem Jws(hv:NatV w v n)(hs:(Jq n).length<=1000): Ret prog 86 [v] w λr w'=>NatV w' r n/\Fresh w r/\Ext w w':=by
 refine enE func86 ntmps86 ?_;refine clR (Kl hv) ?_;rintro j w' ⟨⟨A,rfl,D⟩,rfl⟩;refine clR (Xvp D (Qdr _) om) ?_;rintro j Z ⟨i,o⟩;obtain⟨O,G,rfl,C,u⟩:=Jb i;refine ρ ?_;refine Jj ⟨⟨O,G,rfl,C,om,Rd.own i⟩,λJ m c e=>?_,o⟩;injection e with e1 e2 e3
 subst e1;exact(u J.block rfl).1
theorem Qcp: ∃ k:Nat,k=900:=⟨_,rfl⟩
noncomputable def bK: Nat:=Classical.choose Qcp
theorem Jnv: bK=900:=Classical.choose_spec Qcp
def Nb(n:Nat): Prop:=n<4294967296^bK
theorem Nb.len(h:Nb n): (Jq n).length<=1000:=by
 rcases Nat.eq_zero_or_pos n with h0|h0
 .rw[h0,limbs_0];simp
 have i:=Qzk (n:=n) om;rcases Nat.lt_or_ge bK ((Jq n).length-1) with h2|h2
 .exact absurd (nM h (nL (Nat.pow_le_pow_right (by decide) (Nat.le_of_lt h2)) i)) (Nat.lt_irrefl _)
 rw[Jnv]at h2;omega
theorem Nb.le(h:Nb n)(hm:m<=n): Nb m:=Nat.lt_of_le_of_lt hm h
theorem Jjh(h:TrV N w t u): Ret prog 81 [u] w λr w'=>r=.int .i64 (t.ht:Int)/\w'=w:=by
 refine enE func81 ntmps81 ?_;cases t with
 | nil=>
  obtain rfl:u=.pointer none:=h;refine ρ ?_;refine pnl ?_;refine ρ ?_;exact Jj ⟨rfl,rfl⟩
 | node l v x r=>
  obtain⟨b,o,D,C,st,rfl,⟨j,_⟩,Z,O,J,G⟩:=h;refine ρ ?_;refine pnl ?_;refine ldR (j.at (i:=6) rfl) ?_;refine ρ ?_;exact Jj ⟨rfl,rfl⟩
theorem Jbj(h:TrV N w t u): Ret prog 82 [u] w λr w'=>r=.int .i64 (t.sz:Int)/\w'=w:=by
 refine enE func82 ntmps82 ?_;cases t with
 | nil=>
  obtain rfl:u=.pointer none:=h;refine ρ ?_;refine pnl ?_;refine ρ ?_;exact Jj ⟨rfl,rfl⟩
 | node l v x r=>
  obtain⟨b,o,D,C,st,rfl,⟨j,_⟩,Z,O,J,G⟩:=h;refine ρ ?_;refine pnl ?_;refine ldR (j.at (i:=7) rfl) ?_;refine ρ ?_;exact Jj ⟨rfl,rfl⟩
theorem Jbd(h:TrV N w t u): Ret prog 176 [u] w λr w'=>NatX N w r t.sum/\w'=w:=by
 refine enE func176 ntmps176 ?_;cases t with
 | nil=>
  obtain rfl:u=.pointer none:=h;refine ρ ?_;refine pnl ?_;refine ρ ?_;exact Jj ⟨NatX.nil _,rfl⟩
 | node l v x r=>
  obtain⟨b,C,G,D,st,rfl,⟨o,_⟩,Z,j,O,J⟩:=h;refine ρ ?_;refine pnl ?_;refine ldR (o.at (i:=8) rfl) ?_;refine ρ ?_;exact Jj ⟨j,rfl⟩
structure NatsV(w:World)(A:Option Addr)(us:List Value)(ns:List Nat): Prop where
 rd:Rd w 1 A us.length us
 len:us.length=ns.length
 nat:∀ i,i<ns.length->NatV w (us.getD i (.int .i64 0)) (ns.getD i 0)
theorem Qtx{A:Option Addr}{us:List Value}{ns:List Nat}(h:NatsV w A us ns)(hN:Nb (ns.foldl (· + ·) 0))(hl:ns.length<=1000)(hsub:∀ i,i<=ns.length->Nb ((ns.take i).foldl (· + ·) 0))(hone:∀ x∈ns,Nb x):
  Ret prog 227 [.slice A us.length c] w λr w'=>NatV w' r (ns.foldl (· + ·) 0)/\Fresh w r/\Ext w w':=by
 have Z:=h.len;refine enE func227 ntmps227 ?_;refine ρ ?_;refine Jo (fun (i:Nat) (vs:Value)=>[(0,.slice A us.length c),(3,vs),(6,.int .i64 (us.length:Int)),(7,.int .i64 (i:Int))])
  (λi vs w'=>i<=ns.length/\Ext w w'/\NatV w' vs ((ns.take i).foldl (· + ·) 0)/\Fresh w vs) (λi _=>ns.length-i) 0 (.slice none 0 0) sB
  ⟨Nat.zero_le _,Ext.refl _,NatV.nil _,λad m c e=>by cases e⟩ ?_
 rintro i vs w1 ⟨hi,j,hs,D⟩;refine ciR (λJ=>?_) (λJ=>?_)
 .have O:i<ns.length:=by have:=oT J;omega
  clear J;refine ixR i (h.rd.ext j) om ?_;have o:us[i]?=some (us.getD i (.int .i64 0)):=by grind
  refine ldR ((h.rd.ext j).cell o) ?_;refine clR (Jqk hs ((h.nat i O).ext j) (hsub i hi).len (hone _ (by grind)).len) ?_;rintro r w2 ⟨hr,G,u⟩;refine ρ ?_;refine Jf (i+1) r sO ⟨O,j.trans u,?_,λad m c e=>nL j.size (G ad m c e)⟩ om;grind [Qr]
 have C:i=ns.length:=by grind
 rw[C,List.take_length]at hs;refine ρ ?_;exact Jj ⟨hs,D,j⟩
theorem Xyt(v:V)(wt st:Value)(A1 A2:Option Addr)(n1 n2 c1 c2:Nat)(pl pr:Option Addr)(y z:Int)(h1:wt=.slice A1 n1 c1)(h2:st=.slice A2 n2 c2)(w:World): (Instr.build 232 #[(0,.agg (v.cells++[wt]).toArray),(1,.pointer pl),(2,.pointer pr),(3,.int .i64 y),(4,.int .i64 z),(5,st)]).run prog w=.ok (.agg (v.cells++[wt,.pointer pl,.pointer pr,.int .i64 y,.int .i64 z,st]).toArray) w:=by
 subst h1;subst h2;kernel_rfl
theorem Xvz(v1 v2 v3:Value)(A1 A2 A3:Option Addr)(n1 n2 n3 c1 c2 c3:Nat)(h1:v1=.slice A1 n1 c1)(h2:v2=.slice A2 n2 c2)(h3:v3=.slice A3 n3 c3)(w:World): (Instr.buildSlice 349 3 #[(0,v1),(1,v2),(2,v3)]).run prog w=.ok (.slice (some ⟨w.heap.size,0,none⟩) 3 3) (w.alloc (.cells [v1,v2,v3].toArray 45)):=by
 subst h1;subst h2;subst h3;kernel_rfl
theorem Ur{v:V}{x:Nat}(hl:TrV N w l pl)(hr:TrV N w r pr)(hw:NatX N w wt x)(hN:∀ k,N k->k<w.heap.size)(hb:Nb (Tr.node l v x r).sum)(hs:(Tr.node l v x r).sz<=1000000):
  Ret prog 199 [pl,.agg (v.cells++[wt]).toArray,pr] w λu w'=>TrV N w' (.node l v x r) u/\Ext w w':=by
 obtain⟨ql,rfl⟩:=hl.ptr;obtain⟨qr,rfl⟩:=hr.ptr;refine enE func199 ntmps199 ?_;refine bxR (cs:=v.cells++[wt]) ?_;intro w1 b a9 aj hB;refine ρ ?_;have a1:Ext w1 w1.drew:=(Ext.refl w1).drew;have C:=a9.trans a1;have a7:=hB.ext a1;have J:=hl.ext C;have G:=hr.ext C;have Z:=hw.ext C;have ag:=Tr.ht_le l;have af:=Tr.ht_le r;simp only[Tr.sz]at hs;refine dr [(0,0),(0,1),(0,2),(0,3),(0,5),(0,9),(0,12),(0,15),(0,17),(0,18),(0,19),(1,4),(1,6),(0,7),(0,8),(1,10),(0,11),(1,13),(0,14),(1,16),(1,20),(1,21),(1,22),(0,23),(1,24),(0,25)] kr ?_;refine Qf (cs:=v.cells++[wt]) (λj u hu=>a7.at hu) ?_;refine Jz (a7.at (i:=3) rfl) ?_;refine Qq (Jjh J) ?_;rintro u2 w2 ⟨rfl,rfl⟩;refine⟨Ext.refl _,?_⟩;refine Qq (Jjh G) ?_;rintro u2 w2 ⟨rfl,rfl⟩;refine⟨Ext.refl _,?_⟩;refine Qq (Jbj J) ?_;rintro u2 w2 ⟨rfl,rfl⟩;refine⟨Ext.refl _,?_⟩;refine Qq (Jbj G) ?_;rintro u2 w2 ⟨rfl,rfl⟩
 refine⟨Ext.refl _,?_⟩;refine Qq (Jbd J) ?_;rintro ul w2 ⟨a4,rfl⟩;refine⟨Ext.refl _,?_⟩;refine Qq (Jbd G) ?_;rintro ur w2 ⟨a3,rfl⟩;refine⟨Ext.refl _,?_⟩;obtain⟨A1,c1,e1,_⟩:=id a4.1;obtain⟨A2,c2,e2,_⟩:=id Z.1;obtain⟨A3,c3,e3,_⟩:=id a3.1;refine ρd ?_;refine dbsl (Xvz _ _ _ _ _ _ _ _ _ _ _ _ e1 e2 e3) ?_;intro w3 b3 D ai ae;have ab:NatsV w3 (some ⟨b3,0,none⟩) [ul,wt,ur] [l.sum,x,r.sum]:=by
  refine⟨ae.rd (n:=3) rfl,rfl,λi hi=>?_⟩;match i,hi with
  | 0,_=>exact a4.1.ext D
  | 1,_=>exact Z.1.ext D
  | 2,_=>exact a3.1.ext D
 simp only[Tr.sum]at hb;refine Qq (Qtx (us:=[ul,wt,ur]) ab (hb.le (by simp)) (by simp) (λi hi=>hb.le ?_) (λy hy=>hb.le ?_)) ?_
 .match i,hi with
  | 0,_=>simp
  | 1,_=>simp;omega
  | 2,_=>simp
  | 3,_=>simp
 .grind
 rintro st w4 ⟨a6,ad,O⟩;refine⟨O,?_⟩;obtain⟨A4,c4,e4,_⟩:=id a6;refine ρd ?_;refine dbld (Xyt v wt st A2 A4 _ _ _ _ ql qr _ _ e2 e4) ?_;refine ρd ?_;refine dbx (cs:=v.cells++[wt,.pointer ql,.pointer qr,.int .i64 _,.int .i64 _,st]) ?_;intro w5 b5 a2 ah a8;refine ρd ?_;refine ρ ?_;have e5:(if(l.ht:Int)<(r.ht:Int) then(r.ht:Int) else(l.ht:Int))+1=((Tr.node l v x r).ht:Int):=by simp only[Tr.ht];split<;>omega
 have e6:(l.sz:Int)+1+r.sz=((Tr.node l v x r).sz:Int):=by simp only[Tr.sz];omega
 rw[e5,e6]at a8;have o:=(D.trans O).trans a2;have aa:=nL C.size D.size;have a5:NatX N w5 st (Tr.node l v x r).sum:=by
  have:=a6.ext a2;simp only[List.foldl_cons,List.foldl_nil,Nat.zero_add]at this;exact ad.x this λk hk=>nM (hN k hk) aa
 have ac:¬ N b5:=λhk=>by have:=hN _ hk;have:=O.size;omega
 exact Jj ⟨⟨b5,wt,_,_,st,rfl,⟨a8,ac⟩,Z.ext o,a5,J.ext o,G.ext o⟩,C.trans o⟩
end Go.Proofs.YtgobkbeokaaplaaGreatDoor
namespace Go.Wk
theorem _root_.Go.Wk.Blk.pre{w:World}{b t:Nat}{cs ds:List Value}(h:Blk w b t (cs++ds))(j:Nat)(u:Value)(hu:cs[j]?=some u): w.cell? ((⟨b,0,none⟩:Addr).add j)=some u :=
 h.at (by grind)
end Go.Wk
namespace Go.Proofs.YtgobkbeokaaplaaGreatDoor
open Go.RowKit Pl Go.Wk
attribute [local irreducible] WC WL QX WD WDB WP WN WG
theorem Qch{N:Nat->Prop}{w:World}{l r:Tr}{pl pr wt:Value}{v:V}{x:Nat}(hl:TrV N w l pl)(hr:TrV N w r pr)(hw:NatX N w wt x)(hN:∀ k,N k->k<w.heap.size)(hb:Nb (Tr.node l v x r).sum)(hs:(Tr.node l v x r).sz<=1000000):
  Ret Tryz.prog 200 [pl,.agg (v.cells++[wt]).toArray,pr] w λu w'=>TrV N w' (Tr.bal l v x r) u/\Ext w w':=by
 obtain⟨ql,rfl⟩:=hl.ptr;obtain⟨qr,rfl⟩:=hr.ptr;have bd:=Tr.ht_le l;have bc:=Tr.ht_le r;have ai:l.sz+1+r.sz<=1000000:=hs;have Z:Nb (l.sum+x+r.sum):=hb;refine enE Tryz.func200 Tryz.ntmps200 ?_;refine bxR (cs:=v.cells++[wt]) ?_;intro w1 b G be hB;have ad:=hl.ext G;have aa:=hr.ext G;have a9:=hw.ext G;refine clR (Jjh ad) ?_;rintro u2 w2 ⟨rfl,rfl⟩;refine clR (Jjh aa) ?_;rintro u2 w2 ⟨rfl,rfl⟩;have a7:Ext w2 w2.drew:=(Ext.refl w2).drew;refine ρ ?_;by_cases hc:r.ht+1<l.ht
 .cases l with
  | nil=>simp[Tr.ht]at hc
  | node ll lv lx lr=>
   obtain⟨bl,wl,b9,b8,sl,e1,⟨ah,b4⟩,au,bb,an,am⟩:=id ad;obtain rfl:ql=some ⟨bl,0,none⟩:=by injection e1
   obtain⟨b5,rfl⟩:=an.ptr;obtain⟨aq,rfl⟩:=am.ptr;simp only[Tr.sum,Tr.sz]at Z ai;have af:decide ((r.ht:Int)+1<((Tr.node ll lv lx lr).ht:Int))=true:=decide_eq_true om;refine dr [(0,0),(0,1),(0,2),(0,3),(0,4),(0,5),(0,6),(0,7),(0,8),(0,10),(0,11),(0,12),(0,13),(1,9),(1,14),(0,15),(0,16),(0,17)] kr ?_;refine ρd ?_;refine dkt 20 af ?_;refine Jz ((ah.ext a7).at (i:=4) rfl) ?_;refine Jz ((ah.ext a7).at (i:=5) rfl) ?_;refine Qq (Jjh (an.ext a7)) ?_;rintro u3 w3 ⟨rfl,rfl⟩;refine⟨Ext.refl _,?_⟩;refine Qq (Jjh (am.ext a7)) ?_;rintro u3 w3 ⟨rfl,rfl⟩;refine⟨Ext.refl _,?_⟩;refine ρd ?_;refine ciR (λJ=>?_) (λJ=>?_)
   .have J:lr.ht<=ll.ht:=by have:=oT J;omega
    have o:Ext w2 w2.drew.drew:=a7.drew;have a6:=ah.ext o;refine drR (scq 17 [14,15]) ?_;refine Jz (a6.at (i:=4) rfl) ?_;refine Qf (cs:=lv.cells++[wl]) (Blk.pre (cs:=lv.cells++[wl]) a6) ?_;refine Jz (a6.at (i:=5) rfl) ?_;refine Qf (cs:=v.cells++[wt]) (λj u hu=>(hB.ext o).at hu) ?_;refine Qq (Ur (am.ext o) (aa.ext o) (a9.ext o) (λk O=>nM (hN k O) (G.trans o).size) (Z.le (by simp only[Tr.sum];omega)) (by simp only[Tr.sz];omega)) ?_;rintro uj w4 ⟨hj,a2⟩;refine⟨a2,?_⟩;have C:=o.trans a2;refine Qq (Ur (an.ext C) hj (au.ext C) (λk O=>nM (hN k O) (G.trans C).size) (Z.le (by simp only[Tr.sum];omega)) (by simp only[Tr.sz];omega)) ?_;rintro uk w5 ⟨O,a1⟩;refine⟨a1,?_⟩;refine ρd ?_;refine ρ ?_;refine Jj ⟨?_,(G.trans C).trans a1⟩;have e:Tr.bal (.node ll lv lx lr) v x r=.node ll lv lx (.node lr v x r):=by simp only[Tr.bal,if_pos hc,if_pos J]
    rw[e];exact O
   have J:ll.ht<lr.ht:=by grind
   refine ctR af ?_;cases lr with
   | nil=>simp[Tr.ht]at J
   | node ml mv mx mr=>
    obtain⟨bm,wm,b1,az,sm,e2,⟨ap,av⟩,ao,b2,ac,ab⟩:=id am;obtain rfl:aq=some ⟨bm,0,none⟩:=by injection e2
    obtain⟨ay,rfl⟩:=ac.ptr;obtain⟨ax,rfl⟩:=ab.ptr;simp only[Tr.sum,Tr.sz]at Z ai;refine ldR ((ah.ext a7).at (i:=5) rfl) ?_;refine ρ ?_;have o:Ext w2 w2.drew.drew:=a7.drew;have a6:=ah.ext o;have a4:=ap.ext o;refine dr [(0,0),(0,1),(0,2),(0,3),(0,4),(0,5),(0,6),(0,7),(0,8),(0,9),(0,10),(0,11),(0,13),(0,14),(0,15),(0,16),(0,17),(0,18),(0,19),(0,20),(0,21),(0,22),(1,12),(1,23),(1,24),(0,25)] kr ?_;refine Jz (a6.at (i:=4) rfl) ?_;refine Qf (cs:=lv.cells++[wl]) (Blk.pre (cs:=lv.cells++[wl]) a6) ?_;refine Jz (a4.at (i:=4) rfl) ?_;refine Qf (cs:=mv.cells++[wm]) (Blk.pre (cs:=mv.cells++[wm]) a4) ?_;refine Jz (a4.at (i:=5) rfl) ?_;refine Qf (cs:=v.cells++[wt]) (λj u hu=>(hB.ext o).at hu) ?_;refine Qq (Ur (an.ext o) (ac.ext o) (au.ext o) (λk O=>nM (hN k O) (G.trans o).size) (Z.le (by simp only[Tr.sum];omega)) (by simp only[Tr.sz];omega)) ?_;rintro uj w4 ⟨hj,a2⟩
    refine⟨a2,?_⟩;have C:=o.trans a2;refine Qq (Ur (ab.ext C) (aa.ext C) (a9.ext C) (λk O=>nM (hN k O) (G.trans C).size) (Z.le (by simp only[Tr.sum];omega)) (by simp only[Tr.sz];omega)) ?_;rintro uk w5 ⟨O,a1⟩;refine⟨a1,?_⟩;have a3:=C.trans a1;refine Qq (Ur (hj.ext a1) O (ao.ext a3) (λk O=>nM (hN k O) (G.trans a3).size) (Z.le (by simp only[Tr.sum];omega)) (by simp only[Tr.sz];omega)) ?_;rintro uo w6 ⟨ho,a8⟩;refine⟨a8,?_⟩;refine ρd ?_;refine ρ ?_;refine Jj ⟨?_,(G.trans a3).trans a8⟩;have e:Tr.bal (.node ll lv lx (.node ml mv mx mr)) v x r=.node (.node ll lv lx ml) mv mx (.node mr v x r):=by simp only[Tr.bal,if_pos hc,if_neg (Nat.not_le.2 J)]
    rw[e];exact ho
 refine dr [(0,0),(0,1),(0,2),(0,3),(0,4),(0,5),(0,6),(0,7),(0,8),(0,10),(0,11),(0,12),(0,13),(1,9),(1,14),(0,15),(0,16),(0,17)] kr ?_;refine ρd ?_;have af:decide ((r.ht:Int)+1<(l.ht:Int))=false:=dF om;refine dkf 20 af ?_;refine ρd ?_;refine cfR af ?_;refine ρ ?_;by_cases hd:l.ht+1<r.ht
 .cases r with
  | nil=>simp[Tr.ht]at hd
  | node rl rv rx rr=>
   obtain⟨br,wr,b7,b6,sr,e1,⟨ag,b3⟩,ar,ba,ak,aj⟩:=id aa;obtain rfl:qr=some ⟨br,0,none⟩:=by injection e1
   obtain⟨aw,rfl⟩:=ak.ptr;obtain⟨aq,rfl⟩:=aj.ptr;simp only[Tr.sum,Tr.sz]at Z ai;have o:Ext w2 w2.drew.drew:=a7.drew;have ae:decide ((l.ht:Int)+1<((Tr.node rl rv rx rr).ht:Int))=true:=decide_eq_true om;refine dr [(0,0),(0,1),(0,2),(0,3),(0,4),(0,5),(0,6),(0,7),(0,8),(0,10),(0,11),(0,12),(0,13),(1,9),(1,14),(0,15),(0,16),(0,17)] kr ?_;refine ρd ?_;refine dkt 88 ae ?_;refine Jz ((ag.ext o).at (i:=5) rfl) ?_;refine Jz ((ag.ext o).at (i:=4) rfl) ?_;refine Qq (Jjh (aj.ext o)) ?_;rintro u3 w3 ⟨rfl,rfl⟩;refine⟨Ext.refl _,?_⟩;refine Qq (Jjh (ak.ext o)) ?_;rintro u3 w3 ⟨rfl,rfl⟩;refine⟨Ext.refl _,?_⟩;refine ρd ?_;refine ciR (λJ=>?_) (λJ=>?_)
   .have J:rl.ht<=rr.ht:=by have:=oT J;omega
    have D:Ext w2 w2.drew.drew.drew:=o.drew;have a5:=ag.ext D;refine drR [(0,0),(0,1),(0,2),(0,3),(0,4),(0,5),(0,7),(0,8),(0,9),(0,10),(0,11),(0,12),(0,13),(0,14),(1,6),(1,15),(0,16)] ?_;refine Qf (cs:=v.cells++[wt]) (λj u hu=>(hB.ext D).at hu) ?_;refine Jz (a5.at (i:=4) rfl) ?_;refine Qf (cs:=rv.cells++[wr]) (Blk.pre (cs:=rv.cells++[wr]) a5) ?_;refine Jz (a5.at (i:=5) rfl) ?_;refine Qq (Ur (ad.ext D) (ak.ext D) (a9.ext D) (λk O=>nM (hN k O) (G.trans D).size) (Z.le (by simp only[Tr.sum];omega)) (by simp only[Tr.sz];omega)) ?_;rintro uj w4 ⟨hj,a2⟩;refine⟨a2,?_⟩;have C:=D.trans a2;refine Qq (Ur hj (aj.ext C) (ar.ext C) (λk O=>nM (hN k O) (G.trans C).size) (Z.le (by simp only[Tr.sum];omega)) (by simp only[Tr.sz];omega)) ?_;rintro uk w5 ⟨O,a1⟩;refine⟨a1,?_⟩;refine ρd ?_;refine ρ ?_;refine Jj ⟨?_,(G.trans C).trans a1⟩;have e:Tr.bal l v x (.node rl rv rx rr)=.node (.node l v x rl) rv rx rr:=by simp only[Tr.bal,if_neg hc,if_pos hd,if_pos J]
    rw[e];exact O
   have J:rr.ht<rl.ht:=by grind
   refine ctR ae ?_;cases rl with
   | nil=>simp[Tr.ht]at J
   | node ml mv mx mr=>
    obtain⟨bm,wm,b1,az,sm,e2,⟨ap,av⟩,ao,b2,ac,ab⟩:=id ak;obtain rfl:aw=some ⟨bm,0,none⟩:=by injection e2
    obtain⟨ay,rfl⟩:=ac.ptr;obtain⟨ax,rfl⟩:=ab.ptr;simp only[Tr.sum,Tr.sz]at Z ai;refine ldR ((ag.ext o).at (i:=4) rfl) ?_;refine ρ ?_;have D:Ext w2 w2.drew.drew.drew:=o.drew;have a5:=ag.ext D;have a4:=ap.ext D;refine dr [(0,0),(0,1),(0,2),(0,3),(0,4),(0,5),(0,7),(0,8),(0,9),(0,10),(0,11),(0,12),(0,13),(0,14),(0,15),(0,16),(0,17),(0,18),(0,19),(0,20),(0,21),(0,22),(1,6),(1,23),(1,24),(0,25)] kr ?_;refine Qf (cs:=v.cells++[wt]) (λj u hu=>(hB.ext D).at hu) ?_;refine Jz (a4.at (i:=4) rfl) ?_;refine Qf (cs:=mv.cells++[wm]) (Blk.pre (cs:=mv.cells++[wm]) a4) ?_;refine Jz (a4.at (i:=5) rfl) ?_;refine Qf (cs:=rv.cells++[wr]) (Blk.pre (cs:=rv.cells++[wr]) a5) ?_;refine Jz (a5.at (i:=5) rfl) ?_;refine Qq (Ur (ad.ext D) (ac.ext D) (a9.ext D) (λk O=>nM (hN k O) (G.trans D).size) (Z.le (by simp only[Tr.sum];omega)) (by simp only[Tr.sz];omega)) ?_;rintro uj w4 ⟨hj,a2⟩
    refine⟨a2,?_⟩;have C:=D.trans a2;refine Qq (Ur (ab.ext C) (aj.ext C) (ar.ext C) (λk O=>nM (hN k O) (G.trans C).size) (Z.le (by simp only[Tr.sum];omega)) (by simp only[Tr.sz];omega)) ?_;rintro uk w5 ⟨O,a1⟩;refine⟨a1,?_⟩;have a3:=C.trans a1;refine Qq (Ur (hj.ext a1) O (ao.ext a3) (λk O=>nM (hN k O) (G.trans a3).size) (Z.le (by simp only[Tr.sum];omega)) (by simp only[Tr.sz];omega)) ?_;rintro uo w6 ⟨ho,a8⟩;refine⟨a8,?_⟩;refine ρd ?_;refine ρ ?_;refine Jj ⟨?_,(G.trans a3).trans a8⟩;have e:Tr.bal l v x (.node (.node ml mv mx mr) rv rx rr)=.node (.node l v x ml) mv mx (.node mr rv rx rr):=by simp only[Tr.bal,if_neg hc,if_pos hd,if_neg (Nat.not_le.2 J)]
    rw[e];exact ho
 refine dr [(0,0),(0,1),(0,2),(0,3),(0,4),(0,5),(0,6),(0,7),(0,8),(0,10),(0,11),(0,12),(0,13),(1,9),(1,14),(0,15),(0,16),(0,17)] kr ?_;refine ρd ?_;have ae:decide ((l.ht:Int)+1<(r.ht:Int))=false:=dF om;refine dkf 88 ae ?_;refine ρd ?_;refine cfR ae ?_;have o:Ext w2 w2.drew.drew:=a7.drew;refine Jh (cs:=v.cells++[wt]) (λj u hu=>(hB.ext o).at hu) ?_;refine clR (Ur (ad.ext o) (aa.ext o) (a9.ext o) (λk O=>nM (hN k O) (G.trans o).size) hb hs) ?_;rintro uj w4 ⟨hj,a2⟩;refine ρ ?_;refine Jj ⟨?_,(G.trans o).trans a2⟩;have e:Tr.bal l v x r=.node l v x r:=by simp only[Tr.bal,if_neg hc,if_neg hd]
 rw[e];exact hj
open Go.RowKit Pl Go.Wk _root_.Go.Proofs.Tryz
variable {d:Bool}{x:Nat}{N:Nat->Prop}{p p0:Option Addr}{a b v:V}{wt:Value}{w:World}
theorem neg_lt: neg d (cmpV a b)=if d=true then cmpV b a else cmpV a b:=by
 unfold neg;split
 .exact(cmp_V.anti a b).symm
 rfl
theorem Qyj: Ret prog 180 [.agg #[.bool d,.pointer p],a.val,b.val] w λu w'=>u=.int .i64 (neg d (cmpV a b))/\Ext w w':=by
 rw[neg_lt];refine enE func180 ntmps180 ?_;refine bxR ?_;intro w1 b1 O a6 a3;refine bxR (cs:=a.cells) ?_;intro w2 b2 G a5 a2;refine bxR (cs:=b.cells) ?_;intro w3 b3 o a4 Z;have a1:=(a3.ext G).ext o;have C:=a2.ext o;refine ldR (a1.at (i:=0) rfl) ?_;refine ciR (λh=>?_) (λh=>?_)
 .refine Jh (cs:=b.cells) (λj u J=>Z.at J) ?_;refine Jh (cs:=a.cells) (λj u J=>C.at J) ?_;refine clR (Jxh b a _) ?_;rintro u w4 ⟨rfl,D⟩;refine ρ ?_;refine Jj ⟨?_,((O.trans G).trans o).trans D⟩;rw[if_pos h]
 refine Jh (cs:=a.cells) (λj u J=>C.at J) ?_;refine Jh (cs:=b.cells) (λj u J=>Z.at J) ?_;refine clR (Jxh a b _) ?_;rintro u w4 ⟨rfl,D⟩;refine ρ ?_;refine Jj ⟨?_,((O.trans G).trans o).trans D⟩;rw[if_neg (by rw[h];simp)]
theorem Qck(l:Tr)(v:V)(x:Nat)(r:Tr): (Tr.bal l v x r).sum=l.sum+x+r.sum:=by
 have:=congrArg tot (Tr.toL_bal l v x r);rw[<-Tr.sum_eq,Jbf,tot,<-Tr.sum_eq,<-Tr.sum_eq]at this;grind
theorem Jwf(d:Bool)(v:V)(x:Nat): ∀ t:Tr,(Tr.put d v x t).sum<=t.sum+x
 | .nil=>by simp[Tr.put,Tr.sum]
 | .node l a y r=>by
  have h1:=Jwf d v x l;have h2:=Jwf d v x r;unfold Tr.put;split
  .rw[Qck,Tr.sum];omega
  split
  .rw[Qck,Tr.sum];omega
  rw[Tr.sum,Tr.sum];omega
theorem Qrd: ∀(t:Tr) (p:Value) (w:World),TrV N w t p->NatX N w wt x->(∀ k,N k->k<w.heap.size)->Nb (t.sum+x)->t.sz+1<=1000000 ->
  Ret prog 175 [.agg #[.bool d,.pointer p0],p,.agg (v.cells++[wt]).toArray] w λu w'=>TrV N w' (Tr.put d v x t) u/\Ext w w':=by
 intro t;induction t with
 | nil=>
  intro p w hp hw hN hb hs;obtain rfl:p=.pointer none:=hp;refine enE func175 ntmps175 ?_;refine bxR ?_;intro w1 b1 a9 ai ae;refine bxR (cs:=v.cells++[wt]) ?_;intro w2 b2 a7 ah ab;have hx:=a9.trans a7;refine ρ ?_;refine pnl ?_;refine Jh (cs:=v.cells++[wt]) (λj u O=>ab.at O) ?_;refine clR (Ur (l:=.nil) (r:=.nil) (show TrV N w2 .nil (.pointer none) from rfl) (show TrV N w2 .nil (.pointer none) from rfl) (hw.ext hx) (λk hk=>nM (hN k hk) hx.size) (hb.le (by simp[Tr.sum])) (by simp[Tr.sz])) ?_;rintro u w3 ⟨O,J⟩;refine ρ ?_;exact Jj ⟨O,hx.trans J⟩
 | node l a y r ihl ihr=>
  intro p w hp hw hN hb hs;obtain⟨bn,wn,pl,pr,sn,rfl,⟨a8,aj⟩,ac,ak,hl,hr⟩:=id hp;obtain⟨ql,rfl⟩:=hl.ptr;obtain⟨qr,rfl⟩:=hr.ptr;simp only[Tr.sum]at hb;simp only[Tr.sz]at hs;refine enE func175 ntmps175 ?_;refine bxR ?_;intro w1 b1 a9 ai ae;refine bxR (cs:=v.cells++[wt]) ?_;intro w2 b2 a7 ah ab;have hx:=a9.trans a7;refine ρ ?_;refine pnl ?_;refine ρ ?_;have a6:Ext w2 w2.drew:=(Ext.refl w2).drew;have ad:=a8.ext (hx.trans a6);have a5:=(ae.ext a7).ext a6;have a1:=ab.ext a6;refine dr (scq 10 [8]) kr ?_;refine Qf (cs:=[.bool d,.pointer p0]) (λj u O=>a5.at O) ?_;refine Qf (cs:=v.cells) (Blk.pre (cs:=v.cells) a1) ?_;refine Qf (cs:=a.cells) (Blk.pre (cs:=a.cells) ad) ?_;refine Qq (Qyj (a:=v) (b:=a)) ?_;rintro u w3 ⟨rfl,J⟩;refine⟨J,?_⟩;refine ρd ?_;refine ρ ?_;have a3:=(hx.trans a6).trans J;refine ci (λhc=>?_) (λhc=>?_)
  .have hc:=oT hc;have C:Ext w3 w3.drew:=(Ext.refl w3).drew;have o:=a3.trans C;have D:=a8.ext o;refine drR [(0,0),(0,1),(0,2),(0,3),(0,4),(0,5),(0,7),(0,8),(0,9),(0,10),(0,11),(0,12),(0,13),(0,14),(1,6),(1,15),(0,16)] ?_;refine Qf (cs:=[.bool d,.pointer p0]) (λj u O=>((a5.ext J).ext C).at O) ?_;refine Jz (D.at (i:=4) rfl) ?_;refine Qf (cs:=v.cells++[wt]) (λj u O=>((a1.ext J).ext C).at O) ?_;refine Qf (cs:=a.cells++[wn]) (Blk.pre (cs:=a.cells++[wn]) D) ?_;refine Jz (D.at (i:=5) rfl) ?_;refine Qq (ihl _ _ (hl.ext o) (hw.ext o) (λk hk=>nM (hN k hk) o.size) (hb.le om) om) ?_;rintro u w4 ⟨a4,G⟩;refine⟨G,?_⟩;have ag:=Tr.put_sz d v x l;have af:=Jwf d v x l;refine Qq (Qch a4 (hr.ext (o.trans G)) (ac.ext (o.trans G)) (λk hk=>nM (hN k hk) (o.trans G).size) (hb.le (by simp only[Tr.sum];omega)) (by simp only[Tr.sz];omega)) ?_
   rintro u w5 ⟨aa,a2⟩;refine⟨a2,?_⟩;refine ρd ?_;refine ρ ?_;refine Jj ⟨?_,(o.trans G).trans a2⟩;rw[Tr.put,if_pos hc];exact aa
  have hc:=oF hc;refine ciR (λZ=>?_) (λZ=>?_)
  .have Z:=oT Z;have C:Ext w3 w3.drew:=(Ext.refl w3).drew;have o:=a3.trans C;have D:=a8.ext o;refine drR (scq 17 [14,15]) ?_;refine Jz (D.at (i:=4) rfl) ?_;refine Qf (cs:=a.cells++[wn]) (Blk.pre (cs:=a.cells++[wn]) D) ?_;refine Qf (cs:=[.bool d,.pointer p0]) (λj u O=>((a5.ext J).ext C).at O) ?_;refine Jz (D.at (i:=5) rfl) ?_;refine Qf (cs:=v.cells++[wt]) (λj u O=>((a1.ext J).ext C).at O) ?_;refine Qq (ihr _ _ (hr.ext o) (hw.ext o) (λk hk=>nM (hN k hk) o.size) (hb.le om) om) ?_;rintro u w4 ⟨a4,G⟩;refine⟨G,?_⟩;have ag:=Tr.put_sz d v x r;have af:=Jwf d v x r;refine Qq (Qch (hl.ext (o.trans G)) a4 (ac.ext (o.trans G)) (λk hk=>nM (hN k hk) (o.trans G).size) (hb.le (by simp only[Tr.sum];omega)) (by simp only[Tr.sz];omega)) ?_;rintro u w5 ⟨aa,a2⟩;refine⟨a2,?_⟩;refine ρd ?_;refine ρ ?_;refine Jj ⟨?_,(o.trans G).trans a2⟩
   rw[Tr.put,if_neg hc,if_pos Z];exact aa
  have Z:=oF Z;have C:Ext w3 w3.drew:=(Ext.refl w3).drew;have o:=a3.trans C;have D:=a8.ext o;refine drR (scq 11 [9]) ?_;refine Jz (D.at (i:=4) rfl) ?_;refine Qf (cs:=v.cells++[wt]) (λj u O=>((a1.ext J).ext C).at O) ?_;refine Jz (D.at (i:=5) rfl) ?_;refine Qq (Ur (hl.ext o) (hr.ext o) (hw.ext o) (λk hk=>nM (hN k hk) o.size) (hb.le (by simp only[Tr.sum];omega)) (by simp only[Tr.sz];omega)) ?_;rintro u w4 ⟨a4,G⟩;refine⟨G,?_⟩;refine ρd ?_;refine ρ ?_;refine Jj ⟨?_,o.trans G⟩;rw[Tr.put,if_neg hc,if_neg Z];exact a4
theorem Kx: Qu prog 76=some (.agg #[.bool false,.pointer none]):=kr
theorem Xyr(d:Bool)(p:Option Addr)(w:World): (Instr.build 76 #[(0,.bool d),(1,.pointer p)]).run prog w=.ok (.agg #[.bool d,.pointer p]) w:=kr
theorem Xyp(d:Bool)(w:World): (Instr.build 76 #[(0,.bool d)]).run prog w=.ok (.agg #[.bool d,.pointer none]) w:=kr
theorem Xbh(v:V)(wt:Value)(A:Option Addr)(n c:Nat)(h:wt=.slice A n c)(w:World): (Instr.build 230 #[(0,v.val),(1,wt)]).run prog w=.ok (.agg (v.cells++[wt]).toArray) w:=by subst h;kernel_rfl
theorem Qtd: ∀ u∈[Value.bool d,.pointer p],u.oneCell'=true:=λu i=>by
 simp only[List.mem_cons,List.not_mem_nil,or_false]at i;rcases i with rfl|rfl<;>rfl
theorem Qtv: Ret prog 132 [.bool d] w λu w'=>u=.agg #[.bool d,.pointer none]/\Ext w w':=by
 refine enE func132 ntmps132 ?_;refine Jw Kx ?_;intro O b j D G;refine Xh (Xyp d _) ?_;refine Qg G ?_;intro J o C i;refine ρ ?_;exact Jzr o ⟨rfl,i w j D⟩
theorem Jsl{p:Value}{t:Tr}(h:TrV N w t p)(hv:Xl v=true)(hw:NatV w wt x)(hN:∀ k,N k->k<w.heap.size)(h0:x≠0)(hn:Nb (t.sum+x))(hs:t.sz+1<=1000000):
  Ret prog 133 [.agg #[.bool d,p],v.val,wt] w λu w'=>∃ q,u=.tuple #[.agg #[.bool d,q],.int .i64 0]/\TrV N w' (Tr.put d v x t) q/\Ext w w':=by
 obtain⟨q,rfl⟩:=h.ptr;refine enE func133 ntmps133 ?_;refine bxR ?_;intro w1 b1 a5 aw ap;refine bxR (cs:=v.cells) ?_;intro w2 b2 O av ao;refine Jw Kx ?_;intro w3 b3 a4 ab ae;have C:=(a5.trans O).trans a4;have ag:=(ap.ext O).ext a4;have a1:=ao.ext a4;refine Jh (cs:=v.cells) (λj u hu=>a1.at hu) ?_;refine clR (Jrr v _) ?_;rintro u w4 ⟨rfl,J⟩;rw[hv];refine clR (Jws (hw.ext (C.trans J)) (hn.le om).len) ?_;rintro wn w5 ⟨a9,am,a6⟩;have a8:=(C.trans J).trans a6;obtain⟨A,c,rfl,hc,hm,au⟩:=id a9;have aq:0<(Jq x).length:=by
  rcases Nat.eq_zero_or_pos (Jq x).length with h1|h1
  .have:=List.eq_nil_of_length_eq_zero h1;have e:=Uq x;rw[this]at e;exact absurd e.symm h0
  exact h1
 refine cfR ?_ ?_
 .exact Jnq om
 refine ρ ?_;refine drN (λ_=>False) 10 (scq 12 [8,110,111]) kr ?_;have a2:Ext w5 w5.drew:=(Ext.refl w5).drew;have o:=(J.trans a6).trans a2;have G:=ag.ext o;have af:=a1.ext o;have ad:=ae.ext o;have Z:=a8.trans a2;refine ρn ?_;refine nld (Jr (G.at (i:=0) rfl) (λe=>e)) ?_;refine ρn ?_;refine Zh (cs:=[.bool d,.pointer q]) (λw' hg j u hu=>(Jy G hg (λe=>e)).at hu) ?_;refine ρn ?_;refine nld (Jr (G.at (i:=1) rfl) (λe=>e)) ?_;refine ρn ?_;refine Zh (cs:=v.cells) (λw' hg j u hu=>(Jy af hg (λe=>e)).at hu) ?_;refine ρn ?_;refine Jjb (Xbh v _ A _ c rfl) ?_;refine ρn ?_;refine nop ?_;have aa:b3<w3.heap.size:=ae.lt;have ar:=C.size;have ac:∀ k,(N k∨k=b3)->k<w3.heap.size:=λk D=>D.elim (λh=>nM (hN k h) C.size) (λe=>by rw[e];exact aa);have hh:TrV (λk=>N k∨k=b3) w5.drew t (.pointer q):=(h.old (N':=λk=>N k∨k=b3) λk D=>D.imp id λe=>by rw[e];exact nL (a5.trans O).size ab).ext Z
 have ai:NatX (λk=>N k∨k=b3) w5.drew (.slice A (Jq x).length c) x:=am.x (a9.ext a2) λk D=>nM (ac k D) J.size;refine cl (Qrd t _ _ hh ai (λk D=>nM (ac k D) o.size) hn hs) ?_;rintro u w6 ⟨hu,a3⟩;obtain⟨q2,rfl⟩:=hu.ptr;refine ρ ?_;refine Ju (GrN.ext a3) ?_;refine ρn ?_;refine Jjb (Xyr d q2) ?_;refine ρn ?_;refine Xu ?_;refine stW (ad.ext a3) ?_;intro w7 an ak ah;refine ρ ?_;refine Uu ?_;refine Xu ?_;refine ρ ?_;have a7:Ext w w7:=ah w (Z.trans a3) (nL (a5.trans O).size ab);have aj:=(hu.gr (GrN.by ak (λk D=>.inr (by injection D with D;exact D.symm)))).old (N':=N) λk D=>.inl (.inl D);exact Zk an ⟨_,rfl,aj,a7⟩
open Go.RowKit Pl Go.Wk _root_.Go.Proofs.Tryz
variable {d:Bool}{t:Tr}
theorem Jrq{N:Nat->Prop}{J:Tr->World->Prop}{D:World->Prop}{fid:FuncId}{cap:Array Value}{p:Value}{w:World}(hp:TrV N w t p)(hj:J t w)(hht:t.ht<=1000000)(hx:∀ s w w',J s w->Ext w w'->J s w')(hnil:∀ w,J .nil w->D w)(hcall:∀ l v x r u w,TrV N w (.node l v x r) u->J (.node l v x r) w->Ret prog fid ((#[]:Array Value).toList++[u]++cap.toList) w λz w'=>∃ c,z=.int .i64 c/\GrN N w w'/\(c<0->J l w')/\(0<c->J r w')/\(c=0->D w')):
  Ret prog 178 [.agg #[.bool d,p],.func (.func fid) #[] cap] w λz w'=>(∃ k:Nat,z=.int .i64 (k:Int)/\k<=t.ht)/\D w'/\GrN N w w':=by
 obtain⟨q,rfl⟩:=hp.ptr;refine enE func178 ntmps178 ?_;refine bxR ?_;intro w1 b G hb hB;refine ldR (hB.at (i:=1) rfl) ?_;refine ρ ?_;refine Zj (fun (k:Nat) (s:Tr) (q:Option Addr)=>[(1,.func (.func fid) #[] cap),(5,.int .i64 (k:Int)),(6,.pointer q)])
  (λk s q w'=>k+s.ht<=t.ht/\TrV N w' s (.pointer q)/\J s w'/\GrN N w w') (λ_ s _=>s.sz) 0 t q sB
  ⟨om,hp.ext G,hx _ _ _ hj G,GrN.ext G⟩ ?_
 rintro k s q2 w2 ⟨hk,hs,a1,a2⟩;refine ρ ?_;cases s with
 | nil=>
  obtain rfl:q2=none:=by have:Value.pointer q2=.pointer none:=hs;injection this
  refine pnn ?_;refine ρ ?_;refine Jj ⟨⟨k,rfl,om⟩,hnil _ a1,a2⟩
 | node l v x r=>
  obtain⟨bn,wn,pl,pr,sn,e,⟨a3,Z⟩,a8,a9,hl,hr⟩:=id hs;obtain rfl:q2=some ⟨bn,0,none⟩:=by injection e
  obtain⟨ql,rfl⟩:=hl.ptr;obtain⟨qr,rfl⟩:=hr.ptr;have a7:l.ht+1<=(Tr.node l v x r).ht:=by simp only[Tr.ht];omega
  have a6:r.ht+1<=(Tr.node l v x r).ht:=by simp only[Tr.ht];omega
  have a5:l.sz<(Tr.node l v x r).sz:=by simp only[Tr.sz];omega
  have a4:r.sz<(Tr.node l v x r).sz:=by simp only[Tr.sz];omega
  refine pnn ?_;refine ρ ?_;refine clv (hcall l v x r _ w2 hs a1) ?_;rintro z w3 ⟨c,rfl,o,k1,k2,k3⟩;have hg:=a2.trans o;have C:=Jy a3 o Z;refine ciR (λO=>?_) (λO=>?_)
  .have O:=oT O;refine ldR (C.at (i:=4) rfl) ?_;refine ρ ?_;exact Qe (k+1) l ql sO ⟨om,hl.gr o,k1 O,hg⟩ om
  have O:=oF O;refine ciR (λj=>?_) (λj=>?_)
  .have j:=oT j;refine ldR (C.at (i:=5) rfl) ?_;refine ρ ?_;exact Qe (k+1) r qr sO ⟨om,hr.gr o,k2 j,hg⟩ om
  have j:=oF j;refine ρ ?_;refine Jj ⟨⟨k+1,rfl,om⟩,k3 om,hg⟩
structure BefB(bT bV bS bF:Nat)(d:Bool)(q:Option Addr)(v:V)(w:World)(sv:Value)(f:Bool): Prop where
 tb:Blk w bT 76 [.bool d,.pointer q]
 vb:Blk w bV 147 v.cells
 sb:Blk w bS 45 [sv]
 fb:Blk w bF 4 [.bool f]
theorem BefB.ext{bT bV bS bF:Nat}{d:Bool}{q:Option Addr}{v:V}{w w':World}{sv:Value}{f:Bool}(h:BefB bT bV bS bF d q v w sv f)(hx:Ext w w'): BefB bT bV bS bF d q v w' sv f :=
 ⟨h.tb.ext hx,h.vb.ext hx,h.sb.ext hx,h.fb.ext hx⟩
def BefJ(bT bV bS bF:Nat)(d:Bool)(q:Option Addr)(v:V)(t:Tr)(s:Tr)(w:World): Prop :=
 ∃ sv m,BefB bT bV bS bF d q v w sv false/\NatX (λk=>k=bS∨k=bF) w sv m/\m+Tr.befT d v s=Tr.befT d v t/\Tr.hasT d v s=Tr.hasT d v t/\m+s.sum<=t.sum
def BefD(bT bV bS bF:Nat)(d:Bool)(q:Option Addr)(v:V)(t:Tr)(w:World): Prop :=
 ∃ sv,BefB bT bV bS bF d q v w sv (Tr.hasT d v t)/\NatX (λk=>k=bS∨k=bF) w sv (Tr.befT d v t)
theorem Xbw{bT bV bS bF:Nat}{q:Option Addr}{v:V}(hne:bT≠bS/\bT≠bF/\bV≠bS/\bV≠bF/\bS≠bF)(hb:Nb t.sum):
  ∀ l a x r u w,TrV (λk=>k=bS∨k=bF) w (.node l a x r) u->BefJ bT bV bS bF d q v t (.node l a x r) w ->
  Ret prog 179 ((#[]:Array Value).toList++[u]++(#[.pointer (some ⟨bT,0,none⟩),.pointer (some ⟨bV,0,none⟩),.pointer (some ⟨bS,0,none⟩),.pointer (some ⟨bF,0,none⟩)]:Array Value).toList) w λz w'=>∃ c,z=.int .i64 c/\GrN (λk=>k=bS∨k=bF) w w'/\(c<0->BefJ bT bV bS bF d q v t l w')/\(0<c->BefJ bT bV bS bF d q v t r w')/\(c=0->BefD bT bV bS bF d q v t w'):=by
 obtain⟨n1,n2,n3,n4,n5⟩:=hne;rintro l a x r u w hs ⟨sv,m,hB,hm,e1,e2,e3⟩;obtain⟨bn,wn,pl,pr,sn,rfl,⟨ae,ak⟩,ax,ba,hl,hr⟩:=id hs;obtain⟨ql,rfl⟩:=hl.ptr;obtain⟨qr,rfl⟩:=hr.ptr;simp only[Tr.sum]at e3;refine enE func179 ntmps179 ?_;refine ρ ?_;have ad:Ext w w.drew:=(Ext.refl w).drew;have av:=hB.ext ad;have aq:=ae.ext ad;refine dr (scq 9 [7]) kr ?_;refine Qf (cs:=[.bool d,.pointer q]) (λj u hu=>av.tb.at hu) ?_;refine Qf (cs:=v.cells) (λj u hu=>av.vb.at hu) ?_;refine Qf (cs:=a.cells) (Blk.pre (cs:=a.cells) aq) ?_;refine Qq (Qyj (a:=v) (b:=a)) ?_;rintro u w1 ⟨rfl,ah⟩;refine⟨ah,?_⟩;refine ρd ?_;have O:=ad.trans ah;have aw:=hB.ext O;have b2:=hm.ext O;refine ciR (λhc=>?_) (λhc=>?_)
 .have hc:=oT hc;refine ρ ?_;refine Jj ⟨neg d (cmpV v a),rfl,GrN.ext O,λ_=>⟨sv,m,aw,b2,?_,?_,om⟩,λh=>om,λh=>om⟩
  .rw[<-e1,Tr.befT,if_pos hc]
  rw[<-e2,Tr.hasT,if_pos hc]
 have hc:=oF hc;have a9:Ext w1 w1.drew:=(Ext.refl w1).drew;have J:=O.trans a9;have au:=ae.ext J;have D:=aw.ext a9;refine ρ ?_;refine drN (λ_=>False) 10 (scq 8 [5,6,107]) kr ?_;refine ρn ?_;refine nld (Jr (D.sb.at (i:=0) rfl) (λe=>e)) ?_;refine ρn ?_;refine nld (Jr (au.at (i:=4) rfl) (λe=>e)) ?_;refine ρn ?_;refine nop ?_;refine cl (Jbd (hl.ext J)) ?_;rintro ul w2 ⟨ay,rfl⟩;refine ρ ?_;refine Ju (GrN.refl _ _) ?_;refine ρn ?_;refine nop ?_;refine cl (Jqk (hm.ext J).1 ay.1 (hb.le om).len (hb.le om).len) ?_;rintro us w3 ⟨aj,b3,a2⟩;refine ρ ?_;refine Ju (GrN.ext a2) ?_;refine ρn ?_;refine Xu ?_;obtain⟨A3,c3,rfl,bc,_⟩:=id aj;refine Vb (D.ext a2).sb ?_ rfl;intro w4 b5 a8 b9;refine ρ ?_;have ag:=D.ext a2;have ai:=J.trans a2;have ap:∀ k,(k=bS∨k=bF)->k<w1.drew.heap.size:=λk G=>G.elim (λe=>by rw[e];exact D.sb.lt) (λe=>by rw[e];exact D.fb.lt)
 have b1:NatX (λk=>k=bS∨k=bF) w3 (.slice A3 (Jq (m+l.sum)).length c3) (m+l.sum):=b3.x aj ap;have a3:GrN (λk=>k=bS∨k=bF) w3 w4:=GrN.by a8 λk G=>.inl (by injection G with G;exact G.symm)
 have am:=b1.gr a3;have a5:BefB bT bV bS bF d q v w4 (.slice A3 (Jq (m+l.sum)).length c3) false:=⟨ag.tb.grown a8 (by simpa using n1),ag.vb.grown a8 (by simpa using n3),b5,ag.fb.grown a8 (by simpa using n5.symm)⟩;have Z:GrN (λk=>k=bS∨k=bF) w w4:=(GrN.ext ai).trans a3;refine ci (λC=>?_) (λC=>?_)
 .have C:neg d (cmpV v a)=0:=Zv C;refine ρ ?_;refine Vb a5.fb ?_ rfl;intro w5 b6 a7 a1;refine ρ ?_;have ac:GrN (λk=>k=bS∨k=bF) w4 w5:=GrN.by a7 λk G=>.inr (by injection G with G;exact G.symm)
  refine Jj ⟨0,rfl,Z.trans ac,λh=>om,λh=>om,λ_=>⟨_,⟨a5.tb.grown a7 (by simpa using n2),a5.vb.grown a7 (by simpa using n4),a5.sb.grown a7 (by simpa using n5),?_⟩,?_⟩⟩
  .rw[<-e2,Tr.hasT,if_neg hc,if_pos C];exact b6
  rw[<-e1,Tr.befT,if_neg hc,if_pos C];exact am.gr ac
 have C:neg d (cmpV v a)≠0:=Zz C;have o:Ext w4 w4.drew:=(Ext.refl w4).drew;have a4:=a5.ext o;have ar:=(Jy ae Z ak).ext o;refine ρ ?_;refine drN (λ_=>False) 10 (scq 8 [6,107]) kr ?_;refine ρn ?_;refine nld (Jr (a4.sb.at (i:=0) rfl) (λe=>e)) ?_;refine ρn ?_;refine nld (Jr (ar.at (i:=3) rfl) (λe=>e)) ?_;refine ρn ?_;refine nop ?_;refine cl (Jqk (am.ext o).1 ((ax.gr Z).ext o).1 (hb.le om).len (hb.le om).len) ?_;rintro b7 w5 ⟨aa,ao,a1⟩;refine ρ ?_;refine Ju (GrN.ext a1) ?_;refine ρn ?_;refine Xu ?_;obtain⟨A5,c5,rfl,bb,_⟩:=id aa;refine Vb (a4.ext a1).sb ?_ rfl;intro w6 b4 a6 b8;refine ρ ?_;have af:=a4.ext a1;have az:NatX (λk=>k=bS∨k=bF) w5 (.slice A5 (Jq (m+l.sum+x)).length c5) (m+l.sum+x):=ao.x aa λk G=>nM (ap k G) (nL a2.size (a3.trans (GrN.ext o)).size);have ab:GrN (λk=>k=bS∨k=bF) w5 w6:=GrN.by a6 λk G=>.inl (by injection G with G;exact G.symm)
 have an:GrN (λk=>k=bS∨k=bF) w w6:=((Z.trans (GrN.ext o)).trans (GrN.ext a1)).trans ab;refine Jj ⟨neg d (cmpV v a),rfl,an,λh=>om,λh=>⟨_,m+l.sum+x,⟨af.tb.grown a6 (by simpa using n1),af.vb.grown a6 (by simpa using n3),b4,af.fb.grown a6 (by simpa using n5.symm)⟩,az.gr ab,?_,?_,om⟩,λh=>om⟩
 .rw[<-e1,Tr.befT,if_neg hc,if_neg C];omega
 rw[<-e2,Tr.hasT,if_neg hc,if_neg C]
end Go.Proofs.YtgobkbeokaaplaaGreatDoor
namespace Go.Wk
end Go.Wk
namespace Go.Proofs.YtgobkbeokaaplaaGreatDoor
open Go.RowKit Pl Go.Wk
attribute [local irreducible] WC WL QX WD WDB WP WN WG
theorem zNat: Qu Tryz.prog 45=some (.slice none 0 0):=kr
theorem Jpp: Qu Tryz.prog 4=some (.bool false):=kr
theorem Xbt{N:Nat->Prop}{w:World}{d:Bool}{p:Value}{t:Tr}{v:V}(h:TrV N w t p)(hb:Nb t.sum)(hs:t.sz<=1000000):
  Ret Tryz.prog 141 [.agg #[.bool d,p],v.val] w λu w'=>∃ sv,∃ k:Nat,u=.tuple #[sv,.bool (Tr.hasT d v t),.int .i64 (k:Int)]/\k<=t.ht/\NatV w' sv (Tr.befT d v t)/\Ext w w':=by
 obtain⟨q,rfl⟩:=h.ptr;refine enE Tryz.func141 Tryz.ntmps141 ?_;refine bxR ?_;intro w1 bT a9 au hT;refine bxR (cs:=v.cells) ?_;intro w2 bV a7 ar hV;refine Jw zNat ?_;intro w3 O o av hS;refine Jw Jpp ?_;intro w4 Z a8 af hF;refine ρ ?_;refine Vb hF ?_ rfl;intro w5 ai aq ac;have lT:=hT.lt;have lV:=hV.lt;have lS:=hS.lt;have an:=a7.size;have am:=o.size;have ak:=a8.size;have nT:bT≠O/\bT≠Z/\bV≠O/\bV≠Z/\O≠Z:=by grind
 obtain⟨n1,n2,n3,n4,n5⟩:=nT;have j:Ext w3 w5:=ac w3 a8 af;have C:Ext w w5:=((a9.trans a7).trans o).trans j;have ab:=((hT.ext a7).ext o).ext j;have ag:=(hV.ext o).ext j;have ah:=hS.ext j;have ao:=a9.size;have hN:TrV (λk=>k=O∨k=Z) w5 t (.pointer q):=(h.old (N':=λk=>k=O∨k=Z) λk hk=>.inr (by grind)).ext C;have ap:=Tr.ht_le t;refine Ja ab ?_;refine clR (Jrq (N:=λk=>k=O∨k=Z) (J:=BefJ bT bV O Z d q v t) (D:=BefD bT bV O Z d q v t) hN ⟨_,0,⟨ab,ag,ah,ai⟩,NatX.nil _,om,rfl,om⟩ om ?_ ?_ (Xbw ⟨n1,n2,n3,n4,n5⟩ hb)) ?_
 .rintro s w w' ⟨sv,m,a1,a2,a3,a4,a5⟩ hx;exact⟨sv,m,a1.ext hx,a2.ext hx,a3,a4,a5⟩
 .rintro w ⟨sv,m,a1,a2,a3,a4,a5⟩;simp only[Tr.befT,Tr.hasT,Nat.add_zero]at a3 a4;refine⟨sv,?_,?_⟩;repeat grind
 rintro z w6 ⟨⟨k,rfl,hk⟩,⟨sv,aj,ad⟩,ae⟩;have aa:Ext w w6:=ae.old C λk hk=>by grind
 have a6:Ext w6 w6.drew:=(Ext.refl w6).drew;have G:=aj.ext a6;refine drR (scq 6 []) ?_;refine Jz (G.sb.at (i:=0) rfl) ?_;refine Jz (G.fb.at (i:=0) rfl) ?_;refine ρd ?_;refine ρ ?_;exact Jvs ⟨sv,k,rfl,hk,(ad.ext a6).1,aa.trans a6⟩
structure FndB(bS bK bV bR:Nat)(w:World)(sv kv:Value)(v:V): Prop where
 sb:Blk w bS 45 [sv]
 kb:Blk w bK 45 [kv]
 vb:Blk w bV 147 v.cells
 rb:Blk w bR 147 V0.cells
theorem FndB.ext{bS bK bV bR:Nat}{w w':World}{sv kv:Value}{v:V}(h:FndB bS bK bV bR w sv kv v)(hx:Ext w w'): FndB bS bK bV bR w' sv kv v:=⟨h.sb.ext hx,h.kb.ext hx,h.vb.ext hx,h.rb.ext hx⟩
end Go.Proofs.YtgobkbeokaaplaaGreatDoor
namespace Go.Wk
open Maps
variable {d n ty:Nat}
theorem dmlk{P:Program}{al:AL}{w:World}{Q:Exit->Act->World->Prop}{ops:Array Oper}{drest:List (Nat×Oper)}{pos:String}{aft:Array Edge}{tt:TT}[hT:Tab P tt]{t k e b m:Nat}{kd:TK}{f:Lit->Option Value}{x y:Operand}{key z:Value}{kl:Lit}(K:Keyed P k)(hM:MapS P k w b m f)(hz:Qu P e=some z)(hkey:keyOf P k key=some kl)(kk:WD P n ops Q drest ((d,(f kl).getD z)::al) w)(ht:tk tt t=some kd:=by rfl)(hk:kd.desc=.map k e:=by rfl)(hx:ev al x=some (.map (some b)):=by rfl)(hy:ev al y=some key:=by rfl)(hd:Nat.blt d n=true:=by rfl):
  WD P n ops Q ((0,⟨some d,.lookup t x y false,ty,pos,aft,none⟩)::drest) al w :=
 dy (λw' j a i=>by
  have:=((hM.ext j).look K (Yc hT.ok ht hk rfl) (Jgt hz w') hkey).2;simp[execOp,i.ev hx,i.ev hy,this]) hd kk
end Go.Wk
namespace Go.Proofs.YtgobkbeokaaplaaGreatDoor
open Go.RowKit Pl Go.Wk _root_.Go.Proofs.Tryz
attribute [local irreducible] WC WL QX WD WDB WP WN WG
variable {chs l:List (Nat×List Nat)}{cs ta va:List Value}{B0 b c cv f k n:Nat}{T:Nat->Row->Nat}{A VA:Option Addr}{r x:Row}{u vch vx:Value}{w w':World}
theorem Ga(hx:Ext w w'){p:Addr}(h:w.cell? p=some u): w'.cell? p=some u:=by
 have i:p.block<w.heap.size:=by
  rcases Nat.lt_or_ge p.block w.heap.size with h1|h1
  .exact h1
  unfold World.cell? at h;rw[Array.getElem?_eq_none h1]at h;simp at h
 rw[hx.cell i];exact h
theorem KS: Maps.Keyed prog 9:=Maps.string_keyed underlying9
def FitR(r:Row): Prop:=r.length<=32/\∀ v∈r,Xs v/\v.bytes.length<=24
theorem FitR.len(h:FitR r): (idn r).length<=2880:=by have:=Qwc h.2;have:=h.1;omega
theorem FitR.pm{cs:List Nat}(h:FitR r)(hc:∀ c∈cs,c<r.length)(hl:cs.length<=32): FitR (pmR cs r) :=
 ⟨by rw[Xc];exact hl,λv i=>by
  obtain⟨c,j,rfl⟩:=List.mem_map.1 i;exact h.2 _ (getD_mem' V0 r (hc c j))⟩
theorem Kw(h:FitR r): keyOf prog 9 (.string (str (idn r)))=some (.string (idn r)) :=
 WideMaps.keyOf_string_mk underlying9 (by have:=h.len;show(idn r).toArray.size<=maxLen;rw[List.size_toArray];unfold maxLen;omega)
def ChG(w:World)(cs:List Value)(p:Nat×List Nat): Prop:=∃ A c,cs=[.int .i64 (p.1:Int),.slice A p.2.length c]/\p.2.length<=c/\p.2.length<=32/\Rd w 1 A p.2.length (Jt (nz p.2))
theorem ChG.ext{w w':World}{cs:List Value}{p:Nat×List Nat}(h:ChG w cs p)(hx:Ext w w'): ChG w' cs p:=by
 obtain⟨A,c,u,o,j,i⟩:=h;exact⟨A,c,u,o,j,i.ext hx⟩
def DnV(AR:Nat->Prop)(T:Row->Nat)(w:World)(x:Value): Prop:=∃ mb m fm,x=.map (some mb)/\m<=1000000/\(MapS prog 9 w mb m fm/\¬ AR mb)/\(∀ k:Row,fm (.string (idn k))=if 0<T k then some (.bool true) else none)/\∀ kl,fm kl≠none->∃ k:Row,kl=.string (idn k)
def DnT(AR:Nat->Prop)(T:Row->Nat)(w:World)(x:Value): Prop:=∃ mb m fm,x=.map (some mb)/\m<=1000000/\(MapS prog 9 w mb m fm/\¬ AR mb)/\∀ k:Row,(fm (.string (idn k))=none/\T k=0)∨∃ y,fm (.string (idn k))=some y/\0<T k/\NatX AR w y (T k)
theorem DnV.gr{AR:Nat->Prop}{T:Row->Nat}{w w':World}{x:Value}(h:DnV AR T w x)(hg:GrN AR w w'): DnV AR T w' x:=by
 obtain⟨j,m,fm,D,C,⟨u,i⟩,o⟩:=h;exact⟨j,m,fm,D,C,⟨u.gr hg i,i⟩,o⟩
theorem DnT.gr{AR:Nat->Prop}{T:Row->Nat}{w w':World}{x:Value}(h:DnT AR T w x)(hg:GrN AR w w'): DnT AR T w' x:=by
 obtain⟨j,m,fm,D,C,⟨u,i⟩,o⟩:=h;refine⟨j,m,fm,D,C,⟨u.gr hg i,i⟩,λk=>?_⟩;rcases o k with h6|⟨y,h6,h7,h8⟩
 .exact .inl h6
 exact .inr ⟨y,h6,h7,h8.gr hg⟩
def wtL(T:Nat->Row->Nat)(x:Row): List (Nat×List Nat)->Nat
 | []=>1
 | p::l=>T p.1 (pmR p.2 x)*wtL T x l
theorem Jkn(T:Nat->Row->Nat)(x:Row): ∀ l m,wtL T x (l++m)=wtL T x l*wtL T x m
 | [],m=>by rw[List.nil_append,wtL,Nat.one_mul]
 | p::l,m=>by rw[List.cons_append,wtL,wtL,Jkn T x l m,Nat.mul_assoc]
theorem Qfl{p:Nat×List Nat}(hp:p∈l)(h0:T p.1 (pmR p.2 x)=0): wtL T x l=0:=by
 obtain⟨a,b,rfl⟩:=List.append_of_mem hp;rw[Jkn,wtL,h0,Nat.zero_mul,Nat.mul_zero]
theorem Jfn{T:Nat->Row->Nat}{x:Row}: ∀ {l:List (Nat×List Nat)},(∀ p∈l,T p.1 (pmR p.2 x)<=4294967296^20)->wtL T x l<=(4294967296^20)^l.length
 | [],_=>by simp[wtL]
 | p::l,h=>by
  rw[wtL,List.length_cons,Nat.pow_succ,Nat.mul_comm];exact Nat.mul_le_mul (Jfn λq hq=>h q (List.mem_cons_of_mem _ hq)) (h p mC)
theorem Nb.pow(h:n<=(4294967296^20)^k)(hk:k<=32): Nb n:=by
 refine Nat.lt_of_le_of_lt h ?_;rw[<-Nat.pow_mul];exact Nat.pow_lt_pow_right (by decide) (by rw[Jnv];omega)
theorem Qfg: Qu prog 271=some (.agg #[.int .i64 0,.slice none 0 0]):=kr
theorem Qtf{a:Int}: ∀ u∈[Value.int .i64 a,.slice A n c],u.oneCell'=true:=λu i=>by
 simp only[List.mem_cons,List.not_mem_nil,or_false]at i;rcases i with rfl|rfl<;>rfl
theorem Jwr(n:Nat)(h:n<18446744073709551616)(w:World): Ret prog 28 [.int .u64 (n:Int)] w λv w'=>NatV w' v n/\Fresh w v/\Ext w w':=by
 refine enE func28 ntmps28 ?_;refine ρ ?_;refine Uf rfl rfl (by decide) rfl ?_;refine Qb (bsN _ _) ?_;intro u b j C i;rw[Ih,u32hi]at i;have o:Rd u 1 (some ⟨b,0,none⟩) 2 (Nc [UInt32.ofNat n,UInt32.ofNat (n / 4294967296)]):=i.rd rfl;refine clR (Jks (l:=[UInt32.ofNat n,UInt32.ofNat (n / 4294967296)]) (c:=2) o (nR _) (by simp)) ?_;rintro v D ⟨rfl,rfl⟩;have:=Jbc o (by simp);rw[Qgq n h]at this ⊢;refine ρ ?_;exact Jj ⟨this,λG _ _ e=>by grind,j⟩
theorem Jrm{AR:Nat->Prop}{TA:Option Addr}{ct:Nat}(hTB:TB B0 w)(hB:Blk w b 159 cs)(c1:cs[1]?=some (.int .i64 (f:Int)))(c7:cs[7]?=some (.slice VA n cv))(c8:cs[8]?=some (.slice TA n ct))(hV:Rd w 1 VA n va)(hTa:Rd w 1 TA n ta)(hch:GV 2 ChG w vch chs)(hlen:chs.length<=32)(hn:∀ p∈chs,p.1<n/\∀ c∈p.2,c<x.length)(hx:RowV w vx x)(hfit:FitR x)(hdv:∀ p∈chs,f<=p.1->DnV AR (T p.1) w (va.getD p.1 (.map none)))(hdt:∀ p∈chs,p.1<f->DnT AR (T p.1) w (ta.getD p.1 (.map none)))(hT1:∀ p∈chs,f<=p.1->∀ k,T p.1 k<=1)(hTb:∀ p∈chs,∀ k,T p.1 k<=4294967296^20):
  Ret prog 128 [.pointer (some ⟨b,0,none⟩),vch,vx] w λu w'=>NatV w' u (wtL T x chs)/\Fresh w u/\Ext w w':=by
 obtain⟨A,c,cc,rfl,bf,be,b4,b3⟩:=hch.parts;refine enE func128 ntmps128 ?_;refine clR (Jwr 1 (by decide) _) ?_;rintro vp w1 ⟨au,b2,aq⟩;refine ρ ?_;refine Jo (fun (i:Nat) (vp:Value)=>[(0,.pointer (some ⟨b,0,none⟩)),(2,vx),(7,vp),(12,.slice A chs.length c),(13,.int .i64 (chs.length:Int)),(14,.int .i64 (i:Int))])
  (λi vp w'=>i<=chs.length/\Ext w w'/\NatV w' vp (wtL T x (chs.take i))/\Fresh w vp) (λi _=>chs.length-i) 0 vp sB
  ⟨Nat.zero_le _,aq,by rw[List.take_zero];exact au,b2⟩ ?_
 rintro i vp w2 ⟨hi,ab,a5,aj⟩;refine ciR (λh=>?_) (λh=>?_)
 .have li:i<chs.length:=by have:=oT h;omega
  clear h;obtain⟨ce,bd,⟨CA,cC,rfl,b5,a9,am⟩,af⟩:=b3 i li;have G:chs[i]∈chs:=List.getElem_mem li;have ae:wtL T x (chs.take (i+1))=wtL T x (chs.take i)*T chs[i].1 (pmR chs[i].2 x):=by
   rw[List.take_succ_eq_append_getElem li,Jkn,wtL,wtL,Nat.mul_one]
  have aw:wtL T x (chs.take i)<=(4294967296^20)^i:=by
   have:=Jfn (T:=T) (x:=x) (l:=chs.take i) λp hp=>hTb p (List.mem_of_mem_take hp) _;grind
  have av:Nb (wtL T x (chs.take i)):=Nb.pow aw om;have ak:Nb (T chs[i].1 (pmR chs[i].2 x)):=Nb.pow (k:=1) (by grind) om;generalize hq:chs[i]=q at *
  obtain⟨ch,C⟩:=q;simp only at b5 a9 am af ae ak;have a3:=hn _ G;simp only at a3;refine Qp 2 i (b4.ext ab) li ?_;refine ρ ?_;have a6:∀ j u,([.int .i64 (ch:Int),.slice CA C.length cC]:List Value)[j]?=some u->w2.cell? ((adr A (i*2)).add j)=some u:=by grind [Ga]
  refine lds (cs:=[.int .i64 (ch:Int),.slice CA C.length cC]) a6 ?_;refine Jw Qfg ?_;intro w3 bc ap b6 b8;refine Qg b8 ?_;intro w4 J bb ao;have a1:Ext w2 w4:=ao w2 ap b6;have a2:=ab.trans a1;refine ldR (J.at (i:=1) rfl) ?_;refine clR (Qqt (cs:=C) (hx.ext a2) (am.ext a2) a3.2 om) ?_;rintro vk w5 ⟨ay,Z⟩;have a8:=a2.trans Z;have a4:FitR (pmR C x):=hfit.pm a3.2 a9;obtain⟨KA,kc,rfl,ba,b9,ax⟩:=id ay;refine clR (Jzn (r:=pmR C x) (hTB.ext a8) ax (λv hv=>(a4.2 v hv).1) (by have:=a4.len;omega) (by have:=a4.1;omega)) ?_;rintro u w6 ⟨rfl,O⟩;have a7:=a8.trans O;have aa:Ext w6 w6.drew:=(Ext.refl w6).drew;have an:=((J.ext Z).ext O).ext aa;have b7:=hB.ext (a7.trans aa);refine drR (scq 8 []) ?_;refine Jz (an.at (i:=0) rfl) ?_;refine Jz (b7.at (i:=1) c1) ?_;refine ρd ?_;refine ρ ?_;have D:Ext w6 w6.drew.drew:=aa.drew;have o:=a7.trans D;refine ci (λh=>?_) (λh=>?_)
  .have lf:ch<f:=by have:=oT h;omega
   obtain⟨mb,m,fm,e1,e2,⟨e3,e4⟩,e5⟩:=hdt _ G lf;simp only at e1 e5;have ac:ta[ch]?=some (.map (some mb)):=by grind
   refine drR (scq 13 [11]) ?_;refine Jz ((hB.ext o).at (i:=8) c8) ?_;refine Jz ((((J.ext Z).ext O).ext D).at (i:=0) rfl) ?_;refine Jd ch (hTa.ext o) a3.1 ?_;refine Jz ((hTa.ext o).cell ac) ?_;refine ρd ?_;refine dmlk KS (e3.ext o) zNat (Kw a4) ?_;have ah:NatV w6.drew.drew ((fm (.string (idn (pmR C x)))).getD (.slice none 0 0)) (T ch (pmR C x)):=by
    rcases e5 (pmR C x) with⟨h6,h7⟩|⟨y,h6,h7,h8⟩
    .rw[h6,h7];exact NatV.nil _
    rw[h6];exact h8.1.ext o
   refine Qq (Jcd (a5.ext ((a1.trans Z).trans O |>.trans D)) ah av.len ak.len) ?_;rintro vr w7 ⟨ar,ai,ag⟩;refine⟨ag,?_⟩;refine ρd ?_;refine ρ ?_;refine Jf (i+1) vr sO ⟨li,o.trans ag,?_,λad m c e=>nL o.size (ai ad m c e)⟩ om;rw[ae];exact ar
  have lf:f<=ch:=by have:=oF h;omega
  obtain⟨mb,m,fm,e1,e2,⟨e3,e4⟩,e5,e6⟩:=hdv _ G lf;simp only at e1 e5;have ac:va[ch]?=some (.map (some mb)):=by grind
  refine drR (scq 11 []) ?_;refine Jz ((hB.ext o).at (i:=7) c7) ?_;refine Jz ((((J.ext Z).ext O).ext D).at (i:=0) rfl) ?_;refine Jd ch (hV.ext o) a3.1 ?_;refine Jz ((hV.ext o).cell ac) ?_;refine ρd ?_;refine dmlk KS (e3.ext o) Jpp (Kw a4) ?_;rw[e5];by_cases h0:0<T ch (pmR C x)
  .rw[if_pos h0];have h1:=hT1 _ G lf (pmR C x);simp only at h1;refine ρd ?_;refine ρ ?_;refine Jf (i+1) vp sO ⟨li,o,?_,aj⟩ om;rw[ae,show T ch (pmR C x)=1 by omega,Nat.mul_one];exact a5.ext ((a1.trans Z).trans O |>.trans D)
  rw[if_neg h0];refine ρd ?_;refine ρ ?_;have b1:Fresh w (.slice none 0 0):=λad m c e=>by cases e
  refine Jj ⟨?_,b1,o⟩;grind [Qfl,pmR,NatV.nil]
 have az:i=chs.length:=by grind
 rw[az,List.take_length]at a5;refine ρ ?_;exact Jj ⟨a5,aj,ab⟩
open Go.RowKit Pl Go.Wk _root_.Go.Proofs.Tryz
def chK(kf:Nat->Nat)(pf:Nat->Int)(v k:Nat): List (Nat×List Nat):=((List.range k).filter λc=>decide (pf c=(v:Int))).map λc=>(c,Xw (bk (kf v ||| 2^v) 32) (kf c))
theorem Jdn(kf:Nat->Nat)(pf:Nat->Int)(v k:Nat): chK kf pf v (k+1)=chK kf pf v k++if pf k=(v:Int) then[(k,Xw (bk (kf v ||| 2^v) 32) (kf k))] else[]:=by
 unfold chK;rw[List.range_succ,List.filter_append,List.map_append];grind
theorem Jkc(kf:Nat->Nat)(pf:Nat->Int)(v k:Nat): (chK kf pf v k).length<=k:=by grind [chK,List.length_map,List.length_filter_le,List.range,List.length_range]
theorem Jnb(vars:List Nat)(s:Nat): (Xw vars s).length<=vars.length:=by
 have:=List.length_filter_le (λi=>s.testBit (vars.getD i 0)) (List.range vars.length);rw[List.length_range]at this;exact this
theorem EC: ElT prog 214 271 2 32 (.agg #[.int .i64 0,.slice none 0 0]):=⟨underlying214,info_parts kr,rfl,by decide⟩
theorem Xbj(z:Int)(v:Value)(A:Option Addr)(n c:Nat)(h:v=.slice A n c)(w:World): (Instr.build 271 #[(0,.int .i64 z),(1,v)]).run prog w=.ok (.agg [.int .i64 z,v].toArray) w:=by subst h;kernel_rfl
theorem Xyf(z:Int)(v:Value)(A:Option Addr)(n c:Nat)(h:v=.slice A n c)(w:World): (Instr.buildSlice 214 1 #[(0,.agg [.int .i64 z,v].toArray)]).run prog w=.ok (.slice (some ⟨w.heap.size,0,none⟩) 1 1) (w.alloc (.cells [.int .i64 z,v].toArray 271)):=by subst h;kernel_rfl
theorem Qbf{w:World}{b n v cb:Nat}{cs:List Value}{BA:Option Addr}{vR:Value}{kf:Nat->Nat}{pf:Nat->Int}{R:Nat->List Row}(hB:Blk w b 159 cs)(c5:cs[5]?=some (.slice BA n cb))(c6:cs[6]?=some vR)(hBags:Rd w 3 BA n (Qy n (Xq kf pf)))(hR:GV 3 AtG w vR ((List.range n).map λv=>Yu (kf v ||| 2^v) (R v)))(hn:n<=32)(hv:v<n)(hk:∀ v,v<n->kf v<4294967296):
  Ret prog 125 [.pointer (some ⟨b,0,none⟩),.int .i64 (v:Int)] w λu w'=>OwnG 271 2 ChG w' w.heap.size u (chK kf pf v n)/\Ext w w':=by
 obtain⟨RA,rc,an,rfl,ad,ac,a8,ai⟩:=hR.parts;rw[List.length_map,List.length_range]at c6 ad ac a8;obtain⟨re,am,⟨t,rfl,a9⟩,O⟩:=ai v (by simpa using hv);simp only[List.getElem_map,List.getElem_range]at a9;obtain⟨⟨PA,pc,aa,ap,ao,ae⟩,az,ab⟩:=id a9;obtain⟨t1,t2,t3⟩:=t;simp only[Yu]at aa;subst aa;have a5:(nz (bk (kf v ||| 2^v) 32)).length=(bk (kf v ||| 2^v) 32).length:=Qk _;refine enE func125 ntmps125 ?_;refine ldR (hB.at (i:=5) c5) ?_;refine ρ ?_;refine Jo (fun (k:Nat) (vl:Value)=>[(0,.pointer (some ⟨b,0,none⟩)),(1,.int .i64 (v:Int)),(5,vl),(11,.int .i64 (n:Int)),(12,.int .i64 (k:Int))])
  (λk vl w'=>k<=n/\Ext w w'/\OwnG 271 2 ChG w' w.heap.size vl (chK kf pf v k)) (λk _=>n-k) 0 (.slice none 0 0) sB
  ⟨Nat.zero_le _,Ext.refl _,OwnG.nil _ _⟩ ?_
 rintro k vl w1 ⟨au,C,Z⟩;refine ciR (λh=>?_) (λh=>?_)
 .have lk:k<n:=by have:=oT h;omega
  clear h;have ak:=hB.ext C;have G:∀ {w'} (hx:Ext w w') j u,(Xq kf pf k)[j]?=some u->w'.cell? ((adr BA (k*3)).add j)=some u:=λhx j u hu=>by
   have hj:j<3:=by grind [Nat.lt_or_ge,List.getElem?_eq_none,Xq]
   rw[Xv];exact(hBags.ext hx).cell ((Yk (sz:=3) (λ_ _=>rfl) lk hj).trans hu)
  refine ldR (ak.at (i:=5) c5) ?_;refine Qp 3 k (hBags.ext C) lk ?_;refine ldR (G C 2 _ rfl) ?_;refine ciR (λh=>?_) (λh=>?_)
  .have hp:pf k=(v:Int):=Zv h;have a1:Ext w1 w1.drew:=(Ext.refl w1).drew;have o:=C.trans a1;have ay:=hB.ext o;obtain⟨LA,lc,b1,ar,a3⟩:=Z.form;refine ρ ?_;refine drN (λk=>w.heap.size<=k) 10 (scq 23 [18,20,21]) kr ?_;have av:¬ w.heap.size<=b:=by have:=hB.lt;omega
   have D:∀ {p:Addr} {u:Value},w.cell? p=some u->∀ w',GrN (λk=>w.heap.size<=k) w1.drew w'->w'.cell? p=some u:=fun {p u} h w' hg=>
    Ga ((hg.old o λk hk=>hk)) h
   refine ρn ?_;refine nld (D (hB.at (i:=6) c6)) ?_;refine ρn ?_;refine Uy 3 v (a8.ext o) hv ?_;refine ρn ?_;refine nld (D (O 0 _ rfl)) ?_;refine ρn ?_;refine nld (D (hB.at (i:=5) c5)) ?_;refine ρn ?_;refine Uy 3 k (hBags.ext o) lk ?_;refine ρn ?_;refine nld (D (G (Ext.refl w) 1 _ rfl)) ?_;refine ρn ?_;refine nop ?_;rw[a5];refine cl (Qyd (vars:=bk (kf v ||| 2^v) 32) (a5 ▸ ae.ext o) (hk k lk) (λu hu=>(bk_mem.1 hu).1) (Yo _ _)) ?_;rintro uc w2 ⟨a7,a4⟩;refine ρ ?_;refine Ju (GrN.ext a4) ?_;obtain⟨CA,cc,rfl,ah,ag⟩:=Jb a7;refine ρn ?_;refine Jjb (Xbj _ _ CA _ cc rfl) ?_;refine ρn ?_;refine nop ?_;refine bsl (Xyf _ _ CA _ cc rfl) ?_;intro w3 b3 a2 aw aj;refine ρ ?_;refine Ju (GrN.ext a2) ?_;refine ρn ?_;refine nop ?_;have J:Ext w1 w3:=(a1.trans a4).trans a2;have hΦ:Off (Xf w.heap.size vl) w3 (λu=>ChG u [.int .i64 (k:Int),.slice CA (Xw (bk (kf v ||| 2^v) 32) (kf k)).length cc] (k,Xw (bk (kf v ||| 2^v) 32) (kf k))):=by
    have h1:=Jxx (Jk a7 a2) (N:=Xf w.heap.size vl) λg eg hN=>by
     have:=(ag g eg).1;rcases hN with h'|h'
     .have:=o.size;omega
     have:=(a3 g h').2;have:=a1.size;omega
    refine h1.imp λu h=>⟨CA,cc,rfl,ah,?_,Rd.own h⟩;grind [Nat.le_trans,Jnb,bk,kf,Yo]
   refine apG EC (Φ:=ChG) (Z.ext J) aj rfl Qtf hΦ (by grind [Jkc,kf]) om (C.trans J).size ?_;intro v4 w4 ax a6 aq;refine ρ ?_;refine Ju (GrN.by a6 λg eg=>(a3 g eg).1) ?_;refine ρn ?_;refine ρ ?_;refine Jf (k+1) v4 sO ⟨lk,Qa (C.trans J) a6 (λg eg=>(a3 g eg).1),?_⟩ om;grind [Jdn]
  have hp:pf k≠(v:Int):=Zz h;refine ρ ?_;refine Jf (k+1) vl sO ⟨lk,C,?_⟩ om;grind [Jdn]
 have af:k=n:=by grind
 rw[af]at Z;refine ρ ?_;exact Jj ⟨Z,C⟩
open Go.RowKit Pl Go.Wk
variable {cols:List Nat}{rows:List Row}{cs ta va:List Value}{b cv n:Nat}{pf:Nat->Int}{BA VA:Option Addr}{k:Row}{W:Row->Nat}{w w' wF:World}
structure FixW(B0 n f:Nat)(kf:Nat->Nat)(pf:Nat->Int)(R:Nat->List Row)(vR:Value)(BA:Option Addr)(wF:World): Prop where
 tb:TB B0 wF
 bags:Rd wF 3 BA n (Qy n (Xq kf pf))
 rels:GV 3 AtG wF vR ((List.range n).map λv=>Yu (kf v ||| 2^v) (R v))
 n32:n<=32
 fn:f<=n
 kb:∀ v,v<n->kf v<4294967296
 pn:∀ c,c<n->pf c≠(c:Int)
 rows:∀ v,v<n->∀ x∈R v,x.length=(bk (kf v ||| 2^v) 32).length/\FitR x
 rlen:∀ v,v<n->(R v).length<=65536
def bCs(n f:Nat)(Dv Pv Av:Value)(BA:Option Addr)(cb:Nat)(vR:Value)(VA:Option Addr)(cv:Nat)(TA:Option Addr)(ct:Nat)(Kv:Value): List Value :=
 [.int .i64 (n:Int),.int .i64 (f:Int),Dv,Pv,Av,.slice BA n cb,vR,.slice VA n cv,.slice TA n ct,Kv]
def ARk(n f:Nat)(VA:Option Addr)(cv:Nat)(TA:Option Addr)(ct:Nat)(Kv:Value)(k:Nat): Prop:=(Value.slice VA n cv).ownBlock=some k∨(Value.slice TA n ct).ownBlock=some k∨Kv.ownBlock=some k
structure BldW(wF:World)(b n:Nat)(cs:List Value)(VA:Option Addr)(cv:Nat)(TA:Option Addr)(ct:Nat)(w:World)(va ta:List Value): Prop where
 ext:Ext wF w
 blk:Blk w b 159 cs
 va:w.ownsRow wF.heap.size 213 1 (.slice VA n cv) n va
 ta:w.ownsRow wF.heap.size 221 1 (.slice TA n ct) n ta
theorem BldW.ext'{TA:Option Addr}{ct:Nat}(h:BldW wF b n cs VA cv TA ct w va ta)(hx:Ext w w'): BldW wF b n cs VA cv TA ct w' va ta :=
 ⟨h.ext.trans hx,h.blk.ext hx,Jk h.va hx,Jk h.ta hx⟩
def Vq(kf:Nat->Nat)(v:Nat): List Nat:=Xw (bk (kf v ||| 2^v) 32) (kf v)
open Classical in
noncomputable def Uo (rows:List Row) (cols:List Nat) (W:Row->Nat) (k:Row):Nat:=if ∃ x∈rows,0<W x/\pmR cols x=k then 1 else 0
theorem redT_pos: 0<Uo rows cols W k↔∃ x∈rows,0<W x/\pmR cols x=k:=by
 unfold Uo;split
 repeat grind
theorem Qjv: Uo rows cols W k<=1:=by
 unfold Uo;split<;>omega
theorem Jnw{a:Atm}(h:AtG w cs a)(hx:Ext w w'): AtG w' cs a:=by
 obtain⟨t,e,i⟩:=h;exact⟨t,e,i.ext hx⟩
theorem Jqm{kf:Nat->Nat}{v:Nat}{p:Nat×List Nat}(h:p∈chK kf pf v n): p.1<n/\pf p.1=(v:Int)/\p.2=Xw (bk (kf v ||| 2^v) 32) (kf p.1):=by
 obtain⟨c,i,rfl⟩:=List.mem_map.1 h;grind
theorem Jlm{v:Value}(h:NatV w v n): ∃ A c,v=.slice A (Jq n).length c/\(0<(Jq n).length↔0<n):=by
 obtain⟨A,c,e,_⟩:=h;grind [Nat.pos_of_ne_zero,Qzj,limbs_pos']
theorem Qpg{B0 f v cb ct:Nat}{kf:Nat->Nat}{R:Nat->List Row}{vR Dv Pv Av Kv:Value}{TA:Option Addr}{T:Nat->Row->Nat}{AR:Nat->Prop}(hF:FixW B0 n f kf pf R vR BA wF)(hW:BldW wF b n (bCs n f Dv Pv Av BA cb vR VA cv TA ct Kv) VA cv TA ct w va ta)(hv:v<n)(hdv:∀ c,c<n->pf c=(v:Int)->f<=c->DnV AR (T c) w (va.getD c (.map none)))(hdt:∀ c,c<n->pf c=(v:Int)->c<f->DnT AR (T c) w (ta.getD c (.map none)))(hT1:∀ c,f<=c->∀ k,T c k<=1)(hTb:∀ c k,T c k<=4294967296^20)(hAR:∀ k,ARk n f VA cv TA ct Kv k->AR k)(hARl:∀ k,AR k->k<w.heap.size):
  Ret Tryz.prog 75 [.pointer (some ⟨b,0,none⟩),.int .i64 (v:Int)] w λu w'=>u=.tuple #[]/\∃ mv,BldW wF b n (bCs n f Dv Pv Av BA cb vR VA cv TA ct Kv) VA cv TA ct w' (va.set v mv) ta/\GrN (λk=>(Value.slice VA n cv).ownBlock=some k) w w' /\
   DnV AR (Uo (R v) (Vq kf v) λx=>wtL T x (chK kf pf v n)) w' mv:=by
 obtain⟨bh,hB,a7,c4⟩:=hW;have bn:=hF.n32;refine enE Tryz.func75 Tryz.ntmps75 ?_;refine ldR (hB.at (i:=7) rfl) ?_;refine ρ ?_;refine mkm 9 ?_;intro w1 O J cp hM;obtain⟨s1,s2,s3,s4,s5⟩:=Vc (Jk a7 J) (q:=v) om (.map (some O));have dd:va.length=n:=by have:=a7.1;omega
 refine ixR v (Rd.own (Jk a7 J)) om ?_;refine Xo (s1.trans (show va[v]?=some (va.getD v (.map none)) by simp[List.getD,List.getElem?_eq_getElem (show v<va.length by omega)])) s2 ?_;refine ρ ?_;obtain⟨w2,bi⟩:∃ w2,w2=w1.setCell (adr VA v) (.map (some O)):=⟨_,rfl⟩;rw[<-bi]at s3 s5 ⊢;clear bi;have ai:∀ g,(Value.slice VA n cv).ownBlock=some g->wF.heap.size<=g/\g<w.heap.size:=(Jb a7).choose_spec.choose_spec.2.2;have be:∀ g,(Value.slice TA n ct).ownBlock=some g->wF.heap.size<=g/\g<w.heap.size:=(Jb c4).choose_spec.choose_spec.2.2;have d6:=J.size;have d9:=hM.lt;have ah:Blk w2 b 159 _:=(hB.ext J).grown s5 ((hB.ext J).ne_own (Jk a7 J) rfl);have aw:w2.ownsRow wF.heap.size 221 1 (.slice TA n ct) n ta:=Ze (Jk c4 J) (Jk a7 J) s5 rfl;have c7:MapS Tryz.prog 9 w2 O 0 (λ_=>none):=hM.kept s5 (λe=>by have:=(ai O e.symm).2;omega);have bw:GrN AR w w2:=(GrN.ext J).trans (GrN.by s5 λk C=>hAR k (.inl C))
 have a2:Ext wF w2:=Qa (bh.trans J) s5 λk C=>(ai k C).1;have bp:wF.heap.size<=O:=nL bh.size cp;have au:=c7.lt;obtain⟨RA,rc,dc,c9,cm,ck,ba,cz⟩:=hF.rels.parts;rw[List.length_map,List.length_range]at c9 cm ck ba;obtain⟨re,d7,⟨t,d5,bc⟩,a4⟩:=cz v (by simpa using hv);subst d5;simp only[List.getElem_map,List.getElem_range]at bc;obtain⟨⟨PA,pc,cd,df,de,cn⟩,ca,ce⟩:=id bc;obtain⟨t1,t2,t3⟩:=t;simp only[Yu]at cd ca;subst cd;subst ca;have bm:(nz (bk (kf v ||| 2^v) 32)).length=(bk (kf v ||| 2^v) 32).length:=Qk _;have ap:∀ j u,(Xq kf pf v)[j]?=some u->wF.cell? ((adr BA (v*3)).add j)=some u:=λj u hu=>by
  have hj:j<3:=by
   rcases Nat.lt_or_ge j 3 with h'|h'
   .exact h'
   rw[List.getElem?_eq_none (by simp[Xq];omega)]at hu;cases hu
  rw[Xv];exact hF.bags.cell ((Yk (sz:=3) (λ_ _=>rfl) hv hj).trans hu)
 subst c9;have aj:Ext w2 w2.drew:=(Ext.refl w2).drew;have D:=a2.trans aj;have bb:=ah.ext aj;refine dr [(0,0),(0,1),(0,3),(0,4),(0,5),(0,6),(0,7),(0,8),(0,9),(0,10),(0,11),(0,12),(0,13),(0,14),(0,15),(0,16),(0,17),(0,18),(1,2),(1,19),(0,20),(0,21)] kr ?_;refine Jz (bb.at (i:=6) rfl) ?_;refine Zu 3 v (ba.ext D) hv ?_;refine Jz (Ga D (a4 0 _ rfl)) ?_;refine Jz (bb.at (i:=5) rfl) ?_;refine Zu 3 v (hF.bags.ext D) hv ?_;refine Jz (Ga D (ap 1 _ rfl)) ?_;refine Qq (Qbf (R:=R) bb rfl rfl (hF.bags.ext D) (hF.rels.ext D λcs a h=>Jnw h D) bn hv hF.kb) ?_;rintro vl w3 ⟨d1,am⟩;refine⟨am,?_⟩;have bg:=D.trans am;refine ρd ?_;rw[bm];refine dcl (Qyd (vars:=bk (kf v ||| 2^v) 32) (bm ▸ cn.ext bg) (hF.kb v hv) (λu hu=>(bk_mem.1 hu).1) (Yo _ _)) ?_;rintro uc w4 ⟨c1,b3⟩;refine⟨b3,?_⟩;obtain⟨CA,cc,rfl,dj,cx⟩:=Jb c1;refine ρd ?_;refine ρ ?_;have a3:=(aj.trans am).trans b3
 have a9:=a2.trans a3;have d4:=ah.ext a3;have b5:∀ j u,([.int .i64 ((bk (kf v ||| 2^v) 32).length:Int),t3]:List Value)[j]?=some u->w4.cell? (((adr RA (v*3)).add 1).add j)=some u:=λj u hu=>by
  have:=a4 (1+j) u (by rw[Nat.add_comm];exact hu);rw[Xv]at this;rw[Xv,Xv,Nat.add_assoc];exact Ga a9 this
 refine ld (d4.at (i:=6) rfl) ?_;refine Qp 3 v (ba.ext a9) hv ?_;refine Jh (cs:=[.int .i64 ((bk (kf v ||| 2^v) 32).length:Int),t3]) b5 ?_;refine clR (Jhm (ar:=(bk (kf v ||| 2^v) 32).length) (ls:=R v) ((bc.ext a9).rel)) ?_;rintro ur w5 ⟨b2,an⟩;obtain⟨ps,GA,gc,bd,rfl,di,d8,bl,b4⟩:=an;have Z:(R v).length=ps.length:=by rw[bd,List.length_map]
 have aa:=a3.trans b2;have bo:O<w4.heap.size:=nM au a3.size;have b6:b≠O:=λe=>by have h1:=hB.lt;omega
 refine ρ ?_;refine Zj (fun (i:Nat) (m:Nat) (fm:Lit->Option Value)=>[(0,.pointer (some ⟨b,0,none⟩)),(1,.int .i64 (v:Int)),(4,vl),(5,.slice CA (Vq kf v).length cc),(43,.slice GA ps.length gc),(44,.int .i64 (ps.length:Int)),(45,.int .i64 (i:Int))])
  (λi m fm w'=>i<=ps.length/\GrN (λk=>k=O) w5 w'/\MapS Tryz.prog 9 w' O m fm/\m<=i/\(∀ k:Row,fm (.string (idn k))=if 0<Uo ((R v).take i) (Vq kf v) (λx=>wtL T x (chK kf pf v n)) k then some (.bool true) else none)/\∀ kl,fm kl≠none->∃ k:Row,kl=.string (idn k)) (λi _ _=>ps.length-i) 0 0 (λ_=>none) sB
  ⟨Nat.zero_le _,GrN.refl _ _,c7.ext aa,Nat.le_refl _,λk=>?_,λkl h=>absurd rfl h⟩ ?_
 .rw[if_neg];intro h;obtain⟨x,hx,_⟩:=redT_pos.1 h;simp at hx
 rintro i m fm w6 ⟨hi,af,c6,dg,ao,b7⟩;refine ciR (λh=>?_) (λh=>?_)
 .have li:i<ps.length:=by have:=oT h;omega
  clear h;obtain⟨x,az⟩:∃ x,x=(ps.getD i z0).2:=⟨_,rfl⟩;have cg:x∈R v:=by rw[bd,az];exact List.mem_map_of_mem (getD_mem' z0 ps li)
  have ay:(R v).getD i []=x:=by rw[bd,az];simp[List.getD,List.getElem?_eq_getElem li]
  obtain⟨ax,a8⟩:=hF.rows v hv x cg;have o:GrN (λk=>k=O) w2 w6:=(GrN.ext aa).trans af;have a1:Ext wF w6:=o.old a2 λk C=>by rw[C];exact bp
  have d3:=Jy ah o b6;have c3:=Rd.own (Je s3 o λg eg e=>by have:=(ai g eg).2;omega);have cy:=Rd.own (Je aw o λg eg e=>by have:=(be g eg).2;omega);have d0:GV 2 ChG w6 vl (chK kf pf v n):=((((d1.ext b3).ext b2).gr af λk C=>by rw[C];exact au)).gv (by have:=Jkc kf pf v n;omega);have av:GrN (λk=>k<w4.heap.size) w5 w6:=af.mono λk _ C=>by rw[C];exact bo
  have ac:RowV w6 (ps.getD i z0).1 x:=by rw[az];exact b4 _ (getD_mem' z0 ps li) w6 av
  have aq:=bl w6 av;have a5:GrN AR w w6:=((bw.mono λk _ C=>(.inl C:AR k∨k=O)).trans (o.mono λk _ C=>.inr C)).mono λk C h=>h.elim id λe=>by omega
  have bj:∀ c,c≠v->(va.set v (.map (some O))).getD c (.map none)=va.getD c (.map none):=λc hc=>by simp[List.getD,List.getElem?_set_ne (Ne.symm hc)]
  have co:∀ c,c<n->pf c=(v:Int)->c≠v:=λc hc hp e=>hF.pn c hc (by rw[hp,e]);refine ixR i aq li ?_;refine ldR (aq.cell (show(ps.map (·.1))[i]?=some (ps.getD i z0).1 by simp[List.getD,List.getElem?_eq_getElem li])) ?_
  refine clR (Jrm (T:=T) (AR:=AR) (hF.tb.ext a1) d3 rfl rfl rfl c3 cy d0 (by have:=Jkc kf pf v n;omega) (λp hp=>?_) ac a8 (λp hp ae=>?_) (λp hp ae=>?_) (λp hp ae k=>hT1 _ ae k) (λp hp k=>hTb _ k)) ?_
  .obtain⟨h1,h2,h3⟩:=Jqm hp;refine⟨h1,λc hc=>?_⟩;rw[h3]at hc;rw[ax];exact Jzx hc
  .obtain⟨h1,h2,h3⟩:=Jqm hp;rw[bj _ (co _ h1 h2)];exact(hdv _ h1 h2 ae).gr a5
  .obtain⟨h1,h2,h3⟩:=Jqm hp;exact(hdt _ h1 h2 ae).gr a5
  rintro vw w7 ⟨ch,_,a6⟩;obtain⟨WA,wc,rfl,ab⟩:=Jlm ch;have c5:=c6.ext a6;have b8:=af.trans (GrN.ext a6);refine ciR (λh=>?_) (λh=>?_)
  .have ad:0<wtL T x (chK kf pf v n):=ab.1 (by have:=oT h;omega);have br:GrN (λk=>k=O) w2 w7:=o.trans (GrN.ext a6);have bf:=a1.trans a6;have G:Ext w7 w7.drew:=(Ext.refl w7).drew;have d2:=(Jy ah br b6).ext G;have c2:Rd w7.drew 1 VA n (va.set v (.map (some O))):=c3.ext (a6.trans G);have bz:Rd w7.drew 1 CA (Vq kf v).length (Jt (nz (Vq kf v))):=Rd.own (Jk (Je (Jk c1 b2) b8 λg eg e=>by have:=(cx g eg).1;have:=am.size;have:=aj.size;omega) G);have ag:FitR (pmR (Vq kf v) x):=a8.pm (λc hc=>by rw[ax];exact Jzx hc) (nL (Jnb _ _) (Yo _ _));have cj:(va.set v (.map (some O)))[v]?=some (.map (some O)):=by rw[List.getElem?_set_self om]
   refine ρ ?_;refine drN (λ_=>False) 10 (scq 12 [9,10,111]) kr ?_;refine ρn ?_;refine nld (Jr (d2.at (i:=7) rfl) (λe=>e)) ?_;refine ρn ?_;refine nix v c2 hv ?_;refine ρn ?_;refine nld (Jr (c2.cell cj) (λe=>e)) ?_;refine ρn ?_;refine nop ?_;refine cl (Qqt (cs:=Vq kf v) ((ac.ext a6).ext G) bz (λc hc=>by rw[ax];exact Jzx hc) (by have:=Jnb (bk (kf v ||| 2^v) 32) (kf v);have:=Yo (kf v ||| 2^v) 32;unfold Vq;omega)) ?_;rintro uk w8 ⟨cr,ak⟩;obtain⟨KA,kc,rfl,dh,da,cq⟩:=id cr;refine ρ ?_;refine Ju (GrN.ext ak) ?_;refine ρn ?_;refine nop ?_;refine cl (Jzn (r:=pmR (Vq kf v) x) ((hF.tb.ext (bf.trans G)).ext ak) cq (λu hu=>(ag.2 u hu).1) (by have:=ag.len;omega) (by have:=ag.1;omega)) ?_;rintro un w9 ⟨rfl,b1⟩;refine ρ ?_;refine Ju (GrN.ext b1) ?_;refine ρn ?_;refine Xu ?_;refine mup KS (((c5.ext G).ext ak).ext b1) (by unfold maxLen;omega) (Kw ag) ?_
   intro db c8 bs;refine ρ ?_;refine Qe (i+1) (m+1) (upL fm (.string (idn (pmR (Vq kf v) x))) (some (.bool true))) sO ⟨li,((b8.trans (GrN.ext G)).trans ((GrN.ext ak).trans (GrN.ext b1))).trans (GrN.by bs λk C=>by injection C with C;exact C.symm),c8,om,λk=>?_,λkl bq=>?_⟩ om
   .by_cases e:pmR (Vq kf v) x=k
    .rw[<-e,Kg (KS.key (Kw ag)),if_pos];refine redT_pos.2 ⟨x,?_,ad,rfl⟩;rw[Qr [] (by rw[Z];exact li),ay];exact List.mem_append_right _ (List.mem_singleton.2 rfl)
    rw[Ua (λe'=>e (Jcz (by injection e'.symm))),ao k];have e2:(0<Uo ((R v).take (i+1)) (Vq kf v) (λx=>wtL T x (chK kf pf v n)) k)↔(0<Uo ((R v).take i) (Vq kf v) (λx=>wtL T x (chK kf pf v n)) k):=by
     rw[redT_pos,redT_pos,Qr [] (by rw[Z];exact li),ay];constructor
     .rintro⟨y,hy,h1,h2⟩;rcases List.mem_append.1 hy with h3|h3
      .exact⟨y,h3,h1,h2⟩
      rw[List.mem_singleton.1 h3]at h2;exact absurd h2 e
     rintro⟨y,hy,h1,h2⟩;exact⟨y,List.mem_append_left _ hy,h1,h2⟩
    simp only[e2]
   by_cases e:kl=.string (idn (pmR (Vq kf v) x))
   .exact⟨_,e⟩
   rw[Ua e]at bq;exact b7 kl bq
  have ad:¬ 0<wtL T x (chK kf pf v n):=λh'=>by have:=ab.2 h';have:=oF h;omega
  refine ρ ?_;refine Qe (i+1) m fm sO ⟨li,b8,c5,om,λk=>?_,b7⟩ om;rw[ao k];have e:(0<Uo ((R v).take (i+1)) (Vq kf v) (λx=>wtL T x (chK kf pf v n)) k)↔(0<Uo ((R v).take i) (Vq kf v) (λx=>wtL T x (chK kf pf v n)) k):=by
   rw[redT_pos,redT_pos,Qr [] (by rw[Z];exact li),ay];constructor
   .rintro⟨y,hy,h1,h2⟩;rcases List.mem_append.1 hy with h3|h3
    .exact⟨y,h3,h1,h2⟩
    rw[List.mem_singleton.1 h3]at h1;exact absurd h1 ad
   rintro⟨y,hy,h1,h2⟩;exact⟨y,List.mem_append_left _ hy,h1,h2⟩
  simp only[e]
 have cw:i=ps.length:=by have:=oF h;omega
 rw[cw,<-Z,List.take_length]at ao;have o:GrN (λk=>k=O) w2 w6:=(GrN.ext aa).trans af;have a1:Ext wF w6:=o.old a2 λk C=>by rw[C];exact bp
 have b9:GrN (λk=>(Value.slice VA n cv).ownBlock=some k) w w2:=(GrN.ext J).trans (GrN.by s5 λk C=>C);have a5:GrN (λk=>(Value.slice VA n cv).ownBlock=some k) w w6:=((b9.mono λk _ C=>(.inl C:(Value.slice VA n cv).ownBlock=some k∨k=O)).trans (o.mono λk _ C=>.inr C)).mono λk C h=>h.elim id λe=>by omega
 refine ρ ?_;refine Kc ⟨rfl,.map (some O),⟨a1,Jy ah o b6,Je s3 o λg eg e=>(by have:=(ai g eg).2;omega),Je aw o λg eg e=>(by have:=(be g eg).2;omega)⟩,a5,O,m,fm,rfl,by have:=hF.rlen v hv;omega,⟨c6,?_⟩,ao,b7⟩;intro h';have:=hARl O h';omega
end Go.Proofs.YtgobkbeokaaplaaGreatDoor
namespace Go.Wk
open Go.RowKit
variable {cs xs:List Value}{base c e m n q ty:Nat}{A:Option Addr}{P:Program}{w:World}
theorem Qsl{sz:Nat}(ho:w.ownsRow base e sz (.slice A m c) m xs)(hj:q+cs.length<=m*sz)(h0:0<cs.length)(h1:∀ u∈cs,u.oneCell'=true):
  ∃ w',(storeCells (adr A q) cs).run P w=.ok () w'/\w'.ownsRow base e sz (.slice A m c) m (xs.take q++cs++xs.drop (q+cs.length))/\w.grownBy w' (Value.slice A m c).ownBlock:=by
 rcases ho.2 with⟨hn,G⟩|⟨g,cap,cur,hv,hb,hg,hc,hcm,hcs,ht⟩
 .grind
 injection hv with o _ e3
 subst o;subst e3;have C:m*sz<=c*sz:=nO _ hc;have D:adr (some ⟨g,0,none⟩) q=⟨g,q,none⟩:=by simp[adr,Uj]
 rw[D];have i:=run_storeCells_at (P:=P) g q e cs 0 cur w hg om h1;simp only[Nat.add_zero]at i;refine⟨_,i,⟨?_,.inr ⟨g,c,_,rfl,hb,setRow_heap w g cur _ e (0,0) hg,hc,hcm,?_,?_⟩⟩,?_⟩
 .grind
 .grind
 .simp only;have j:(cur.toList.take q++cs).length=q+cs.length:=by grind
  rw[List.take_append,j];have o:(cur.toList.take q++cs).take (m*sz)=cur.toList.take q++cs:=List.take_of_length_le om;rw[o,<-ht,List.take_take,Nat.min_eq_left om,List.drop_take]
 exact Jqr w g (cur.toList.take q++cs++cur.toList.drop (q+cs.length)).toArray
theorem stoG{al:AL}{Q:Exit->Act->World->Prop}{ops:Array Oper}{rest:List Oper}{pos:String}{aft:Array Edge}{tt:TT}[h:Tab P tt]{x y:Operand}{t sz:Nat}{k:TK}(ho:w.ownsRow base e sz (.slice A m c) m xs)(hj:q+cs.length<=m*sz)(h0:0<cs.length)(kk:∀ w1,w1.ownsRow base e sz (.slice A m c) m (xs.take q++cs++xs.drop (q+cs.length))->w.grownBy w1 (Value.slice A m c).ownBlock->WL P n ops Q rest al w1)(h1:∀ u∈cs,u.oneCell'=true)(ht:tk tt t=some k:=by rfl)(hk:k.desc=.invalid:=by rfl)(hs:k.size=cs.length:=by rfl)(hx:ev al x=some (.pointer (some (adr A q))):=by rfl)(hy:ev al y=some (.agg cs.toArray):=by rfl):
  WL P n ops Q (⟨none,.store t x y,ty,pos,aft,none⟩::rest) al w:=by
 obtain⟨w',j,o,C⟩:=Qsl (P:=P) ho hj h0 h1;refine Jjr (λa D=>?_) (kk w' o C);have i:=Yd w (Jxl h.ok ht hk w).2;simp[execOp,D.ev hx,D.ev hy,Instr.storeAt,Instr.sureAddr,storeVar,Value.cells,i,hs,j]
end Go.Wk
namespace Go.Proofs.YtgobkbeokaaplaaGreatDoor
open Go.RowKit Pl Go.Wk
attribute [local irreducible] WC WL QX WD WDB WP WN WG
variable {d:Bool}{N:Nat->Prop}{v:Value}{w w':World}
abbrev BkT:= Row×Tr
def BkE(d:Bool)(N:Nat->Prop)(w:World)(cs:List Value)(b:BkT): Prop:=∃ kv q,cs=[kv,.bool d,q]/\RowX w N kv b.1/\TrV N w b.2 q
theorem RowX.gr{r:Row}(h:RowX w N v r)(hg:GrN N w w'): RowX w' N v r:=by
 obtain⟨A,c,C,u,o,j,i⟩:=h;exact⟨A,c,C,u,o,Yj j hg λh0 D e=>i (λG=>by grind [Jp]) D e,i⟩
theorem BkE.gr{d:Bool}{N:Nat->Prop}{w w':World}{cs:List Value}{b:BkT}(h:BkE d N w cs b)(hg:GrN N w w'): BkE d N w' cs b:=by
 obtain⟨kv,q,o,j,i⟩:=h;exact⟨kv,q,o,j.gr hg,i.gr hg⟩
theorem BkE.ext{d:Bool}{N:Nat->Prop}{w w':World}{cs:List Value}{b:BkT}(h:BkE d N w cs b)(hx:Ext w w'): BkE d N w' cs b:=h.gr (GrN.ext hx)
theorem BkE.old{d:Bool}{N N':Nat->Prop}{w:World}{cs:List Value}{b:BkT}(h:BkE d N w cs b)(hs:∀ k,N' k->N k∨w.heap.size<=k): BkE d N' w cs b:=by
 obtain⟨kv,q,o,j,i⟩:=h;exact⟨kv,q,o,j.mono λk u h=>(hs k h).elim id λC=>om,i.old hs⟩
structure OwnB(d:Bool)(base:Nat)(w:World)(v:Value)(ps:List (List Value×BkT)): Prop where
 own:w.ownsRow base 78 3 v ps.length (Qw ps)
 el:∀ p∈ps,BkE d (Xf base v) w p.1 p.2
theorem BkE.len{cs:List Value}{b:BkT}(h:BkE d N w cs b): cs.length=3:=by
 obtain⟨kv,q,rfl,_⟩:=h;rfl
theorem OwnB.nil(d:Bool)(base:Nat)(w:World): OwnB d base w (.slice none 0 0) []:=⟨Zd _ _ _ _,λp hp=>by cases hp⟩
theorem OwnB.form{base:Nat}{ps:List (List Value×BkT)}(h:OwnB d base w v ps): ∃ A c,v=.slice A ps.length c/\ps.length<=c/\∀ g,v.ownBlock=some g->base<=g/\g<w.heap.size:=Jb h.own
theorem OwnB.gr{d:Bool}{base:Nat}{w w':World}{v:Value}{ps:List (List Value×BkT)}(h:OwnB d base w v ps){N:Nat->Prop}(hg:GrN N w w')(hN:∀ k,N k->k<base): OwnB d base w' v ps:=by
 obtain⟨_,_,_,_,j⟩:=h.form;exact⟨Je h.own hg (λg o hn=>by grind),λp hp=>(h.el p hp).gr (hg.mono λk _ i=>.inl (hN k i))⟩
theorem OwnB.ext{d:Bool}{base:Nat}{w w':World}{v:Value}{ps:List (List Value×BkT)}(h:OwnB d base w v ps)(hx:Ext w w'): OwnB d base w' v ps:=h.gr (N:=λ_=>False) (GrN.ext hx) λk e=>e.elim
theorem BkE.one{d:Bool}{N:Nat->Prop}{w:World}{cs:List Value}{b:BkT}(h:BkE d N w cs b): ∀ u∈cs,u.oneCell'=true:=by
 obtain⟨kv,q,rfl,o,j⟩:=h;obtain⟨p,rfl⟩:=j.ptr;intro u i;simp only[List.mem_cons,List.not_mem_nil,or_false]at i;rcases i with rfl|rfl|rfl
 .exact o.v.one
 .rfl
 rfl
theorem EBk: ElT Tryz.prog 72 78 3 40 (.agg #[.slice none 0 0,.bool false,.pointer none]):=⟨Tryz.underlying72,info_parts kr,rfl,by decide⟩
open Go.RowKit Pl Go.Wk
variable {d dir:Bool}{ps:List (List Value×BkT)}{bs i:List (Row×Tr)}{b base m n ty:Nat}{x:Row}{wt:Row->Nat}
theorem apB{al:AL}{w:World}{Q:Exit->Act->World->Prop}{ops:Array Oper}{rest:List Oper}{d:Nat}{pos:String}{aft:Array Edge}{x y:Operand}{v:Value}{cs:List Value}{bt:BkT}(ho:OwnB dir base w v ps)(hb:Blk w b 78 cs)(hΦ:BkE dir (Xf base v) w cs bt)(hm:ps.length<=1000000)(hbase:base<=w.heap.size)(kk:∀ v' w',OwnB dir base w' v' (ps++[(cs,bt)])->w.grownBy w' v.ownBlock->WL Tryz.prog n ops Q rest ((d,v')::al) w')(hx:ev al x=some v:=by rfl)(hy:ev al y=some (.slice (some ⟨b,0,none⟩) 1 1):=by rfl)(hd:Nat.blt d n=true:=by rfl):
  WL Tryz.prog n ops Q (⟨some d,.call { callee:=.builtin .append,args:=#[x,y],argTypes:=#[72,72] },ty,pos,aft,none⟩::rest) al w:=by
 refine apb (m':=1) (news:=cs) EBk ho.own (hb.rd (n:=1) (by rw[hΦ.len])) hΦ.one (by unfold maxLen;omega) om hbase ?_ hx hy hd;intro v' w' o u hn;refine kk v' w' ⟨?_,?_⟩ u
 .rw[List.length_append,List.length_singleton];have e:Qw (ps++[(cs,bt)])=Qw ps++cs:=by simp[Qw]
  rw[e];exact o
 have key:∀ p:List Value×BkT,BkE dir (Xf base v) w p.1 p.2->BkE dir (Xf base v') w' p.1 p.2:=λp j=>by
  have C:BkE dir (λk=>Xf base v k∨Xf base v' k) w p.1 p.2:=j.old λk i=>by
   rcases i with h|h|h
   .exact .inl h
   .exact .inl (.inl h)
   rcases hn k h with h'|h'
   .exact .inl (.inr h')
   exact .inr h'
  exact(C.gr (GrN.by u λk i=>.inl (.inr i))).old λk i=>.inl (.inr i)
 intro p hp;rcases List.mem_append.1 hp with j|j
 .exact key p (ho.el p j)
 rw[List.mem_singleton.1 j];exact key (cs,bt) hΦ
theorem Xkb(hl:∀ p∈ps,p.1.length=3)(kv x1 x2 y1 y2:Value)(b b':BkT):
  (Qw (ps++[([kv,x1,x2],b)])).take (ps.length*3+1)++[y1,y2]++(Qw (ps++[([kv,x1,x2],b)])).drop (ps.length*3+1+2)=Qw (ps++[([kv,y1,y2],b')]):=by
 have e:∀ z:List Value×BkT,Qw (ps++[z])=Qw ps++z.1:=λz=>by simp[Qw]
 have i:=Jmn hl;grind [Qw,kv,List.take_append,List.take_of_length_le,Nat.add_sub_cancel_left,List.drop_of_length_le]
theorem Qmk(h0:wt x≠0)(h1:¬ (bs.getLast?.map (·.1))=some (x.take m)): Pl.stepG d wt m bs x=bs++[(x.take m,Tr.put d (x.getD m V0) (wt x) .nil)]:=by
 rw[Pl.stepG,if_neg h0,if_neg h1]
theorem Qml{t:Tr}(h0:wt x≠0): Pl.stepG d wt m (i++[(x.take m,t)]) x=i++[(x.take m,Tr.put d (x.getD m V0) (wt x) t)]:=by
 rw[Pl.stepG,if_neg h0,if_pos (by simp)];simp
theorem Qmj(h0:wt x=0): Pl.stepG d wt m bs x=bs:=by rw[Pl.stepG,if_pos h0]
def Yz(d:Bool)(wt:Row->Nat)(m:Nat)(rs:List Row): List BkT:=rs.foldl (Pl.stepG d wt m) []
theorem Jdb(d:Bool)(wt:Row->Nat)(m:Nat)(rs:List Row)(x:Row): Yz d wt m (rs++[x])=Pl.stepG d wt m (Yz d wt m rs) x:=by grind [Yz]
theorem Jvm{rs:List Row}(hs:Lt [] rs)(hl:∀ y∈rs,y.length=m+1): GInv d wt m rs (Yz d wt m rs):=by
 suffices h:∀ k,k<=rs.length->GInv d wt m (rs.take k) (Yz d wt m (rs.take k)) by
  have:=h rs.length (nR _);rw[List.take_length]at this;exact this
 intro k;induction k with
 | zero=>intro _;exact GInv.nil d wt m
 | succ k ih=>
  intro i;have e:=Qr [] (show k<rs.length by omega);rw[e,Jdb];refine(ih om).step ?_ ?_
  .rw[<-e];exact hs.sublist (List.take_sublist _ _)
  repeat grind
def Gd(bs:List BkT)(k:Row): Nat:=match bs.find? λb=>decide (b.1=k) with
 | some b=>b.2.sum
 | none=>0
theorem Jgc(bs:List BkT)(k:Row): Gd bs k=tot (entK bs k):=by
 unfold Gd entK;cases bs.find? λb=>decide (b.1=k) with
 | some b=>exact Tr.sum_eq _
 | none=>rfl
end Go.Proofs.YtgobkbeokaaplaaGreatDoor
namespace Go.Wk
variable {d n t ty:Nat}
theorem dalc'{P:Program}{al:AL}{w:World}{Q:Exit->Act->World->Prop}{ops:Array Oper}{drest:List (Nat×Oper)}{pos:String}{aft:Array Edge}{z:Value}{cs:List Value}(hz:Qu P t=some z)(kk:∀ w1 b,Ext w w1->w.heap.size<=b->Blk w1 b t cs->WD P n ops Q drest ((d,.pointer (some ⟨b,0,none⟩))::al) w1)(hv:z.cells=cs.toArray:=by rfl)(hd:Nat.blt d n=true:=by rfl):
  WD P n ops Q ((1,⟨some d,.alloc t,ty,pos,aft,none⟩)::drest) al w:=by grind [Jqv,alc,Jl,Jqt]
end Go.Wk
namespace Go.Proofs.YtgobkbeokaaplaaGreatDoor
open Go.RowKit Pl Go.Wk _root_.Go.Proofs.Tryz
attribute [local irreducible] WC WL QX WD WDB WP WN WG
variable {d:Bool}{S e k m n:Nat}{AR N:Nat->Prop}{Av Pv v vR:Value}{w wF:World}
theorem Qcb(kv:Value)(A:Option Addr)(n c:Nat)(d:Bool)(p:Option Addr)(h:kv=.slice A n c)(w:World): (Instr.build 78 #[(0,kv),(1,.agg #[.bool d,.pointer p])]).run prog w=.ok (.agg [kv,.bool d,.pointer p].toArray) w:=by subst h;kernel_rfl
theorem Qbr(kv:Value)(A:Option Addr)(n c:Nat)(d:Bool)(p:Option Addr)(h:kv=.slice A n c)(w:World): (Instr.buildSlice 72 1 #[(0,.agg [kv,.bool d,.pointer p].toArray)]).run prog w=.ok (.slice (some ⟨w.heap.size,0,none⟩) 1 1) (w.alloc (.cells [kv,.bool d,.pointer p].toArray 78)):=by subst h;kernel_rfl
def DnB(AR:Nat->Prop)(d:Bool)(w:World)(x:Value)(bs:List BkT): Prop:=∃(ps:List (List Value×BkT)) (A:Option Addr) (c:Nat),bs=ps.map (·.2)/\x=.slice A ps.length c/\ps.length<=c/\ps.length<=65536/\Rd w 3 A ps.length (Qw ps)/\(0<ps.length->∀ ad,A=some ad->¬ AR ad.block)/\∀ p∈ps,p.1.length=3/\BkE d AR w p.1 p.2
theorem DnB.gr{AR:Nat->Prop}{d:Bool}{w w':World}{x:Value}{bs:List BkT}(h:DnB AR d w x bs)(hg:GrN AR w w'): DnB AR d w' x bs:=by
 obtain⟨ps,A,c,G,D,C,u,o,j,i⟩:=h;refine⟨ps,A,c,G,D,C,u,Yj o hg λh0 J e=>j ?_ J e,j,λp hp=>⟨(i p hp).1,(i p hp).2.gr hg⟩⟩;have:=o.1;omega
theorem Nb.big(hS:S<=4294967296^e)(he:e<=800)(hk:k<=4294967296)(hn:n<=k*S): Nb n:=by
 have i:k*S<=4294967296^(e+1):=by
  rw[Nat.pow_succ,Nat.mul_comm];exact Nat.mul_le_mul hS hk
 exact Nat.lt_of_le_of_lt (nL hn i) (Nat.pow_lt_pow_right (by decide) (by rw[Jnv];omega))
theorem Jhd(x:Row)(h:m<=x.length): (Jp x).take (m*3)=Jp (x.take m):=by grind [Jp,rowC_app',List.take_append_drop,List.take_left',Jhg,List.length_take,Nat.min_eq_left]
theorem Jsk{p:Value}{t:Tr}(h:TrV N w t p)(hn:Nb t.sum): Ret prog 134 [.agg #[.bool d,p]] w λu w'=>NatV w' u t.sum/\Fresh w u/\Ext w w':=by
 obtain⟨q,rfl⟩:=h.ptr;refine enE func134 ntmps134 ?_;refine bxR ?_;intro w1 b j hb J;refine ldR (J.at (i:=1) rfl) ?_;refine clR (Jbd (h.ext j)) ?_;rintro u w2 ⟨G,rfl⟩;refine clR (Jws G.1 hn.len) ?_;rintro u3 Z ⟨C,D,o⟩;refine ρ ?_;exact Jj ⟨C,λO m c e=>nL j.size (D O m c e),j.trans o⟩
theorem Jfl: Qu prog 78=some (.agg #[.slice none 0 0,.bool false,.pointer none]):=kr
theorem Jbz{p:Option Addr}(h:v.oneCell'=true): ∀ u∈[v,.bool d,.pointer p],u.oneCell'=true:=λu i=>by
 simp only[List.mem_cons,List.not_mem_nil,or_false]at i;rcases i with rfl|rfl|rfl
 .exact h
 .rfl
 rfl
theorem Qlm(bs:List BkT)(b:BkT)(k:Row)(h:b.1 ∉ bs.map (·.1)): Gd (bs++[b]) k=if b.1=k then b.2.sum else Gd bs k:=by grind [Gd,List.find?_eq_none.2,List.mem_map.2]
theorem Qlk{wt:Row->Nat}{rs:List Row}{bs:List BkT}(h:GInv d wt m rs bs){b:BkT}(hb:b∈bs): 0<b.2.sum:=by
 obtain⟨o,j⟩:=h.con b hb;rw[Tr.sum_eq,o,Jdl];exact(Qlh λp hp=>by obtain⟨x,_,_,_,_,i⟩:=entL_mem.1 hp;exact i).2 j
theorem Xzp{B0 f b v cb cv ct ck dc:Nat}{kf:Nat->Nat}{pf:Nat->Int}{R:Nat->List Row}{BA VA TA KA DA:Option Addr}{va ta ba:List Value}{ds:List Bool}{T:Nat->Row->Nat}(hF:FixW B0 n f kf pf R vR BA wF)(hds:ds.length=f)(hD:RdB wF DA ds)(hW:BldW wF b n (bCs n f (.slice DA f dc) Pv Av BA cb vR VA cv TA ct (.slice KA f ck)) VA cv TA ct w va ta)(hBa:w.ownsRow wF.heap.size 72 1 (.slice KA f ck) f ba)(hvf:v<f)(hm:0<(bk (kf v ||| 2^v) 32).length)(hval:∀ x∈R v,Xl (x.getD ((bk (kf v ||| 2^v) 32).length-1) V0)=true)(hlt:Lt [] (R v))(hdv:∀ c,c<n->pf c=(v:Int)->f<=c->DnV AR (T c) w (va.getD c (.map none)))(hdt:∀ c,c<n->pf c=(v:Int)->c<f->DnT AR (T c) w (ta.getD c (.map none)))(hT1:∀ c,f<=c->∀ k,T c k<=1)(hTb:∀ c k,T c k<=4294967296^20)(hAR:∀ k,ARk n f VA cv TA ct (.slice KA f ck) k->AR k)(hARl:∀ k,AR k->k<w.heap.size):
  Ret prog 76 [.pointer (some ⟨b,0,none⟩),.int .i64 (v:Int)] w λu w'=>u=.int .i64 0/\∃ mv lv,BldW wF b n (bCs n f (.slice DA f dc) Pv Av BA cb vR VA cv TA ct (.slice KA f ck)) VA cv TA ct w' va (ta.set v mv)/\w'.ownsRow wF.heap.size 72 1 (.slice KA f ck) f (ba.set v lv) /\
   GrN AR w w'/\DnT AR (Gd (Yz (ds.getD v false) (λx=>wtL T x (chK kf pf v n)) ((bk (kf v ||| 2^v) 32).length-1) (R v))) w' mv /\
   DnB AR (ds.getD v false) w' lv (Yz (ds.getD v false) (λx=>wtL T x (chK kf pf v n)) ((bk (kf v ||| 2^v) 32).length-1) (R v)):=by
 obtain⟨ec,hB,fg,aq⟩:=hW;have et:=hF.n32;have j7:=hF.fn;have hv:v<n:=om
 have hw:Rd wF 1 DA f (ds.map Value.bool):=hds ▸ hD;refine enE func76 ntmps76 ?_;refine ldR (hB.at (i:=8) rfl) ?_;refine ρ ?_;refine mkm 9 ?_;intro w1 mb a3 gt hM;obtain⟨s1,s2,s3,s4,s5⟩:=Vc (Jk aq a3) (q:=v) om (.map (some mb));have iw:ta.length=n:=by have:=aq.1;omega
 refine ixR v (Rd.own (Jk aq a3)) om ?_;refine Xo (s1.trans (show ta[v]?=some (ta.getD v (.map none)) by simp[List.getD,List.getElem?_eq_getElem (show v<ta.length by omega)])) s2 ?_;refine ρ ?_;obtain⟨w2,ek⟩:∃ w2,w2=w1.setCell (adr TA v) (.map (some mb)):=⟨_,rfl⟩;rw[<-ek]at s3 s5 ⊢;clear ek;have ga:∀ g,(Value.slice VA n cv).ownBlock=some g->wF.heap.size<=g/\g<w.heap.size:=(Jb fg).choose_spec.choose_spec.2.2;have d0:∀ g,(Value.slice TA n ct).ownBlock=some g->wF.heap.size<=g/\g<w.heap.size:=(Jb aq).choose_spec.choose_spec.2.2;have e4:∀ g,(Value.slice KA f ck).ownBlock=some g->wF.heap.size<=g/\g<w.heap.size:=(Jb hBa).choose_spec.choose_spec.2.2;have i9:=a3.size;have ih:=hM.lt;have dt:Blk w2 b 159 _:=(hB.ext a3).grown s5 ((hB.ext a3).ne_own (Jk aq a3) rfl);have cr:w2.ownsRow wF.heap.size 213 1 (.slice VA n cv) n va:=Ze (Jk fg a3) (Jk aq a3) s5 rfl
 have fu:w2.ownsRow wF.heap.size 72 1 (.slice KA f ck) f ba:=Ze (Jk hBa a3) (Jk aq a3) s5 rfl;have fr:MapS prog 9 w2 mb 0 (λ_=>none):=hM.kept s5 (λe=>by have:=(d0 mb e.symm).2;omega);have f7:GrN AR w w2:=(GrN.ext a3).trans (GrN.by s5 λk C=>hAR k (.inr (.inl C)));have ag:Ext wF w2:=Qa (ec.trans a3) s5 λk C=>(d0 k C).1;have gu:wF.heap.size<=mb:=nL ec.size gt;have ig:=fr.lt;obtain⟨RA,rc,iq,g1,gk,gj,fk,hb⟩:=hF.rels.parts;rw[List.length_map,List.length_range]at g1 gk gj fk;obtain⟨re,ia,⟨t,i5,dv⟩,c4⟩:=hb v (by simpa using hv);subst i5;simp only[List.getElem_map,List.getElem_range]at dv;obtain⟨⟨PA,pc,g4,j1,j0,iz⟩,g3,g8⟩:=id dv;obtain⟨t1,t2,t3⟩:=t;simp only[Yu]at g4 g3;subst g4;subst g3;have er:(nz (bk (kf v ||| 2^v) 32)).length=(bk (kf v ||| 2^v) 32).length:=Qk _;subst g1;refine cl (Qbf (R:=R) dt rfl rfl (hF.bags.ext ag) (hF.rels.ext ag λcs a h=>Jnw h ag) et hv hF.kb) ?_
 rintro vl w3 ⟨hr,d6⟩;have b7:=ag.trans d6;have i1:=dt.ext d6;have da:∀ j u,([.int .i64 ((bk (kf v ||| 2^v) 32).length:Int),t3]:List Value)[j]?=some u->w3.cell? (((adr RA (v*3)).add 1).add j)=some u:=λj u hu=>by
  have:=c4 (1+j) u (by rw[Nat.add_comm];exact hu);rw[Xv]at this;rw[Xv,Xv,Nat.add_assoc];exact Ga b7 this
 refine ldR (i1.at (i:=6) rfl) ?_;refine Qp 3 v (fk.ext b7) hv ?_;refine Jh (cs:=[.int .i64 ((bk (kf v ||| 2^v) 32).length:Int),t3]) da ?_;refine clR (Jhm (ar:=(bk (kf v ||| 2^v) 32).length) (ls:=R v) ((dv.ext b7).rel)) ?_;rintro ur w5 ⟨ef,c3⟩;obtain⟨ps,GA,gc,dx,rfl,j5,ic,eo,d9⟩:=c3;have de:(R v).length=ps.length:=by rw[dx,List.length_map]
 have iy:=hF.rlen v hv;have a1:=d6.trans ef;have db:=eo.here;have aw:∀ p∈ps,RowV w5 p.1 p.2:=λp hp=>(d9 p hp).here;have c7:=dt.ext a1;have au:=ag.trans a1;have ho:=hr.ext ef;have dn:=fr.ext a1;have en:∀ c,c≠v->(ta.set v (.map (some mb))).getD c (.map none)=ta.getD c (.map none):=λc hc=>by simp[List.getD,List.getElem?_set_ne (Ne.symm hc)]
 have gq:∀ c,c<n->pf c=(v:Int)->c≠v:=λc hc hp e=>hF.pn c hc (by rw[hp,e]);have cp:GrN AR w w5:=f7.trans (GrN.ext a1);have bj:=cp;obtain⟨d,hd⟩:∃ d,d=ds.getD v false:=⟨_,rfl⟩;obtain⟨m,c5⟩:∃ m,m=(bk (kf v ||| 2^v) 32).length-1:=⟨_,rfl⟩;obtain⟨wt,d7⟩:∃ wt:Row->Nat,wt=λx=>wtL T x (chK kf pf v n):=⟨_,rfl⟩;rw[<-hd,<-c5,<-d7];rw[<-c5]at hval;obtain⟨S,hS⟩:∃ S:Nat,S=(4294967296^20)^32:=⟨_,rfl⟩;obtain⟨e,he,fi⟩:∃ e,e<=800/\S<=4294967296^e:=⟨20*32,om,by rw[hS,<-Nat.pow_mul];exact nR _⟩;have eh:∀ x,wt x<=S:=λx=>by
  rw[d7,hS];refine nL (Jfn λp hp=>hTb _ _) (Nat.pow_le_pow_right (Nat.pow_pos (by decide)) ?_);have:=Jkc kf pf v n;omega
 refine ρ ?_;refine Jo (fun (i:Nat) (vb:Value)=>[(0,.pointer (some ⟨b,0,none⟩)),(1,.int .i64 (v:Int)),(5,vl),(6,vb),(34,.slice GA ps.length gc),(35,.int .i64 (ps.length:Int)),(36,.int .i64 (i:Int))])
  (λi vb w'=>i<=ps.length/\Ext w5 w'/\∃ G,OwnB d w5.heap.size w' vb G/\G.map (·.2)=Yz d wt m ((R v).take i)/\G.length<=i/\∀ q∈G,q.2.2.sum<=i*S/\q.2.2.sz<=i) (λi _=>ps.length-i) 0 (.slice none 0 0) sB
  ⟨Nat.zero_le _,Ext.refl _,[],OwnB.nil _ _ _,rfl,Nat.le_refl _,λq hq=>by cases hq⟩ ?_
 clear hS;rintro i vb w6 ⟨hi,D,G,am,ab,gl,b3⟩;obtain⟨LA,lc,rfl,gw,ao⟩:=am.form;refine ciR (λh=>?_) (λh=>?_)
 .have li:i<ps.length:=by have:=oT h;omega
  clear h;obtain⟨x,bz⟩:∃ x,x=(ps.getD i z0).2:=⟨_,rfl⟩;have e7:x∈R v:=by rw[dx,bz];exact List.mem_map_of_mem (getD_mem' z0 ps li)
  have gf:(R v).getD i []=x:=by rw[dx,bz];simp[List.getD,List.getElem?_eq_getElem li]
  obtain⟨e8,d1⟩:=hF.rows v hv x e7;have be:RowV w6 (ps.getD i z0).1 x:=by rw[bz];exact(aw _ (getD_mem' z0 ps li)).ext D
  have cg:=db.ext D;have b6:=au.trans D;have cj:=cp.trans (GrN.ext D);have hh:GV 2 ChG w6 vl (chK kf pf v n):=(ho.ext D).gv (by have:=Jkc kf pf v n;omega);have c2:=Qr [] (show i<(R v).length by omega);rw[gf]at c2;refine ixR i cg li ?_;refine ldR (cg.cell (show(ps.map (·.1))[i]?=some (ps.getD i z0).1 by simp[List.getD,List.getElem?_eq_getElem li])) ?_
  refine clR (Jrm (T:=T) (AR:=AR) (hF.tb.ext b6) (c7.ext D) rfl rfl rfl (Rd.own (Jk cr (a1.trans D))) (Rd.own (Jk s3 (a1.trans D))) hh (by have:=Jkc kf pf v n;omega) (λp hp=>?_) be d1 (λp hp bg=>?_) (λp hp bg=>?_) (λp hp bg k=>hT1 _ bg k) (λp hp k=>hTb _ k)) ?_
  .obtain⟨J,h2,h3⟩:=Jqm hp;refine⟨J,λc hc=>?_⟩;rw[h3]at hc;rw[e8];exact Jzx hc
  .obtain⟨J,h2,h3⟩:=Jqm hp;exact(hdv _ J h2 bg).gr cj
  .obtain⟨J,h2,h3⟩:=Jqm hp;rw[en _ (gq _ J h2)];exact(hdt _ J h2 bg).gr cj
  rintro vw w7 ⟨d8,f8,b2⟩;have i4:wtL T x (chK kf pf v n)=wt x:=by rw[d7]
  rw[i4]at d8;obtain⟨WA,wc,rfl,bc⟩:=Jlm d8;refine ciR (λh=>?_) (λh=>?_)
  .have h0:wt x=0:=by
    have:=Zv h;rcases Nat.eq_zero_or_pos (wt x) with h'|h'
    .exact h'
    have:=bc.2 h';omega
   refine ρ ?_;refine Jf (i+1) _ sO ⟨li,D.trans b2,G,am.ext b2,?_,om,λq hq=>⟨?_,by have:=(b3 q hq).2;omega⟩⟩ om
   .rw[c2,Jdb,Qmj h0];exact ab
   have:=(b3 q hq).1;rw[Nat.succ_mul];omega
  have h0:wt x≠0:=λe=>by(have:=Zz h;have J:¬ 0<(Jq (wt x)).length:=λh'=>by have:=bc.1 h';omega);(omega)
  clear h;obtain⟨XA,xc,g0,iv,i7,gg⟩:=id be;have j2:x.length=m+1:=by rw[e8,c5];omega
  rw[g0];have dg:RdR w7 XA (x.take m):=by
   have J:=(Rd.ext gg b2).take (m:=m) om;have h2:(Jp x).take (m*3)=Jp (x.take m):=Jhd x om;rw[h2]at J;have h3:(x.take m).length=m:=by rw[List.length_take];omega
   unfold RdR;rw[h3];exact J
  have bi:RowV w7 (.slice XA m xc) (x.take m):=⟨XA,xc,by rw[List.length_take,Nat.min_eq_left om],by rw[List.length_take];omega,by rw[List.length_take];omega,dg⟩;have ce:=D.trans b2;have ak:=am.ext b2;refine ρ ?_;refine slh m ?_;refine ρ ?_;refine Jrj (fun (bb:Bool) (_:Unit)=>[(66,.bool bb),(0,.pointer (some ⟨b,0,none⟩)),(1,.int .i64 (v:Int)),(5,vl),(6,.slice LA G.length lc),(8,.slice XA x.length xc),(9,.slice WA (Jq (wt x)).length wc),(10,.slice XA m xc),(34,.slice GA ps.length gc),(35,.int .i64 (ps.length:Int)),(36,.int .i64 (i:Int))])
   (λbb _ w'=>Ext w7 w'/\(bb=true↔¬ (G.getLast?.map (·.2.1))=some (x.take m))) ?_ ?_
  .refine ki 55 (λh=>?_) (λh=>?_)
   .have gm:G=[]:=List.eq_nil_of_length_eq_zero (by have:=Zv h;omega);refine ρ ?_;refine Vp true () sB ⟨Ext.refl _,?_⟩;rw[gm];simp
   have dd:G≠[]:=λe=>by have:=Zz h;rw[e]at this;simp at this
   obtain⟨o,z,ez,dw,_⟩:=Jdd dd;have af:z∈G:=by rw[ez];simp
   obtain⟨kv,zq,b4,bw,b5⟩:=ak.el z af;have ib:G.length=o.length+1:=by rw[ez];simp
   have gb:(Qw G)[(o.length)*3+0]?=some kv:=by
    rw[Jjj (p:=z) (λp hp=>(ak.el p hp).len) (by rw[ez];simp) om,b4];rfl
   have ep:=Rd.own ak.own;refine Qp 3 o.length ep om ?_;refine ldR (by have:=ep.cell gb;rw[<-Xv]at this;exact this) ?_;refine clR (Jhb bw.v bi) ?_;rintro u w8 ⟨rfl,d2⟩;refine ρ ?_;refine Vp (!decide (z.2.1=x.take m)) () sB ⟨d2,?_⟩;rw[dw];simp
  rintro bb _ w8 ⟨a6,fb⟩;refine Zc (λs:((List (List Value×BkT))×Value×Option Addr×Tr)×Value=>[(0,.pointer (some ⟨b,0,none⟩)),(1,.int .i64 (v:Int)),(5,vl),(6,s.2),(8,.slice XA x.length xc),(9,.slice WA (Jq (wt x)).length wc),(10,.slice XA m xc),(34,.slice GA ps.length gc),(35,.int .i64 (ps.length:Int)),(36,.int .i64 (i:Int))])
   (λs w'=>Ext w5 w'/\GrN (λk=>Xf w5.heap.size (.slice LA G.length lc) k/\w5.heap.size<=k) w7 w'/\OwnB d w5.heap.size w' s.2 (s.1.1++[([s.1.2.1,.bool d,.pointer s.1.2.2.1],(x.take m,s.1.2.2.2))])/\Yz d wt m ((R v).take (i+1))=s.1.1.map (·.2)++[(x.take m,Tr.put d (x.getD m V0) (wt x) s.1.2.2.2)]/\s.1.1.length<=i/\s.1.2.2.2.sum<=i*S/\s.1.2.2.2.sz<=i/\∀ q∈s.1.1,q.2.2.sum<=i*S/\q.2.2.sz<=i) ?_ ?_
  .have bo:=ak.ext a6;refine ci (λh=>?_) (λh=>?_)
   .have er:=fb.1 h;have a8:=ce.trans a6;have a4:Ext w8 w8.drew:=(Ext.refl w8).drew;have hx:=(c7.ext a8).ext a4;have eb:=(au.trans a8).trans a4;have h9:¬ w5.heap.size<=b:=by have:=c7.lt;omega
    refine ρ ?_;refine drN (λk=>w5.heap.size<=k) 10 [(0,0),(0,1),(0,3),(0,4),(0,5),(0,6),(0,7),(0,8),(0,9),(0,10),(1,2),(1,11),(0,12),(1,13),(1,14),(0,15)] kr ?_;refine ρn ?_;refine nld (Jr (hx.at (i:=2) rfl) h9) ?_;refine ρn ?_;refine nix v (Rd.ext hw eb) om ?_;refine ρn ?_;refine nld (λw' hg=>Ga (au.trans (hg.old (a8.trans a4) λk C=>C)) (RdB.cell hD (show v<ds.length by omega))) ?_;refine ρn ?_;refine nop ?_;refine cl (Jyc ((bi.ext a6).ext a4) (Xf w5.heap.size (.slice LA G.length lc)) λk C=>?_) ?_
    .rcases C with h'|h'
     .exact nM h' (a8.trans a4).size
     exact nM (ao k h').2 ((b2.trans a6).trans a4).size
    rintro kv w9 ⟨ey,c1⟩;obtain⟨an,ae,rfl,_⟩:=id ey;refine ρ ?_;refine Ju (GrN.ext c1) ?_;refine ρn ?_;refine nop ?_;refine cl Qtv ?_;rintro u g9 ⟨rfl,a2⟩;refine ρ ?_;refine Ju (GrN.ext a2) ?_;rw[<-hd];refine ρn ?_;refine Jjb (Qcb _ an _ ae d none rfl) ?_;refine ρn ?_;refine nop ?_;refine bsl (Qbr _ an _ ae d none rfl) ?_;intro bs j9 a9 im fz;refine ρ ?_;refine Ju (GrN.ext a9) ?_;refine ρn ?_;refine nop ?_;have av:Ext w8 bs:=((a4.trans c1).trans a2).trans a9;have ew:BkE d (Xf w5.heap.size (.slice LA G.length lc)) bs [.slice an (x.take m).length ae,.bool d,.pointer none] (x.take m,.nil):=⟨_,_,rfl,(ey.ext a2).ext a9,rfl⟩;refine apB (bo.ext av) fz ew om (a8.trans av).size ?_;intro e0 br fo ah;refine ρ ?_;refine Ju (GrN.by ah λg eg=>(ao g eg).1) ?_;refine ρn ?_;refine ρ ?_;refine Jc ((G,.slice an (x.take m).length ae,none,.nil),e0) sB ⟨?_,?_,fo,?_,gl,by simp[Tr.sum],by simp[Tr.sz],b3⟩
    .exact Qa (a8.trans av) ah λg eg=>(ao g eg).1
    .exact(GrN.ext (a6.trans av)).trans (GrN.by ah λg eg=>⟨.inr eg,(ao g eg).1⟩)
    rw[c2,Jdb,<-ab];exact Qmk h0 (by rw[List.getLast?_map];simpa [Option.map_map] using er)
   have hl:(G.getLast?.map (·.2.1))=some (x.take m):=Classical.byContradiction λh'=>by rw[fb.2 h']at h;cases h
   have dd:G≠[]:=λe=>by rw[e]at hl;cases hl
   obtain⟨o,z,ez,dw,_⟩:=Jdd dd;rw[dw]at hl;have e6:z.2.1=x.take m:=by simpa using hl
   have af:z∈G:=by rw[ez];simp
   obtain⟨kv,zq,b4,bw,b5⟩:=bo.el z af;obtain⟨zp,rfl⟩:=b5.ptr;obtain⟨zc,zk,zt⟩:=z;simp only at b4 e6;subst b4;subst e6;have fe:=b3 _ af;refine ρ ?_;refine Jc ((o,kv,zp,zt),.slice LA G.length lc) sB ⟨ce.trans a6,GrN.ext a6,by rw[<-ez];exact bo,?_,?_,fe.1,fe.2,λq hq=>b3 q (by rw[ez];simp[hq])⟩
   .rw[c2,Jdb,<-ab,ez,List.map_append];exact Qml h0
   have:G.length=o.length+1:=by rw[ez];simp
   simp only;omega
  rintro⟨⟨o,kv,q,t⟩,e0⟩ w9 ⟨b9,f5,aj,f4,gz,gi,gh,f2⟩;simp only at aj f4 gz gi gh f2;obtain⟨LB,lb,rfl,gx,ax⟩:=aj.form;have ac:(o++[([kv,.bool d,.pointer q],(x.take m,t))]).length=o.length+1:=by simp
  rw[ac]at gx ax ⊢;have ay:=aj.own;rw[ac]at ay;refine Qp 3 o.length (Rd.own ay) om ?_;refine ρ ?_;have Z:Ext w9 w9.drew:=(Ext.refl w9).drew;have b8:=b9.trans Z;have io:=aj.ext Z;have dl:=Jk ay Z;have ge:RowV w9.drew (.slice XA x.length xc) x:=by
   have:=(aw _ (getD_mem' z0 ps li)).ext b8;rw[<-bz,g0]at this;exact this
  obtain⟨ja,ip,i3,_,_,c9⟩:=id ge;injection i3 with exx1 _ exx2
  subst exx1;subst exx2;have fa:BkE d (Xf w5.heap.size (.slice LB (o.length+1) lb)) w9 [kv,.bool d,.pointer q] (x.take m,t):=by
   have:=aj.el ([kv,.bool d,.pointer q],(x.take m,t)) (by simp);rw[ac]at this;exact this
  obtain⟨iu,q',g7,ew,em⟩:=id fa;simp only[List.cons.injEq,and_true,true_and]at g7;obtain⟨g6,g5⟩:=g7;subst g6;subst g5;have df:∀ j u,([.bool d,.pointer q]:List Value)[j]?=some u->w9.drew.cell? (((adr LB (o.length*3)).add 1).add j)=some u:=λj u hu=>by
   have j4:j<2:=(List.getElem?_eq_some_iff.1 hu).1;have J:(Qw (o++[([kv,.bool d,.pointer q],(x.take m,t))]))[o.length*3+(1+j)]?=some u:=by
    rw[Jjj (p:=([kv,.bool d,.pointer q],(x.take m,t))) (λp hp=>(aj.el p hp).len) (by simp) om,Nat.add_comm 1 j];exact hu
   have:=(Rd.own dl).cell J;rw[Xv,Xv,Nat.add_assoc];exact this
  have ei:NatV w9.drew (.slice WA (Jq (wt x)).length wc) (wt x):=by
   have J:NatX (λk=>Xf w5.heap.size (.slice LA G.length lc) k/\w5.heap.size<=k) w7 (.slice WA (Jq (wt x)).length wc) (wt x):=f8.x d8 λk C=>by
    rcases C.1 with h'|h'
    .have:=D.size;omega
    exact(ao k h').2
   exact(J.gr f5).1.ext Z
  have bd:Xl (x.getD m V0)=true:=hval x e7;have ch:Nb (t.sum+wt x):=Nb.big (k:=i+1) fi he om (by have:=eh x;rw[Nat.succ_mul];omega);have e2:t.sz+1<=1000000:=om
  have bh:∀ k,Xf w5.heap.size (.slice LB (o.length+1) lb) k->k<w9.heap.size:=λk C=>by
   rcases C with h'|h'
   .exact nM h' b9.size
   exact(ax k h').2
  refine drH (λi=>Nat.ble 16 i) ?_;refine Zr (fuel':=7) 8 [(0,0),(0,1),(0,2),(0,3),(0,4),(0,5),(0,6),(0,7),(0,8),(0,9),(0,10)] #[true,true,true,true,true,true,true,true,true,true,true,false,false,false,false,false,false,false] kr kr rfl ?_;refine Qf (cs:=[.bool d,.pointer q]) df ?_;refine Zu 3 m c9 om ?_;refine Qf (cs:=(x.getD m V0).cells) (λj u hu=>RdR.cell c9 om hu) ?_;refine ρd ?_;refine Xa ?_;refine Jvl 2 (lst 18 16) (fun (y:Nat×Option Addr)=>[(12,.pointer (some ⟨y.1,0,none⟩)),(100,.agg #[.bool d,.pointer y.2]),(101,.int .i64 0),(0,.pointer (some ⟨b,0,none⟩)),(1,.int .i64 (v:Int)),(5,vl),(6,.slice LB (o.length+1) lb),(11,.pointer (some (adr LB (o.length*3)))),(34,.slice GA ps.length gc),(35,.int .i64 (ps.length:Int)),(36,.int .i64 (i:Int))])
   (λy W=>Ext w9.drew W/\Blk W y.1 76 [.bool false,.pointer none]/\w9.drew.heap.size<=y.1/\TrV (λk=>Xf w5.heap.size (.slice LB (o.length+1) lb) k∨k=y.1) W (Tr.put d (x.getD m V0) (wt x) t) (.pointer y.2)) ?_ ?_
  .rintro⟨dz,p2⟩ W ⟨ea,fx,fc,fh⟩;simp only at fx fc fh;refine Zr (fuel':=0) 8 [(2,16),(2,17)] (lst 18 18) kr kr rfl ?_;refine Qv ?_;refine stW fx ?_;intro W2 fw cn i8;refine Jl (Xz ?_);refine Qv ?_;refine ρ ?_;refine Xz ?_;refine Iw (Xa ?_);refine Yx kr ?_;refine ρ ?_;have d5:Ext w5 W:=b8.trans ea;have cc:Ext w9 W:=Z.trans ea;have ed:w9.heap.size<=dz:=nL Z.size fc;have ap:GrN (λk=>k=dz) W W2:=GrN.by cn λk C=>by injection C with C;exact C.symm
   have fl:W2.ownsRow w5.heap.size 78 3 (.slice LB (o.length+1) lb) (o.length+1) (Qw (o++[([kv,.bool d,.pointer q],(x.take m,t))])):=Je (Jk ay cc) ap λg eg e=>by have:=(ax g eg).2;omega
   refine Ja fw ?_;refine ρ ?_;refine Go.Wk.kv 108 (congrArg (λp=>Value.pointer (some p)) (Xv LB (o.length*3) 1)) ?_;refine stoG (q:=o.length*3+1) (cs:=[.bool d,.pointer p2]) fl (by simp;omega) (by simp) ?_ Qtd;intro W3 cx cm;have dh:∀ p∈o,p.1.length=3:=λp hp=>(aj.el p (by simp[hp])).len;have i6:=Xkb dh kv (.bool d) (.pointer q) (.bool d) (.pointer p2) (x.take m,t) (x.take m,Tr.put d (x.getD m V0) (wt x) t);rw[show o.length*3+1+([Value.bool d,.pointer p2]:List Value).length=o.length*3+1+2 from rfl,i6]at cx;have d4:Ext w5 W2:=Qa d5 cn λk C=>by injection C with C;have:=b9.size;omega
   have d3:Ext w5 W3:=Qa d4 cm λk C=>(ax k C).1;have co:GrN (λk=>Xf w5.heap.size (.slice LB (o.length+1) lb) k) W2 W3:=GrN.by cm λk C=>.inr C
   have cq:∀ p:List Value×BkT,BkE d (Xf w5.heap.size (.slice LB (o.length+1) lb)) w9 p.1 p.2->BkE d (Xf w5.heap.size (.slice LB (o.length+1) lb)) W3 p.1 p.2:=λp hp=>by
    have J:BkE d (λk=>Xf w5.heap.size (.slice LB (o.length+1) lb) k∨k=dz) w9 p.1 p.2:=hp.old λk C=>C.imp id λe=>by rw[e];exact ed
    exact(((J.ext cc).gr (ap.mono λk _ C=>.inr C)).old λk C=>.inl (.inl C)).gr co
   refine ρ ?_;refine Jf (i+1) (.slice LB (o.length+1) lb) sO ⟨li,d3,o++[([kv,.bool d,.pointer p2],(x.take m,Tr.put d (x.getD m V0) (wt x) t))],⟨?_,λp hp=>?_⟩,?_,by simp;omega,λp hp=>?_⟩ om
   .have:(o++[([kv,Value.bool d,.pointer p2],(x.take m,Tr.put d (x.getD m V0) (wt x) t))]).length=o.length+1:=by simp
    rw[this];exact cx
   .rcases List.mem_append.1 hp with J|J
    .have:=aj.el p (by simp[J]);rw[ac]at this;exact cq p this
    rw[List.mem_singleton.1 J];obtain⟨ir,q3,e3,f0,_⟩:=cq ([kv,.bool d,.pointer q],(x.take m,t)) fa;simp only[List.cons.injEq,and_true,true_and]at e3;rw[<-e3.1]at f0;exact⟨kv,.pointer p2,rfl,f0,((fh.gr (ap.mono λk _ C=>.inr C)).old λk C=>.inl (.inl C)).gr co⟩
   .rw[f4];simp
   rcases List.mem_append.1 hp with J|J
   .have:=f2 p J;rw[Nat.succ_mul];omega
   rw[List.mem_singleton.1 J];have h2:=Jwf d (x.getD m V0) (wt x) t;have h3:=Tr.put_sz d (x.getD m V0) (wt x) t;have h4:=eh x;simp only;rw[Nat.succ_mul];omega
  intro rest;refine htwo 11 15 kr rfl rfl rfl ?_ ?_
  .refine clR (Jsl (em.ext Z) bd ei (λk C=>nM (bh k C) Z.size) h0 ch e2) ?_;rintro u W ⟨q2,rfl,bf,hy⟩;obtain⟨p2,rfl⟩:=bf.ptr;refine Jl (Jcn hy ?_);refine Zr (fuel':=4) 8 [(0,12),(0,13)] (lst 18 14) kr kr rfl ?_;refine ρd ?_;refine Xa ?_;refine Gn (fuel':=3) 14 kr kr rfl rfl ?_;refine ρp ?_;refine ρd ?_;refine Xa ?_;refine Zr (fuel':=2) 8 [(1,15)] (lst 18 16) kr kr rfl ?_;refine dalc' (cs:=[.bool false,.pointer none]) Kx ?_;intro W2 bq b1 ai az;refine Iw (Xa ?_);exact rest (bq,p2) _ _ ⟨hy.trans b1,az,Nat.le_trans hy.size ai,(bf.old λk C=>C.imp id λe=>by rw[e];exact ai).ext b1⟩ sB
  refine Jw Kx ?_;intro W bq hy ai az;refine Jl (Jcn hy ?_);refine Zr (fuel':=3) 8 [(1,11),(0,12),(0,13)] #[true,true,true,true,true,true,true,true,true,true,true,true,true,true,false,true,false,false] kr kr rfl ?_;refine ρd ?_;have hf:∀ k,(Xf w5.heap.size (.slice LB (o.length+1) lb) k∨k=bq)->k<W.heap.size:=λk C=>by
   rcases C with h'|h'
   .exact nM (bh k h') (Z.trans hy).size
   rw[h'];exact az.lt
  refine dcl (Jsl (N:=λk=>Xf w5.heap.size (.slice LB (o.length+1) lb) k∨k=bq) (((em.ext Z).old λk C=>C.imp id λe=>by rw[e];exact ai).ext hy) bd (ei.ext hy) hf h0 ch e2) ?_;rintro u W2 ⟨q2,rfl,bf,b1⟩;obtain⟨p2,rfl⟩:=bf.ptr;refine⟨b1,?_⟩;refine ρd ?_;refine Xa ?_;refine Gn (fuel':=2) 14 kr kr rfl rfl ?_;refine ρp ?_;refine ρd ?_;refine Xa ?_;refine hlist (listed':=lst 18 16) kr ?_;exact rest (bq,p2) _ _ ⟨hy.trans b1,az.ext b1,ai,bf⟩ sB
 have h6:i=ps.length:=by have:=oF h;omega
 clear h;rw[h6,<-de,List.take_length]at ab;have dq:GInv d wt m (R v) (Yz d wt m (R v)):=Jvm hlt λy hy=>by rw[(hF.rows v hv y hy).1,c5];omega
 have b6:=au.trans D;have ik:=(GrN.ext (N:=λk=>k=mb) (a1.trans D));have fq:=dn.ext D;have ie:=fq.lt;have i0:=c7.ext D;have ha:=Jk s3 (a1.trans D);have eu:∀ g,(Value.slice LA G.length lc).ownBlock=some g->¬ g=mb:=λg eg e=>by have:=(ao g eg).1;have:=dn.lt;omega
 have h8:¬ b=mb:=λe=>by have:=hB.lt;omega
 have dm:=dn.lt;have i2:∀ k,(AR k∨k=mb)->k<w6.heap.size:=by
  rintro k (h'|h')
  .have:=hARl k h';have:=(bj.size);have:=D.size;omega
  omega
 refine ρ ?_;refine Zj (fun (j:Nat) (mc:Nat) (fm:Lit->Option Value)=>[(0,.pointer (some ⟨b,0,none⟩)),(1,.int .i64 (v:Int)),(6,.slice LA G.length lc),(110,.slice LA G.length lc),(111,.int .i64 (G.length:Int)),(112,.int .i64 (j:Int))])
  (λj mc fm w'=>j<=G.length/\GrN (λk=>k=mb) w6 w'/\MapS prog 9 w' mb mc fm/\mc<=j/\∀ k:Row,(fm (.string (idn k))=none/\Gd ((G.map (·.2)).take j) k=0)∨∃ y,fm (.string (idn k))=some y/\0<Gd ((G.map (·.2)).take j) k/\NatX (λk=>AR k∨k=mb) w' y (Gd ((G.map (·.2)).take j) k)) (λj _ _=>G.length-j) 0 0 (λ_=>none) sB
  ⟨Nat.zero_le _,GrN.refl _ _,fq,Nat.le_refl _,λk=>.inl ⟨rfl,rfl⟩⟩ ?_
 rintro j mc fm w7 ⟨hj,O,fp,j3,dj⟩;have c6:=Jy i0 O h8;have ak:=Je am.own O eu;have fj:=Je ha O λg eg e=>by have:=(d0 g eg).2;omega
 have ca:Ext wF w7:=O.old b6 λk C=>by rw[C];exact gu
 refine ciR (λh=>?_) (λh=>?_)
 .have lj:j<G.length:=by have:=oT h;omega
  clear h;obtain⟨z,hz⟩:∃ z,z=G[j]:=⟨_,rfl⟩;have af:z∈G:=by rw[hz];exact List.getElem_mem lj
  have e5:z.2∈Yz d wt m (R v):=by rw[<-ab];exact List.mem_map_of_mem af
  have f9:=(am.el z af).gr (O.mono λk _ C=>.inl (by rw[C];exact dm));obtain⟨kv,zq,b4,bw,b5⟩:=id f9;obtain⟨zp,rfl⟩:=b5.ptr;obtain⟨an,ae,rfl,ij,ii,ex,_⟩:=id bw;have a7:FitR z.2.1:=by
   obtain⟨y,hy,e1,_⟩:=entL_ne.1 (dq.con z.2 e5).2;have:=(hF.rows v hv y hy).2;rw[<-e1];exact⟨by have:=this.1;rw[List.length_take];omega,λu hu=>this.2 u (List.mem_of_mem_take hu)⟩
  have dk:∀ i u,([.slice an z.2.1.length ae,.bool d,.pointer zp]:List Value)[i]?=some u->w7.cell? ((adr LA (j*3)).add i)=some u:=λi u hu=>by
   have h5:i<3:=(List.getElem?_eq_some_iff.1 hu).1;rw[Xv];refine(Rd.own ak).cell ?_;rw[Jjj (p:=z) (λp hp=>(am.el p hp).len) (by rw[hz];exact gE lj) h5,b4];exact hu
  refine Qp 3 j (Rd.own ak) lj ?_;refine Jh (cs:=[.slice an z.2.1.length ae,.bool d,.pointer zp]) dk ?_;refine Jw Jfl ?_;intro w8 j8 d2 fd fy;refine Qh (cs':=[.slice an z.2.1.length ae,.bool d,.pointer zp]) fy ?_ (Jbz rfl);intro w9 du j6 c1;have ee:Ext w7 w9:=c1 w7 d2 fd;have e9:Ext w9 w9.drew:=(Ext.refl w9).drew;have a5:=ee.trans e9;refine ρ ?_;refine drN (λ_=>False) 10 [(0,0),(0,1),(0,2),(0,3),(0,4),(0,5),(0,6),(0,7),(0,8),(0,10),(0,11),(1,9),(1,12),(2,13)] kr ?_;have cw:=Rd.own (Jk fj a5);have bp:=du.ext e9;refine ρn ?_;refine nld (Jr ((c6.ext a5).at (i:=8) rfl) (λe=>e)) ?_;refine ρn ?_;refine nix v cw hv ?_;refine ρn ?_;refine nld (Jr (cw.cell (show(ta.set v (.map (some mb)))[v]?=some (.map (some mb)) by rw[List.getElem?_set_self om])) (λe=>e)) ?_;refine ρn ?_;refine nld (Jr (bp.at (i:=0) rfl) (λe=>e)) ?_;refine ρn ?_;refine Zh (cs:=[.bool d,.pointer zp]) (λw' hg j u hu=>Jr (bp.sub (i:=1) (j:=j) (by rw[Nat.add_comm];exact hu)) (λe=>e) w' hg) ?_
  refine ρn ?_;refine nop ?_;refine cl (Jzn (r:=z.2.1) (hF.tb.ext (ca.trans a5)) (ex.ext a5) (λu hu=>(a7.2 u hu).1) (by have:=a7.len;omega) (by have:=a7.1;omega)) ?_;rintro un g9 ⟨rfl,a2⟩;refine ρ ?_;refine Ju (GrN.ext a2) ?_;refine ρn ?_;refine nop ?_;refine cl (Jsk ((b5.ext a5).ext a2) (Nb.big (k:=i) fi he om (b3 z af).1)) ?_;rintro uy bs ⟨c8,h7,a9⟩;obtain⟨YA,yc,rfl,_⟩:=id c8;have cd:=(a5.trans a2).trans a9;refine ρ ?_;refine Ju (GrN.ext a9) ?_;refine ρn ?_;refine Xu ?_;refine mup KS (fp.ext cd) (by unfold maxLen;omega) (Kw a7) ?_;intro br ft ah;have bn:GrN (λk=>k=mb) bs br:=GrN.by ah λk C=>by injection C with C;exact C.symm
  have bm:GrN (λk=>k=mb) w7 br:=(GrN.ext cd).trans bn;have gd:NatX (λk=>AR k∨k=mb) br (.slice YA (Jq z.2.2.sum).length yc) z.2.2.sum :=
   (h7.x c8 λk C=>nM (i2 k C) (nL O.size (a5.trans a2).size)).gr (bn.mono λk _ C=>.inr C)
  have g2:(G.map (·.2)).take (j+1)=(G.map (·.2)).take j++[z.2]:=by
   rw[List.take_succ_eq_append_getElem (by rw[List.length_map];exact lj),List.getElem_map,hz]
  have gn:z.2.1 ∉ ((G.map (·.2)).take j).map (·.1):=by
   have J:=dq.lt;rw[<-ab,<-List.take_append_drop (j+1) (G.map (·.2)),g2,List.map_append,List.map_append]at J
   intro hm;have h2:=(List.pairwise_append.1 (List.pairwise_append.1 J).1).2.2 _ hm z.2.1 (by simp);rw[Ye]at h2;omega
  refine ρ ?_;refine Qe (j+1) (mc+1) (upL fm (.string (idn z.2.1)) (some (.slice YA (Jq z.2.2.sum).length yc))) sO ⟨lj,O.trans bm,ft,om,λk=>?_⟩ om;rw[g2,Qlm _ _ _ gn];by_cases e:z.2.1=k
  .rw[if_pos e,<-e,Kg (KS.key (Kw a7))];exact .inr ⟨_,rfl,Qlk dq e5,gd⟩
  rw[if_neg e,Ua (λe'=>e (Jcz (by injection e'.symm)))];rcases dj k with J|⟨y,J,h2,h3⟩
  .exact .inl J
  exact .inr ⟨y,J,h2,h3.gr (bm.mono λk _ C=>.inr C)⟩
 have gy:j=G.length:=by have:=oF h;omega
 clear h;have di:(G.map (·.2)).take j=Yz d wt m (R v):=by rw[ab,gy,List.take_of_length_le];rw[<-ab,List.length_map];exact nR _
 rw[di]at dj;have aa:=Je (Jk fu (a1.trans D)) O λg eg e=>by have:=(e4 g eg).2;omega
 have ff:=Je (Jk cr (a1.trans D)) O λg eg e=>by have:=(ga g eg).2;omega
 obtain⟨r1,r2,r3,r4,r5⟩:=Vc aa (q:=v) om (.slice LA G.length lc);have il:ba.length=f:=by have:=hBa.1;omega
 refine ldR (c6.at (i:=9) rfl) ?_;refine ixR v (Rd.own aa) hvf ?_;refine Xo (r1.trans (show ba[v]?=some (ba.getD v (.slice none 0 0)) by simp[List.getD,List.getElem?_eq_getElem (show v<ba.length by omega)])) r2 ?_;refine ρ ?_;obtain⟨w8,ej⟩:∃ w8,w8=w7.setCell (adr KA v) (.slice LA G.length lc):=⟨_,rfl⟩;rw[<-ej]at r3 r5 ⊢;clear ej;have f3:GrN AR w w7:=(((bj.trans (GrN.ext D)).mono λk _ C=>(.inl C:AR k∨k=mb)).trans (O.mono λk _ C=>.inr C)).mono λk C h=>h.elim id λe=>by omega
 have bl:GrN AR w7 w8:=GrN.by r5 λk C=>hAR k (.inr (.inr C))
 have f6:GrN (λk=>AR k∨k=mb) w6 w8:=(O.mono λk _ C=>.inr C).trans (bl.mono λk _ C=>.inl C);have bo:=Ze ak aa r5 rfl;have cy:¬ AR mb:=by
  intro h';have:=hARl mb h';omega
 have cz:∀ k,(AR k∨k=mb)->k<w5.heap.size:=by
  rintro k (h'|h')
  .have:=hARl k h';have:=(bj.size);omega
  omega
 refine Jj ⟨rfl,.map (some mb),.slice LA G.length lc,⟨Qa ca r5 λk C=>(e4 k C).1,c6.grown r5 (c6.ne_own aa rfl),Ze ff aa r5 rfl,Ze fj aa r5 rfl⟩,r3,f3.trans bl,
  ⟨mb,mc,fm,rfl,om,⟨fp.kept r5 (λe=>cy (hAR mb (.inr (.inr e.symm)))),cy⟩,λk=>?_⟩,
  ⟨G,LA,lc,ab.symm,rfl,gw,om,Rd.own bo,λh0 ad e=>?_,λp hp=>⟨(am.el p hp).len,?_⟩⟩⟩
 .rcases dj k with J|⟨y,J,h2,h3⟩
  .exact .inl J
  exact .inr ⟨y,J,h2,(h3.old λk C=>.inl (.inl C)).gr bl⟩
 .intro hA;have:=(ao ad.block (by rw[e];simp[Value.ownBlock])).1;have:=cz _ (.inl hA);omega
 have J:BkE d (λk=>AR k∨k=mb) w6 p.1 p.2:=(am.el p hp).old λk C=>.inl (.inl (cz k C));exact(J.gr f6).old λk C=>.inl (.inl C)
end Go.Proofs.YtgobkbeokaaplaaGreatDoor
namespace Go.Proofs.YtgobkbeokaaplaaGreatDoor
open Pl Go.Wk
variable {k n v:Nat}{g h pl:Nat->Nat}
def Ql: Nat->(Nat->Nat)->Nat
 | 0,_=>0
 | n+1,g=>Ql n g+g n
theorem Jgh(e:∀ c,c<n->g c=h c): Ql n g=Ql n h:=by
 induction n with
 | zero=>rfl
 | succ n ih=>rw[Ql,Ql,ih (λc i=>e c om),e n om]
theorem Jsw(n:Nat)(g h:Nat->Nat): Ql n (λc=>g c+h c)=Ql n g+Ql n h:=by
 induction n with
 | zero=>rfl
 | succ n ih=>rw[Ql,Ql,Ql,ih];omega
theorem Jss(e:∀ c,c<n->g c=0): Ql n g=0:=by
 induction n with
 | zero=>rfl
 | succ n ih=>rw[Ql,ih (λc i=>e c om),e n om]
theorem Qmb(g:Nat->Nat)(hk:k<n): g k<=Ql n g:=by
 induction n with
 | zero=>omega
 | succ n ih=>
  grind [Ql]
theorem Qlz(x:Nat)(hv:v<n): Ql n (λc=>if c=v then x else 0)=x:=by
 induction n with
 | zero=>omega
 | succ n ih=>
  grind [Ql,Jss]
theorem pw2(a b s t:Nat)(h:a*s<=b*t): (2^a)^s<=(2^b)^t:=by
 rw[<-Nat.pow_mul,<-Nat.pow_mul];exact Nat.pow_le_pow_right (by decide) h
theorem Jpr{T T':Nat->Row->Nat}{x:Row}: ∀ {l:List (Nat×List Nat)},(∀ p∈l,T p.1=T' p.1)->wtL T x l=wtL T' x l
 | [],_=>rfl
 | p::l,h=>by rw[wtL,wtL,h p mC,Jpr λq hq=>h q (List.mem_cons_of_mem _ hq)]
section
variable (n f:Nat) (kf:Nat->Nat) (pf:Nat->Int) (R:Nat->List Row) (ds:List Bool)
def lastC(v:Nat): Nat:=(bk (kf v ||| 2^v) 32).length-1
noncomputable def Kp(T:Nat->Row->Nat)(v:Nat): Row->Nat :=
 if v<n then(if v<f then Gd (Yz (ds.getD v false) (λx=>wtL T x (chK kf pf v n)) (lastC kf v) (R v)) else Uo (R v) (Vq kf v) λx=>wtL T x (chK kf pf v n)) elseλ_=>0
noncomputable def TF: Nat->Nat->Row->Nat
 | 0=>λ_ _=>0
 | s+1=>λv=>Kp n f kf pf R ds (TF s) v
noncomputable def TV(pl:Nat->Nat)(v:Nat): Row->Nat:=TF n f kf pf R ds (pl v+1) v
variable {n f:Nat} {kf:Nat->Nat} {pf:Nat->Int} {R:Nat->List Row} {ds:List Bool}
theorem Jsx{T T':Nat->Row->Nat}(h:∀ c,c<n->pf c=(v:Int)->T c=T' c): Kp n f kf pf R ds T v=Kp n f kf pf R ds T' v:=by grind [wtL,chK,kf,Jpr,Jqm,Kp]
def ChF(n:Nat)(pf:Nat->Int)(pl:Nat->Nat): Prop:=∀ c v:Nat,c<n->pf c=(v:Int)->v<n/\pl c<pl v
theorem Qdl{pl:Nat->Nat}(hch:ChF n pf pl): ∀(s s' v:Nat),v<n->pl v<s->pl v<s'->TF n f kf pf R ds s v=TF n f kf pf R ds s' v
 | 0,_,_,_,h,_=>by omega
 | s+1,0,_,_,_,h=>by omega
 | s+1,s'+1,v,hv,h1,h2=>Jsx λc hc hp=>by
  have:=(hch c v hc hp).2;exact Qdl hch s s' c hc om om
theorem Qdk(hch:ChF n pf pl)(hv:v<n): TV n f kf pf R ds pl v=Kp n f kf pf R ds (TV n f kf pf R ds pl) v :=
 Jsx λc i hp=>by
  have:=(hch c v i hp).2;exact Qdl hch (pl v) (pl c+1) c i om om
theorem Qdh(hv:¬ v<n)(k:Row): TV n f kf pf R ds pl v k=0:=by
 show Kp n f kf pf R ds _ v k=0;grind [Kp]
theorem Jff(hch:ChF n pf pl)(hfn:f<=n)(hv:v<f): TV n f kf pf R ds pl v=Gd (Yz (ds.getD v false) (λx=>wtL (TV n f kf pf R ds pl) x (chK kf pf v n)) (lastC kf v) (R v)):=by grind [Qdk,Kp]
theorem Jyj(hch:ChF n pf pl)(hv:v<n)(hf:f<=v): TV n f kf pf R ds pl v=Uo (R v) (Vq kf v) λx=>wtL (TV n f kf pf R ds pl) x (chK kf pf v n):=by grind [Qdk,Kp]
section
variable (n) (pf)
def stF: Nat->Nat->Nat
 | 0=>λ_=>0
 | s+1=>λv=>1+Ql n λc=>if pf c=(v:Int) then stF s c else 0
def stV(pl:Nat->Nat)(v:Nat): Nat:=stF n pf (pl v+1) v
end
theorem Jtd{pl:Nat->Nat}(hch:ChF n pf pl): ∀(s s' v:Nat),v<n->pl v<s->pl v<s'->stF n pf s v=stF n pf s' v
 | 0,_,_,_,h,_=>by omega
 | s+1,0,_,_,_,h=>by omega
 | s+1,s'+1,v,hv,h1,h2=>by
  show 1+_=1+_;congr 1
  refine Jgh λc hc=>?_;split
  .rename_i hp;have:=(hch c v hc hp).2;exact Jtd hch s s' c hc om om
  rfl
theorem Jtc(hch:ChF n pf pl)(hv:v<n): stV n pf pl v=1+Ql n λc=>if pf c=(v:Int) then stV n pf pl c else 0:=by
 show 1+_=1+_;congr 1
 refine Jgh λc i=>?_;split
 .rename_i hp;have:=(hch c v i hp).2;exact Jtd hch (pl v) (pl c+1) c i om om
 rfl
theorem Jsz{pl:Nat->Nat}(hch:ChF n pf pl)(hpf:∀ c,c<n->pf c = -1∨∃ p:Nat,pf c=p/\p<n)(hin:∀ u v,u<n->v<n->pl u=pl v->u=v)(hat:∀ i,i<n->∃ v,v<n/\pl v=i):
  ∀ i,i<=n->Ql n (λc=>if pl c<i/\(pf c = -1∨i<=pl (pf c).toNat) then stV n pf pl c else 0)=i
 | 0,_=>Jss λc _=>if_neg om
 | i+1,hi=>by
  have ih:=Jsz hch hpf hin hat i om;obtain⟨v,hv,hpv⟩:=hat i om;have e1:Ql n (λc=>(if pl c<i+1/\(pf c = -1∨i+1<=pl (pf c).toNat) then stV n pf pl c else 0)+if pf c=(v:Int) then stV n pf pl c else 0)=Ql n (λc=>(if pl c<i/\(pf c = -1∨i<=pl (pf c).toNat) then stV n pf pl c else 0)+if c=v then stV n pf pl v else 0):=by
   refine Jgh λc hc=>?_;by_cases ec:c=v
   .subst ec;have hne:pf c≠(c:Int):=λe=>by have:=(hch c c hc e).2;omega
    rw[if_neg hne,if_pos rfl,if_neg (show¬ (pl c<i/\_) by omega)];rw[if_pos]
    .omega
    refine⟨om,?_⟩;rcases hpf c hc with h|⟨p,h,_⟩
    .exact .inl h
    have:=(hch c p hc h).2;rw[h];right;simp only[Int.toNat_natCast];omega
   rw[if_neg ec];have hnp:pl c≠i:=by grind
   by_cases ep:pf c=(v:Int)
   .have h1:=(hch c v hc ep).2;grind [Int.toNat_natCast]
   repeat grind
  rw[Jsw,Jsw,Qlz _ hv,ih,Jtc hch hv]at e1;omega
theorem Qmn(hch:ChF n pf pl)(hpf:∀ c,c<n->pf c = -1∨∃ p:Nat,pf c=p/\p<n)(hin:∀ u v,u<n->v<n->pl u=pl v->u=v)(hat:∀ i,i<n->∃ v,v<n/\pl v=i)(hpl:∀ v,v<n->pl v<n)(hv:v<n): stV n pf pl v<=n:=by
 have o:=Jsz hch hpf hin hat (pl v+1) (hpl v hv);have j:=Qmb (n:=n) (λc=>if pl c<pl v+1/\(pf c = -1∨pl v+1<=pl (pf c).toNat) then stV n pf pl c else 0) hv;rw[o]at j;have C:pl v<pl v+1/\(pf v = -1∨pl v+1<=pl (pf v).toNat):=by
  refine⟨om,?_⟩;rcases hpf v hv with h|⟨p,h,_⟩
  .exact .inl h
  have:=(hch v p hv h).2;rw[h];right;simp only[Int.toNat_natCast];omega
 grind
theorem Jpq{T:Nat->Row->Nat}{x:Row}{st:Nat->Nat}{kf:Nat->Nat}{pf:Nat->Int}{v n:Nat}(hT:∀ c,c<n->pf c=(v:Int)->∀ k,T c k<=65536^st c): ∀ k,k<=n->wtL T x (chK kf pf v k)<=65536^Ql k (λc=>if pf c=(v:Int) then st c else 0)
 | 0,_=>nR _
 | k+1,hk=>by
  have ih:=Jpq (T:=T) (x:=x) (kf:=kf) hT k om;rw[Jdn,Jkn,Ql,Nat.pow_add];refine Nat.mul_le_mul ih ?_;split
  .rename_i hp;rw[wtL,wtL,Nat.mul_one];exact hT k om hp _
  exact nR _
theorem Jsn{wt:Row->Nat}{m S:Nat}(h:∀ x,wt x<=S)(k:Row): ∀ rs:List Row,tot (Xy wt m rs k)<=rs.length*S
 | []=>by simp[Xy,tot]
 | x::rs=>by
  have ih:=Jsn (m:=m) h k rs;have e:tot (Xy wt m (x::rs) k)<=wt x+tot (Xy wt m rs k):=by
   unfold Xy;rw[List.filter_cons];split
   .rw[List.map_cons,tot];exact nR _
   omega
  grind [List.length_cons,Nat.succ_mul]
theorem Qdj{pl:Nat->Nat}(hch:ChF n pf pl)(hfn:f<=n)(hlt:∀ v,v<f->Lt [] (R v))(hl:∀ v,v<f->∀ y∈R v,y.length=lastC kf v+1)(hR:∀ v,v<n->(R v).length<=65536):
  ∀(s v:Nat),v<n->pl v<s->∀ k,TV n f kf pf R ds pl v k<=65536^stV n pf pl v
 | 0,_,_,h,_=>by omega
 | s+1,v,hv,hs,k=>by
  have hW:∀ x,wtL (TV n f kf pf R ds pl) x (chK kf pf v n)<=65536^Ql n (λc=>if pf c=(v:Int) then stV n pf pl c else 0):=λx=>
   Jpq (λc hc hp k=>Qdj hch hfn hlt hl hR s c hc (by have:=(hch c v hc hp).2;omega) k) n (nR _)
  rw[Jtc hch hv,Nat.pow_add,Nat.pow_one];by_cases hf:v<f
  .rw[Jff hch hfn hf,Jgc,(Jvm (hlt v hf) (hl v hf)).entK,Jdl];exact nL (Jsn hW k _) (nO _ (hR v hv))
  rw[Jyj hch hv om];grind [Nat.le_trans,Qjv,Nat.mul_pos,Nat.pow_pos]
theorem Jpf(hch:ChF n pf pl)(c:Nat)(hc:f<=c)(k:Row): TV n f kf pf R ds pl c k<=1:=by
 by_cases h:c<n
 .rw[Jyj hch h hc];exact Qjv
 rw[Qdh h];omega
theorem Xdd(hch:ChF n pf pl)(hfn:f<=n)(hn:n<=32)(hpf:∀ c,c<n->pf c = -1∨∃ p:Nat,pf c=p/\p<n)(hin:∀ u v,u<n->v<n->pl u=pl v->u=v)(hat:∀ i,i<n->∃ v,v<n/\pl v=i)(hpl:∀ v,v<n->pl v<n)(hlt:∀ v,v<f->Lt [] (R v))(hl:∀ v,v<f->∀ y∈R v,y.length=lastC kf v+1)(hR:∀ v,v<n->(R v).length<=65536)(c:Nat)(k:Row): TV n f kf pf R ds pl c k<=4294967296^20:=by
 by_cases h:c<n
 .refine nL (Qdj hch hfn hlt hl hR (pl c+1) c h om k) ?_;have o:=Qmn hch hpf hin hat hpl h;have j:=pw2 16 32 (stV n pf pl c) 20 om;grind
 rw[Qdh h];omega
end
open Pl Go.Wk
variable {c i s t u v:Nat}
structure ElR(n f m:Nat)(es perm:List Nat)(vars:Nat->List Nat)(rs:Nat->List Row)(kf:Nat->Nat)(pf:Nat->Int)(R:Nat->List Row): Prop where
 pm:PermOk n f perm
 n32:n<=32
 lt:∀ i,i<m->∀ v∈vars i,v<n
 len:∀ i,i<m->∀ r∈rs i,r.length=(vars i).length
 el:es.length=m
 eb:∀ i,i<m->∀ u,(es.getD i 0).testBit u=true↔u∈vars i
 ep:∀ e∈es,e<2^n
 bags:Jkl n es (Xb perm f) kf pf
 rows:∀ v,v<n->Jfh n m vars rs (kf v ||| 2^v) (R v)
section
variable {n f m:Nat} {es perm:List Nat} {vars:Nat->List Nat} {rs:Nat->List Row} {kf:Nat->Nat} {pf:Nat->Int} {R:Nat->List Row} {ds:List Bool}
abbrev plO(perm:List Nat)(f:Nat): Nat->Nat:=plc (Xb perm f)
theorem PermOk.plN(h:PermOk n f perm)(hv:v<n): plO perm f v<n:=by
 have:=(Kj h.ond (h.omem.2 hv)).1;rw[h.olen]at this;exact this
theorem PermOk.inj(h:PermOk n f perm)(hu:u<n)(hv:v<n)(e:plO perm f u=plO perm f v): u=v:=by
 rw[<-(Kj h.ond (h.omem.2 hu)).2,<-(Kj h.ond (h.omem.2 hv)).2];show(Xb perm f).getD (plO perm f u) 0=(Xb perm f).getD (plO perm f v) 0;rw[e]
theorem PermOk.hits(h:PermOk n f perm)(hi:i<n): ∃ v,v<n/\plO perm f v=i:=by
 have j:i<(Xb perm f).length:=by rw[h.olen];exact hi
 exact⟨(Xb perm f).getD i 0,h.olt (getD_mem' 0 _ j),Jqf h.ond j⟩
theorem PermOk.plPerm(h:PermOk n f perm)(hi:i<perm.length): plO perm f (perm.getD i 0)=i:=by
 have j:i<(Xb perm f).length:=by simp[Xb];omega
 have e:(Xb perm f).getD i 0=perm.getD i 0:=by simp[Xb,List.getD,List.getElem?_append_left hi]
 rw[<-e];exact Jqf h.ond j
theorem PermOk.plFree(h:PermOk n f perm)(hu:u<f): plO perm f u=perm.length+(f-1-u):=by
 have i:perm.length+(f-1-u)<(Xb perm f).length:=by simp[Xb];omega
 have e:(Xb perm f).getD (perm.length+(f-1-u)) 0=u:=by
  simp only[Xb,List.getD];rw[List.getElem?_append_right om,Nat.add_sub_cancel_left,List.getElem?_reverse (by simp;omega),List.length_range,List.getElem?_range om];simp only[Option.getD_some];omega
 have:=Jqf h.ond i;rw[e]at this;exact this
theorem PermOk.plLow(h:PermOk n f perm)(hu:u<f)(hv:f<=v)(hn:v<n): plO perm f v<plO perm f u:=by
 have o:v∈perm:=by
  have:=h.omem.2 hn;rcases List.mem_append.1 this with j|j
  .exact j
  have:=List.mem_range.1 (List.mem_reverse.1 j);omega
 obtain⟨i,hi,e⟩:=List.getElem_of_mem o;have j:=h.plPerm hi;rw[Qd 0 _ hi,e]at j;rw[j,h.plFree hu];omega
theorem ElR.inv(h:ElR n f m es perm vars rs kf pf R): NbInv [] (nb0 n es):=Jlf h.ep
theorem ElR.kbit(h:ElR n f m es perm vars rs kf pf R)(hv:v<n)(hu:(kf v).testBit u=true): u<n/\plO perm f v<plO perm f u:=by
 obtain⟨_,G,_⟩:=h.bags v hv;rw[G]at hu;have i:u<n:=Jcm (nb:=nb0 n es) (ord:=Xb perm f) (N:=n) (λa b j=>(Jzj h.ep j).2.1) hu;obtain⟨D,C⟩:=Jcl h.inv h.pm.ond (h.pm.omem.2 hv) hu;have o:=(Jlp h.pm.ond (h.pm.omem.2 hv) (h.pm.omem.2 i)).1 D;refine⟨i,?_⟩;rcases Nat.lt_or_ge (plO perm f v) (plO perm f u) with h6|h6
 .exact h6
 exact absurd (h.pm.inj i hv (Nat.le_antisymm h6 o)) C
theorem ElR.kmem(h:ElR n f m es perm vars rs kf pf R)(hv:v<n): u∈bk (kf v) 32↔(kf v).testBit u=true:=by
 rw[bk_mem];have:=h.n32;exact⟨λi=>i.2,λi=>⟨by have:=(h.kbit hv i).1;omega,i⟩⟩
theorem ElR.par(h:ElR n f m es perm vars rs kf pf R)(hv:v<n): (pf v = -1/\∀ u,(kf v).testBit u=false)∨∃ p:Nat,pf v=p/\(kf v).testBit p=true/\∀ u,(kf v).testBit u=true->plO perm f p<=plO perm f u:=by
 obtain⟨_,o,i⟩:=h.bags v hv;rcases i with⟨i,j⟩|⟨p,i,j,h5⟩
 .exact .inl ⟨i,λu=>by rw[o];exact j u⟩
 exact .inr ⟨p,i,by rw[o];exact j,λu C=>h5 u (by rw[<-o];exact C)⟩
theorem ElR.chf(h:ElR n f m es perm vars rs kf pf R): ChF n pf (plO perm f):=λc v j hp=>by
 rcases h.par j with⟨i,_⟩|⟨p,i,h2,_⟩
 .rw[i]at hp;omega
 have e:p=v:=by rw[i]at hp;omega
 subst e;exact h.kbit j h2
theorem ElR.sub(h:ElR n f m es perm vars rs kf pf R)(hc:c<n)(hp:pf c=(v:Int))(hu:(kf c).testBit u=true): (kf v ||| 2^v).testBit u=true:=by
 have j:=(h.chf c v hc hp).1;rw[Nat.testBit_or,Nat.testBit_two_pow,Bool.or_eq_true,decide_eq_true_eq];by_cases e:u=v
 .exact .inr e.symm
 refine .inl ?_;obtain⟨_,C,_⟩:=h.bags c hc;obtain⟨_,o,_⟩:=h.bags v j;rcases h.par hc with⟨D,_⟩|⟨p,D,h2,h3⟩
 .rw[D]at hp;omega
 have ev:p=v:=by rw[D]at hp;omega
 subst ev;rw[o];refine Xqp h.inv h.pm.ond (h.pm.omem.2 hc) (h.pm.omem.2 j) (by rw[<-C];exact h2) (λx G=>?_) (by rw[<-C];exact hu) e;have i:(kf c).testBit x=true:=by rw[C];exact G
 exact(Jlp h.pm.ond (h.pm.omem.2 j) (h.pm.omem.2 (h.kbit hc i).1)).2 (h3 x i)
theorem Xxx(h:∀ u,t.testBit u=true->s.testBit u=true): inS (bk s 32) t=bk t 32:=by
 unfold inS bk;rw[List.filter_filter];refine List.filter_congr λu _=>?_;cases e:t.testBit u with
 | false=>simp
 | true=>simp[h u e]
theorem Jhs(h:∀ u,t.testBit u=true->s.testBit u=true)(z:Row): pmR (Xw (bk s 32) t) (pmR (bk s 32) z)=pmR (bk t 32) z:=by
 have:=Qqp (bk s 32) t z (bk s 32).length (nR _);rw[List.take_length,Xxx h]at this;exact this
theorem ElR.last(h:ElR n f m es perm vars rs kf pf R)(hv:v<f): bk (kf v ||| 2^v) 32=bk (kf v) 32++[v]:=by
 have hn:=h.n32;have C:=h.pm.fn;have i:∀ u,(kf v).testBit u=true->u<v:=λu o=>by
  obtain⟨j,D⟩:=h.kbit om o;rcases Nat.lt_or_ge u f with h3|h3
  .rw[h.pm.plFree hv,h.pm.plFree h3]at D;omega
  have:=h.pm.plLow hv h3 j;omega
 have e:∀ k,bk (kf v ||| 2^v) k=bk (kf v) k++if v<k then[v] else[]:=by
  intro k;induction k with
  | zero=>rfl
  | succ k ih=>
   rw[Ge,Ge,ih,Nat.testBit_or,Nat.testBit_two_pow];by_cases e:v=k
   .subst e;rw[if_neg (Nat.lt_irrefl v),if_pos (Nat.lt_succ_self v)];have:(kf v).testBit v=false:=by
     cases hb:(kf v).testBit v with
     | false=>rfl
     | true=>have:=i v hb;omega
    rw[this];simp
   rw[decide_eq_false e,Bool.or_false];by_cases hb:(kf v).testBit k=true
   .have:=i k hb;rw[if_pos hb,if_neg om,if_neg om,List.append_nil,List.append_nil]
   rw[if_neg hb,List.append_nil,List.append_nil];by_cases j:v<k
   .rw[if_pos j,if_pos om]
   rw[if_neg j,if_neg om]
 rw[e,if_pos om]
theorem ElR.lastC(h:ElR n f m es perm vars rs kf pf R){v:Nat}(hv:v<f): lastC kf v=(bk (kf v) 32).length/\(bk (kf v ||| 2^v) 32).length=(bk (kf v) 32).length+1:=by
 unfold Go.Proofs.YtgobkbeokaaplaaGreatDoor.lastC;rw[h.last hv];simp
theorem ElR.rlt(h:ElR n f m es perm vars rs kf pf R)(hv:v<f): Lt [] (R v):=(h.rows v (by have:=h.pm.fn;omega)).1
theorem ElR.rl(h:ElR n f m es perm vars rs kf pf R)(hv:v<f): ∀ y∈R v,y.length=Go.Proofs.YtgobkbeokaaplaaGreatDoor.lastC kf v+1:=λy i=>by
 obtain⟨z,_,rfl,_⟩:=((h.rows v (by have:=h.pm.fn;omega)).2.1 y).1 i;rw[Xc,(h.lastC hv).2,(h.lastC hv).1]
theorem ElR.big(h:ElR n f m es perm vars rs kf pf R)(c:Nat)(k:Row): TV n f kf pf R ds (plO perm f) c k<=4294967296^20 :=
 Xdd h.chf h.pm.fn h.n32 (λc C=>by
  rcases h.par C with⟨o,_⟩|⟨p,o,h2,_⟩
  .exact .inl o
  exact .inr ⟨p,o,(h.kbit C h2).1⟩) (λu v D j=>h.pm.inj D j) (λi hi=>h.pm.hits hi) (λv j=>h.pm.plN j) (λv j=>h.rlt j) (λv j=>h.rl j) (λv j=>(h.rows v j).2.2) c k
noncomputable def Jkd(n f m:Nat)(perm:List Nat)(vars:Nat->List Nat)(rs:Nat->List Row)(kf:Nat->Nat)(pf:Nat->Int)(R:Nat->List Row)(ds:List Bool): BX V :=
 ⟨V0,n,f,λv=>bk (kf v) 32,pf,plO perm f,(List.range m).map λi=>(vars i,rs i),TV n f kf pf R ds (plO perm f),
  λv k=>entK (Yz (ds.getD v false) (λx=>wtL (TV n f kf pf R ds (plO perm f)) x (chK kf pf v n)) (Go.Proofs.YtgobkbeokaaplaaGreatDoor.lastC kf v) (R v)) k⟩
theorem ElR.W(h:ElR n f m es perm vars rs kf pf R){T:Nat->Row->Nat}{v:Nat}(z:Row): ∀ k,k<=n->wtL T (pmR (bk (kf v ||| 2^v) 32) z) (chK kf pf v k)=Jg k λc=>if pf c=(v:Int) then T c (pmR (bk (kf c) 32) z) else 1
 | 0,_=>rfl
 | k+1,hk=>by
  rw[Jdn,Jkn,h.W z k om,Jg];congr 1
  split
  .rename_i hp;rw[wtL,wtL,Nat.mul_one,Jhs λu hu=>h.sub om hp hu]
  rfl
theorem ElR.bag(h:ElR n f m es perm vars rs kf pf R)(hv:v<n)(z:Row): Ig m vars rs (kf v ||| 2^v) z↔(Jkd n f m perm vars rs kf pf R ds).bag v z:=by
 have key:∀ i j,i<m->j<(vars i).length->((kf v ||| 2^v).testBit ((vars i).getD j 0)=true↔((vars i).getD j 0=v∨(vars i).getD j 0∈bk (kf v) 32)):=λi j hi u=>by
  rw[h.kmem hv,Nat.testBit_or,Nat.testBit_two_pow,Bool.or_eq_true,decide_eq_true_eq];constructor
  .rintro(o|o)
   .exact .inr o
   exact .inl o.symm
  rintro(o|o)
  .exact .inr o.symm
  exact .inl o
 constructor
 .intro G a O;obtain⟨i,hi,rfl⟩:=List.mem_map.1 O;have hi:=List.mem_range.1 hi;obtain⟨r,D,J⟩:=G i hi;exact⟨r,D,λj u C=>J j u ((key i j hi u).2 C)⟩
 intro G i hi;obtain⟨r,D,J⟩:=G (vars i,rs i) (List.mem_map.2 ⟨i,List.mem_range.2 hi,rfl⟩);exact⟨r,D,λj u C=>J j u ((key i j hi u).1 C)⟩
theorem ElR.ok(h:ElR n f m es perm vars rs kf pf R): (Jkd n f m perm vars rs kf pf R ds).Ok:=by
 have a4:=h.pm.fn;have hn:=h.n32;refine⟨a4,λv C=>h.pm.plN C,λu v G C e=>h.pm.inj G C e,λv C u G=>h.kbit C ((h.kmem C).1 G),λv C=>?_,λv C p hp x hx=>?_,λa ha v a1 Z u O=>?_,λu v G a9=>?_,λu v G C j=>h.pm.plLow G C j,λa ha=>?_,λv hf C k=>?_,λv C k=>?_⟩
 .rcases h.par C with⟨D,J⟩|⟨p,D,J,h3⟩
  .refine .inl ⟨?_,D⟩;refine List.eq_nil_iff_forall_not_mem.2 λu G=>?_;have:=(h.kmem C).1 G;rw[J u]at this;cases this
  exact .inr ⟨p,D,(h.kmem C).2 J,λu G=>h3 u ((h.kmem C).1 G)⟩
 .have a2:pf v=(p:Int):=hp;have D:=h.sub C a2 ((h.kmem C).1 hx);rw[Nat.testBit_or,Nat.testBit_two_pow,Bool.or_eq_true,decide_eq_true_eq]at D;rcases D with D|D
  .exact .inr ((h.kmem (h.chf v p C a2).1).2 D)
  exact .inl D.symm
 .obtain⟨i,hi,rfl⟩:=List.mem_map.1 ha;have hi:=List.mem_range.1 hi;simp only at a1 Z O;by_cases e:u=v
  .exact .inl e
  refine .inr ?_;have j:=h.lt i hi v a1;have a6:=h.lt i hi u O;have a8:(kf v).testBit u=true:=by
   rw[(h.bags v j).2.1];refine Xqq ?_ e ((Jlp h.pm.ond (h.pm.omem.2 j) (h.pm.omem.2 a6)).2 (Z u O));simp only[nb0,Bool.and_eq_true,decide_eq_true_eq,bne_iff_ne,List.any_eq_true];exact⟨⟨j,e⟩,es.getD i 0,getD_mem' 0 es (by rw[h.el];exact hi),(h.eb i hi v).2 a1,(h.eb i hi u).2 O⟩
  exact(h.kmem j).2 a8
 .have a7:u<f:=G;show plO perm f u<plO perm f v;rw[h.pm.plFree a7,h.pm.plFree om];omega
 .obtain⟨i,hi,rfl⟩:=List.mem_map.1 ha;have hi:=List.mem_range.1 hi;exact⟨h.lt i hi,h.len i hi⟩
 .have a5:f<=v:=hf;have o:v<n:=C;refine⟨Jpf h.chf v a5 k,?_⟩;show 0<TV n f kf pf R ds (plO perm f) v k↔_;rw[Jyj h.chf o a5,redT_pos];constructor
  .rintro⟨x,hx,D,J⟩;obtain⟨z,hz,rfl,hb⟩:=((h.rows v o).2.1 x).1 hx;refine⟨z,hz,(h.bag o z).1 hb,?_,?_⟩
   .rw[<-J];exact(Jhs (λu G=>by rw[Nat.testBit_or,G];rfl) z).symm
   rw[h.W z n (nR _)]at D;exact D
  rintro⟨z,hz,hb,J,D⟩;refine⟨pmR (bk (kf v ||| 2^v) 32) z,((h.rows v o).2.1 _).2 ⟨z,hz,rfl,(h.bag o z).2 hb⟩,?_,?_⟩
  .rw[h.W z n (nR _)];exact D
  rw[<-J];exact Jhs (λu G=>by rw[Nat.testBit_or,G];rfl) z
 have o:v<f:=C;have j:v<n:=om
 have hg:=(Jvm (d:=ds.getD v false) (wt:=λx=>wtL (TV n f kf pf R ds (plO perm f)) x (chK kf pf v n)) (h.rlt o) (h.rl o)).entK k;refine⟨?_,λp=>?_⟩
 .show TV n f kf pf R ds (plO perm f) v k=_;rw[Jff h.chf a4 o,Jgc];rfl
 show p∈entK _ k↔_;rw[hg,Qvj,entL_mem];have hl:=h.last o;have a3:=(h.lastC o).1;have e1:∀ z:Row,(pmR (bk (kf v ||| 2^v) 32) z).take (Go.Proofs.YtgobkbeokaaplaaGreatDoor.lastC kf v)=pmR (bk (kf v) 32) z:=λz=>by
  rw[hl,a3];unfold pmR;rw[List.map_append,List.take_left' (by simp)]
 have e2:∀ z:Row,(pmR (bk (kf v ||| 2^v) 32) z).getD (Go.Proofs.YtgobkbeokaaplaaGreatDoor.lastC kf v) V0=z.getD v V0:=λz=>by
  rw[hl,a3];unfold pmR;rw[List.map_append];simp only[List.getD];rw[List.getElem?_append_right (by simp)];simp
 constructor
 .rintro⟨x,hx,D,J,h3,h4⟩;obtain⟨z,hz,rfl,hb⟩:=((h.rows v j).2.1 x).1 hx;refine⟨z,hz,(h.bag j z).1 hb,?_,?_,?_,h4⟩
  .rw[<-D,e1];rfl
  .rw[<-J,e2];rfl
  rw[<-h3,h.W z n (nR _)];rfl
 rintro⟨z,hz,hb,D,J,h3,h4⟩;refine⟨pmR (bk (kf v ||| 2^v) 32) z,((h.rows v j).2.1 _).2 ⟨z,hz,rfl,(h.bag j z).2 hb⟩,?_,?_,?_,h4⟩
 .rw[e1,<-D];rfl
 .rw[e2,<-J];rfl
 rw[h.W z n (nR _),h3];rfl
theorem ElR.srt(h:ElR n f m es perm vars rs kf pf R): (Jkd n f m perm vars rs kf pf R ds).ix.Srt ds:=by
 refine⟨rfl,λv j k=>?_⟩;have i:v<f:=j;show Us _ (entK _ k);rw[(Jvm (h.rlt i) (h.rl i)).entK];exact Xkx (Xkm (h.rlt i) (h.rl i) k)
end
open Go.RowKit Pl Go.Wk
attribute [local irreducible] WC WL QX WD WDB WP WN WG
def Vo(n:Nat)(pf:Nat->Int)(T:Nat->Row->Nat)(ats:List Atm): Nat:=if ats.any (λa=>a.rows.isEmpty) then 0 else Jg n λv=>if pf v = -1 then T v [] else 1
theorem Qrl{n k:Nat}{g:Nat->Nat}(hk:k<n)(h:g k=0): Jg n g=0:=by
 rcases Nat.eq_zero_or_pos (Jg n g) with h'|h'
 .exact h'
 have:=prodR_pos.1 h' k hk;omega
theorem Jxv{S:Nat}(hS:1<=S): ∀ {n:Nat} {g:Nat->Nat},(∀ c,c<n->g c<=S)->Jg n g<=S^n
 | 0,_,_=>nR _
 | n+1,g,h=>by
  rw[Jg,Nat.pow_succ];exact Nat.mul_le_mul (Jxv hS λc hc=>h c om) (h n om)
theorem Qlg{B0 n f b cb cv ct:Nat}{kf:Nat->Nat}{pf:Nat->Int}{R:Nat->List Row}{vR Dv Pv Av Kv:Value}{BA VA TA:Option Addr}{wF w:World}{va ta:List Value}{T:Nat->Row->Nat}{ats:List Atm}{AR:Nat->Prop}(hF:FixW B0 n f kf pf R vR BA wF)(hW:BldW wF b n (bCs n f Dv Pv Av BA cb vR VA cv TA ct Kv) VA cv TA ct w va ta)(hAv:GV 3 AtG wF Av ats)(hpf:∀ c,c<n->pf c = -1∨∃ p:Nat,pf c=p)(hdv:∀ c,c<n->f<=c->DnV AR (T c) w (va.getD c (.map none)))(hdt:∀ c,c<n->c<f->DnT AR (T c) w (ta.getD c (.map none)))(hroot:∀ c,c<n->pf c = -1->f<=c->∀ k,0<T c k->k=[])(hT1:∀ c,f<=c->∀ k,T c k<=1)(hTb:∀ c k,T c k<=4294967296^20):
  Ret Tryz.prog 77 [.pointer (some ⟨b,0,none⟩)] w λu w'=>NatV w' u (Vo n pf T ats)/\Fresh w u/\Ext w w':=by
 have ae:Fresh w (.slice none 0 0):=λad m c e=>by cases e
 obtain⟨a6,hB,b1,bi⟩:=hW;have bn:=hF.n32;obtain⟨AA,ac,c3,rfl,c2,c1,bj,bl⟩:=hAv.parts;refine enE Tryz.func77 Tryz.ntmps77 ?_;refine ldR (hB.at (i:=4) rfl) ?_;refine ρ ?_;refine Qs (fun (i:Nat)=>[(0,.pointer (some ⟨b,0,none⟩)),(2,.slice none 0 0),(12,.slice AA ats.length ac),(13,.int .i64 (ats.length:Int)),(14,.int .i64 (i:Int))])
  (λi w'=>i<=ats.length/\Ext w w'/\∀ j (hj:j<ats.length),j<i->ats[j].rows≠[]) (λi=>ats.length-i) 0 sB ⟨Nat.zero_le _,Ext.refl _,λj hj h=>om⟩ ?_
 rintro i w1 ⟨hi,a1,aw⟩;refine ciR (λh=>?_) (λh=>?_)
 .have li:i<ats.length:=by have:=oT h;omega
  clear h;have O:=a6.trans a1;obtain⟨ce,bz,⟨⟨t1,t2,t3⟩,rfl,b7⟩,ak⟩:=bl i li;obtain⟨⟨PA,pc,ba,bq,bp,bo⟩,b9,a9⟩:=id b7;simp only at ba b9;obtain⟨a4,PG,a5,bm,b8,_⟩:=id a9;simp only at b8 bm;subst ba;subst b9;subst b8;have ab:∀ j u,([.slice PA ats[i].vars.length pc,.int .i64 (ats[i].ar:Int),.slice PG a4.length a5]:List Value)[j]?=some u->w1.cell? ((adr AA (i*3)).add j)=some u:=λj u hu=>Ga O (ak j u hu);refine Qp 3 i (bj.ext O) li ?_;refine Jh (cs:=[.slice PA ats[i].vars.length pc,.int .i64 (ats[i].ar:Int),.slice PG a4.length a5]) ab ?_;refine Jw Yr ?_;intro w2 bb a8 am an;refine Qh (cs':=[.slice PA ats[i].vars.length pc,.int .i64 (ats[i].ar:Int),.slice PG a4.length a5]) an ?_ (Ij rfl);intro w3 b5 bw J;have Z:Ext w1 w3:=J w1 a8 am;refine Jh (cs:=[.int .i64 (ats[i].ar:Int),.slice PG a4.length a5]) (λj u hu=>b5.sub (i:=1) (j:=j) (by rw[Nat.add_comm];exact hu)) ?_;refine clR (Jwd (b7.ext (O.trans Z)).rel) ?_
  rintro u w4 ⟨rfl,a7⟩;refine ciR (λh=>?_) (λh=>?_)
  .have h0:ats[i].rows.length=0:=by have:=Zv h;omega
   refine ρ ?_;refine Jj ⟨?_,ae,(a1.trans Z).trans a7⟩;grind [Vo,List.any_eq_true.2,List.getElem_mem,List.isEmpty_iff,List.eq_nil_of_length_eq_zero,NatV.nil]
  have h0:ats[i].rows.length≠0:=λe=>by have:=Zz h;omega
  refine ρ ?_;refine Qm (i+1) sO ⟨li,(a1.trans Z).trans a7,λj hj br=>?_⟩ om;grind
 have bg:i=ats.length:=by grind
 clear h;have ag:ats.any (λa=>a.rows.isEmpty)=false:=by grind [List.any_eq_false,List.getElem_of_mem,List.isEmpty_iff.1]
 have ah:Vo n pf T ats=Jg n λv=>if pf v = -1 then T v [] else 1:=by unfold Vo;rw[ag];rfl
 rw[ah];clear ah ag aw bg;obtain⟨g,hg⟩:∃ g:Nat->Nat,g=λv=>if pf v = -1 then T v [] else 1:=⟨_,rfl⟩
 rw[<-hg];have ax:∀ v,g v<=4294967296^20:=λv=>by grind
 have be:∀ k,k<=n->Nb (Jg k g):=λk hk=>Nb.pow (k:=k) (Jxv (Nat.pow_pos (by decide)) λc _=>ax c) om;have bh:∀ v,Nb (g v):=λv=>Nb.pow (k:=1) (by rw[Nat.pow_one];exact ax v) om;refine clR (Jwr 1 (by decide) _) ?_;rintro vp w2 ⟨av,az,a8⟩;have a2:=a1.trans a8;refine ldR ((hB.ext a2).at (i:=5) rfl) ?_;refine ρ ?_;refine Jo (fun (k:Nat) (vp:Value)=>[(0,.pointer (some ⟨b,0,none⟩)),(2,.slice none 0 0),(5,vp),(27,.slice BA n cb),(28,.int .i64 (n:Int)),(29,.int .i64 (k:Int))])
  (λk vp w'=>k<=n/\Ext w w'/\NatV w' vp (Jg k g)/\Fresh w vp) (λk _=>n-k) 0 vp sB ⟨Nat.zero_le _,a2,av,λad m c e=>nL a1.size (az ad m c e)⟩ ?_
 clear az av a2 a8 vp w2;rintro k vp w3 ⟨hk,J,a3,aj⟩;refine ciR (λh=>?_) (λh=>?_)
 .have lk:k<n:=by have:=oT h;omega
  clear h;have aa:∀ j u,(Xq kf pf k)[j]?=some u->w3.cell? ((adr BA (k*3)).add j)=some u:=λj u hu=>by
   have hj:j<3:=by grind [Nat.lt_or_ge,List.getElem?_eq_none,Xq]
   rw[Xv];exact(hF.bags.ext (a6.trans J)).cell ((Yk (sz:=3) (λ_ _=>rfl) lk hj).trans hu)
  refine Qp 3 k (hF.bags.ext (a6.trans J)) lk ?_;refine Jh (cs:=Xq kf pf k) aa ?_;refine Jw zBag ?_;intro w4 bb a7 am an;refine Qh (cs':=Xq kf pf k) an ?_ Jwl;intro w5 b4 bs bc;have D:Ext w3 w5:=bc w3 a7 am;have C:=J.trans D;refine ldR (b4.at (i:=2) rfl) ?_;refine ciR (λh=>?_) (λh=>?_)
  .have aw:pf k≠-1:=by have:=oT h;omega
   refine ρ ?_;refine Jf (k+1) vp sO ⟨lk,C,?_,aj⟩ om;have e:Jg (k+1) g=Jg k g:=by rw[Jg,hg];grind
   rw[e];exact a3.ext D
  have hp:pf k = -1:=by grind
  have ao:g k=T k []:=by grind
  have b6:=hB.ext C;refine ldR (b6.at (i:=1) rfl) ?_;refine ciR (λh=>?_) (λh=>?_)
  .have lf:k<f:=by have:=oT h;omega
   obtain⟨mb,m,fm,e1,e2,⟨e3,e4⟩,e5⟩:=hdt k lk lf;have ai:ta[k]?=some (.map (some mb)):=by grind
   have ap:Ext w5 w5.drew:=(Ext.refl w5).drew;have o:=C.trans ap;have b3:=(Rd.own bi).ext o;have af:FitR []:=⟨by simp,λv hv=>by cases hv⟩;refine drR (scq 12 [8,10]) ?_;refine Jz ((hB.ext o).at (i:=8) rfl) ?_;refine Jd k b3 lk ?_;refine Jz (b3.cell ai) ?_;refine Qq (Jzn (r:=[]) (A:=none) (c:=0) (hF.tb.ext (a6.trans o)) Rd.nil (λu hu=>by cases hu) (by have:=af.len;omega) (by simp)) ?_;rintro un w6 ⟨rfl,G⟩;refine⟨G,?_⟩;refine ρd ?_;refine dmlk KS (e3.ext (o.trans G)) zNat (Kw af) ?_;have au:NatV w6 ((fm (.string (idn []))).getD (.slice none 0 0)) (g k):=by
    rw[ao];rcases e5 []with⟨h6,h7⟩|⟨y,h6,h7,h8⟩
    .rw[h6,h7];exact NatV.nil _
    rw[h6];exact h8.1.ext (o.trans G)
   refine Qq (Jcd (a3.ext ((D.trans ap).trans G)) au (be k hk).len (bh k).len) ?_;rintro vr w7 ⟨bd,ay,aq⟩;refine⟨aq,?_⟩;refine ρd ?_;refine ρ ?_;exact Jf (k+1) vr sO ⟨lk,(o.trans G).trans aq,bd,λad m c e=>nL (o.trans G).size (ay ad m c e)⟩ om
  have lf:f<=k:=by have:=oF h;omega
  obtain⟨mb,m,fm,e1,e2,⟨e3,e4⟩,e5,e6⟩:=hdv k lk lf;have ai:va[k]?=some (.map (some mb)):=by
   rw[<-e1];have hl:=b1.1;simp[List.getD,List.getElem?_eq_getElem (show k<va.length by omega)]
  have b2:=(Rd.own b1).ext C;refine ldR (b6.at (i:=7) rfl) ?_;refine ixR k b2 lk ?_;refine ldR (b2.cell ai) ?_;refine ρ ?_;refine mln KS (e3.ext C) ?_;intro q hq;refine ciR (λh=>?_) (λh=>?_)
  .have h0:q=0:=by have:=Zv h;omega
   have h1:=hq.1 h0 (.string (idn []));rw[e5]at h1;have h2:T k []=0:=by
    rcases Nat.eq_zero_or_pos (T k []) with h'|h'
    .exact h'
    rw[if_pos h']at h1;cases h1
   refine ρ ?_;refine Jj ⟨?_,ae,C⟩;rw[Qrl lk (by rw[ao,h2])];exact NatV.nil _
  have h0:¬ q=0:=λe=>by have:=Zz h;omega
  have h1:0<T k []:=by
   refine Classical.byContradiction λh'=>h0 (hq.2 λkl=>?_);cases hfk:fm kl with
   | none=>rfl
   | some x=>
    obtain⟨r,rfl⟩:=e6 kl (by rw[hfk];simp);rw[e5]at hfk;split at hfk
    .rename_i hr;rw[hroot k lk hp lf r hr]at hr;exact absurd hr h'
    cases hfk
  refine ρ ?_;refine Jf (k+1) vp sO ⟨lk,C,?_,aj⟩ om;have h2:=hT1 k lf [];have e:Jg (k+1) g=Jg k g:=by rw[Jg,ao,show T k []=1 by omega,Nat.mul_one]
  rw[e];exact a3.ext D
 have bf:k=n:=by have:=oF h;omega
 rw[bf]at a3;refine ρ ?_;exact Jj ⟨a3,aj,J⟩
end Go.Proofs.YtgobkbeokaaplaaGreatDoor
