/- Part 5. -/
import Derived.Test.YtgobkbeokaaplaaGreatDoorI04
import Derived.Lib.ItoaLen
set_option linter.unusedVariables false
set_option maxRecDepth 100000
set_option maxHeartbeats 40000000
namespace Go.Proofs.YtgobkbeokaaplaaGreatDoor
open Go.RowKit Pl Go.Wk Go.Lib
def decV(l:List UInt8): Nat:=l.foldl (λa c=>10*a+(c.toNat-48)) 0
theorem Qzl{k:Nat}(h:k<10): (UInt8.ofNat (48+k)).toNat=48+k:=by
 rw[UInt8.toNat_ofNat'];omega
theorem Xjx(u:Nat): decV (decDigits u)=u:=by
 induction u using Nat.strongRecOn with
 | ind u ih=>
  rw[decDigits];split
  repeat grind [decV,Qzl]
theorem Jlc(u:Nat): ∀ c∈decDigits u,48<=c.toNat/\c.toNat<=57:=by
 induction u using Nat.strongRecOn with
 | ind u ih=>
  rw[decDigits];split
  repeat grind [List.mem_singleton.1,Qzl,List.mem_append.1]
theorem Jzm(i:Int): ∀ c∈itoa i,c≠44:=by
 intro c j e;subst e;unfold itoa at j;split at j
 .rcases List.mem_cons.1 j with h|h
  .grind
  have:=Jlc _ _ h;grind
 have:=Jlc _ _ j;grind
theorem Jhj{i j:Int}(h:itoa i=itoa j): i=j:=by
 have key:∀(a:Nat) (l:List UInt8),decDigits a≠45::l:=λa l e=>by
  have:=Jlc a 45 (by grind);grind
 unfold itoa at h;split at h<;>split at h
 repeat grind [decV,List.cons.inj,Xjx]
theorem Jlj{a b x y:List UInt8}(ha:∀ c∈a,c≠44)(hb:∀ c∈b,c≠44)(h:a++44::x=b++44::y): a=b/\x=y:=by
 induction a generalizing b with
 | nil=>cases b with
  | nil=>simpa using h
  | cons c b=>simp only[List.nil_append,List.cons_append,List.cons.injEq]at h;exact absurd h.1.symm (hb c mC)
 | cons d a ih=>cases b with
  | nil=>simp only[List.nil_append,List.cons_append,List.cons.injEq]at h;exact absurd h.1 (ha d mC)
  | cons c b=>
   grind
theorem Jws(v:V)(r:Row): idn (v::r)=itoa v.kind++44::(itoa v.num++44::(itoa (v.str.size:Int)++44::(v.bytes++idn r))):=by
 simp only[idn,List.flatMap_cons,Ia,List.append_assoc,List.cons_append,List.nil_append]
theorem Jbs: ∀ {r s:Row},idn r=idn s->r=s
 | [],[],_=>rfl
 | [],v::s,h=>by
  rw[Jws]at h;have:=congrArg List.length h;simp[idn]at this
 | v::r,[],h=>by
  rw[Jws]at h;have:=congrArg List.length h;simp[idn]at this
 | v::r,u::s,h=>by
  rw[Jws,Jws]at h;obtain⟨h1,h⟩:=Jlj (Jzm _) (Jzm _) h;obtain⟨h2,h⟩:=Jlj (Jzm _) (Jzm _) h;obtain⟨h3,h⟩:=Jlj (Jzm _) (Jzm _) h;have h3:=Jhj h3;rw[Jkq,Jkq]at h3;obtain⟨h4,h5⟩:=List.append_inj h om;have:=Jbs h5;subst this;have e:v=u:=by
   obtain⟨k1,n1,s1⟩:=v;obtain⟨k2,n2,s2⟩:=u;have a1:k1=k2:=Jhj h1;have a2:n1=n2:=Jhj h2;have a3:s1=s2:=by
    apply ByteArray.ext
    exact Array.toList_inj.1 h4
   rw[a1,a2,a3]
  rw[e]
theorem Qxj: ∀ {r:Row},(∀ v∈r,Zl v/\v.bytes.length<=24)->(idn r).length<=r.length*90
 | [],_=>by simp[idn]
 | v::r,h=>by
  have ih:=Qxj (r:=r) λu hu=>h u (List.mem_cons_of_mem _ hu);obtain⟨⟨h1,h2⟩,h3⟩:=h v mC;have a1:=itoa_length_le _ h1.1 h1.2;have a2:=itoa_length_le _ h2.1 h2.2;have a3:=itoa_length_le (v.str.size:Int) om (by rw[Jkq];omega);grind [Jws,List.length_append,List.length_cons]
open Go.RowKit Pl Go.Wk _root_.Go.Proofs.Tryz
attribute [local irreducible] WC WL QX WD WDB WP WN WG
variable {cs vars:List Nat}{cc d k s:Nat}{C D:Option Addr}{x:Row}{w:World}
theorem Jls(v:V)(w:World): (Instr.buildSlice 59 1 #[(0,v.val)]).run prog w=.ok (.slice (some ⟨w.heap.size,0,none⟩) 1 1) (w.alloc (.cells v.cells.toArray 147)):=kr
theorem rowC_app'(a b:Row): Jp (a++b)=Jp a++Jp b:=by simp[Jp]
theorem rowC_one''(v:V): Jp [v]=v.cells:=by simp[Jp]
theorem Qlh(h:k<cs.length): pmR (cs.take (k+1)) x=pmR (cs.take k) x++[x.getD (cs.getD k 0) V0]:=by grind [pmR,Qt]
theorem Jts{vx:Value}(hx:RowV w vx x)(hC:Rd w 1 C cs.length (Je (nz cs)))(hlt:∀ c∈cs,c<x.length)(hl:cs.length<=1000):
  Ret prog 130 [vx,.slice C cs.length cc] w λu w'=>RowV w' u (pmR cs x)/\Ext w w':=by
 obtain⟨A,c,rfl,aa,a9,hR⟩:=hx;refine enE func130 ntmps130 ?_;refine ρ ?_;refine mk0 EV cs.length om (by unfold maxLen;omega) ?_;intro w0 O Z a3;refine ρ ?_;refine Jo (fun (k:Nat) (U:Value)=>[(0,.slice A x.length c),(5,U),(11,.slice C cs.length cc),(12,.int .i64 (cs.length:Int)),(13,.int .i64 (k:Int))])
  (λk U w'=>k<=cs.length/\Ext w w'/\Xl w' w.heap.size U (pmR (cs.take k) x)) (λk _=>cs.length-k) 0 (.slice O 0 cs.length) sB
  ⟨Nat.zero_le _,Z,a3⟩ ?_
 rintro k U w1 ⟨hk,i,G⟩;refine ciR (λh=>?_) (λh=>?_)
 .have lk:k<cs.length:=by have:=oT h;omega
  clear h;have J:RdR w1 A x:=Rd.ext hR i;have D:=hlt _ (getD_mem' 0 cs lk);refine ixR k (hC.ext i) lk ?_;refine ldR ((hC.ext i).cell (Xg lk)) ?_;refine Qp 3 (cs.getD k 0) J D ?_;refine Js (cs:=(x.getD (cs.getD k 0) V0).cells) (λj u hu=>RdR.cell J D hu) ?_;refine Qk (Jls _) ?_;intro w2 b o hb hB;have a1:=Qlh (x:=x) lk;have a8:(pmR (cs.take k) x).length=k:=by rw[Qn,List.length_take];omega
  refine ρ ?_;refine apb (m':=1) (news:=(x.getD (cs.getD k 0) V0).cells) EV (Jk G o) (hB.rd (n:=1) rfl) (V.one _) (by unfold maxLen;omega) om (i.trans o).size ?_;intro v3 w3 a2 a5 a7;refine ρ ?_;refine Jl (k+1) v3 sO ⟨lk,Qg (i.trans o) a5 (Kh (Jk G o)),?_⟩ om;rw[Xl,a1,List.length_append,rowC_app',rowC_one''];exact a2
 have a4:k=cs.length:=by grind
 rw[a4,List.take_length]at G;obtain⟨A3,c3,rfl,a6,_⟩:=Jy G;refine ρ ?_;refine Jj ⟨⟨A3,c3,rfl,a6,by rw[Qn];omega,Rd.own G⟩,i⟩
theorem Qzw(hD:Rd w 1 D vars.length (Je (nz vars)))(hs:s<4294967296)(hv:∀ v∈vars,v<32)(hl:vars.length<=32):
  Ret prog 126 [.slice D vars.length d,.int .u32 (s:Int)] w λu w'=>Zd w' w.heap.size u (Xj vars s)/\Ext w w':=by
 refine enE func126 ntmps126 ?_;refine ρ ?_;refine Jo (fun (k:Nat) (vc:Value)=>[(1,.int .u32 (s:Int)),(5,vc),(8,.slice D vars.length d),(9,.int .i64 (vars.length:Int)),(10,.int .i64 (k:Int))])
  (λk vc w'=>k<=vars.length/\Ext w w'/\Zd w' w.heap.size vc (Zk vars s k)) (λk _=>vars.length-k) 0 (.slice none 0 0) sB
  ⟨Nat.zero_le _,Ext.refl _,Zy _ _ _ _⟩ ?_
 rintro k vc w1 ⟨hk,j,C⟩;refine ciR (λh=>?_) (λh=>?_)
 .have lk:k<vars.length:=by have:=oT h;omega
  clear h;have a1:(Zk vars s k).length<=k:=by
   have:=List.length_filter_le (λi=>s.testBit (vars.getD i 0)) (List.range k);rw[List.length_range]at this;exact this
  refine ixR k (hD.ext j) lk ?_;refine ldR ((hD.ext j).cell (Xg lk)) ?_;refine ρ ?_;refine Ib (s:=s) (v:=vars.getD k 0) (by grind [getD_mem',lk]) ?_;refine ciR (λh=>?_) (λh=>?_)
  .rw[Gh hs]at h;refine Qk (bs1Int'' _) ?_;intro w2 b o hb hB;refine ρ ?_;refine apI (Jk C o) hB om (j.trans o).size ?_;intro O w3 U J Z;refine ρ ?_;refine Jl (k+1) O sO ⟨lk,Qg (j.trans o) J (Kh (Jk C o)),?_⟩ om;grind [Ka]
  rw[Gh hs]at h;refine ρ ?_;refine Jl (k+1) vc sO ⟨lk,j,?_⟩ om;grind [Ka]
 have G:k=vars.length:=by grind
 rw[G]at C;refine ρ ?_;exact Jj ⟨C,j⟩
open Go.RowKit Pl Go.Wk
variable {a b l os:List UInt32}{c i k m n x y:Nat}
theorem Jpk(c:UInt32)(h:k<l.length): val (l.set k c)+4294967296^k*(l.getD k 0).toNat=val l+4294967296^k*c.toNat:=by
 induction l generalizing k with
 | nil=>simp at h
 | cons x l ih=>
  cases k with
  | zero=>simp[val];omega
  | succ k=>
   have:=ih (k:=k) (by simpa using h);simp only[List.set_cons_succ,val,List.getD_cons_succ,Nat.pow_succ];grind
structure MulO(a b:List UInt32)(i:Nat)(os:List UInt32): Prop where
 len:os.length=a.length+b.length
 val:val os=val (a.take i)*val b
 zero:∀ k,i+b.length<=k->os.getD k 0=0
structure MulI(a b:List UInt32)(i j c:Nat)(os:List UInt32): Prop where
 len:os.length=a.length+b.length
 small:c<4294967296
 val:val os+4294967296^(i+j)*c=Pl.val (a.take i)*Pl.val b+4294967296^i*(a.getD i 0).toNat*Pl.val (b.take j)
 zero:∀ k,i+b.length<=k->os.getD k 0=0
theorem Qtl(c:UInt32)(h:k≠m): (l.set k c).getD m 0=l.getD m 0:=by grind
theorem Qjp(hx:x<4294967296)(hy:y<4294967296): x*y<=18446744065119617025:=by
 have:=Nat.mul_le_mul (show x<=4294967295 by omega) (show y<=4294967295 by omega);omega
theorem MulO.first: MulO a b 0 (List.replicate (a.length+b.length) 0):=by
 refine⟨by simp,?_,λk _=>?_⟩
 .have:∀ n,Pl.val (List.replicate n (0:UInt32))=0:=λn=>by
   induction n with
   | zero=>rfl
   | succ n ih=>rw[List.replicate_succ];simp[Pl.val,ih]
  rw[this];simp[Pl.val]
 repeat grind
theorem MulO.start(h:MulO a b i os): MulI a b i 0 0 os :=
 ⟨h.len,om,by rw[h.val];simp[Pl.val],h.zero⟩
theorem MulI.step{j s:Nat}(h:MulI a b i j c os)(hi:i<a.length)(hj:j<b.length)(hs:s=c+((a.getD i 0).toNat*(b.getD j 0).toNat+(os.getD (i+j) 0).toNat)):
  MulI a b i (j+1) (s / 4294967296) (os.set (i+j) (UInt32.ofNat s))/\s<18446744073709551616:=by
 obtain⟨h1,h2,h3,h4⟩:=h;have G:(a.getD i 0).toNat<4294967296:=(a.getD i 0).toNat_lt;have D:(b.getD j 0).toNat<4294967296:=(b.getD j 0).toNat_lt;have O:(os.getD (i+j) 0).toNat<4294967296:=(os.getD (i+j) 0).toNat_lt;have hm:=Qjp G D;have o:s<18446744073709551616:=om
 refine⟨⟨by grind,om,?_,λk hk=>by grind⟩,o⟩;have e:=Jpk (UInt32.ofNat s) (show i+j<os.length by omega);rw[UInt32.toNat_ofNat']at e;rw[Jkm];generalize hX:(a.getD i 0).toNat=X at *
 generalize hY:(b.getD j 0).toNat=Y at *
 generalize hZ:(os.getD (i+j) 0).toNat=Z at *
 generalize Pl.val (os.set (i+j) (UInt32.ofNat s))=V' at *
 generalize Pl.val os=V at *
 generalize Pl.val (b.take j)=W at *
 generalize Pl.val (a.take i)*Pl.val b=U at *
 have C:4294967296^(i+(j+1))*(s / 4294967296)=4294967296^(i+j)*(4294967296*(s / 4294967296)):=by grind
 have u:4294967296^i*X*(W+4294967296^j*Y)=4294967296^i*X*W+4294967296^(i+j)*(X*Y):=by grind
 have J:4294967296^(i+j)*(s % 2^32)+4294967296^(i+j)*(4294967296*(s / 4294967296))=4294967296^(i+j)*c+(4294967296^(i+j)*(X*Y)+4294967296^(i+j)*Z):=by
  rw[<-Nat.mul_add,<-Nat.mul_add,<-Nat.mul_add];congr 1
  omega
 rw[C,u];omega
theorem MulI.last(h:MulI a b i b.length c os)(hi:i<a.length): MulO a b (i+1) (os.set (i+b.length) (UInt32.ofNat c)):=by
 obtain⟨D,C,o,j⟩:=h;refine⟨by grind,?_,λk u=>by grind [Qtl]⟩;have e:=Jpk (UInt32.ofNat c) (show i+b.length<os.length by omega);rw[j _ (nR _),UInt32.toNat_ofNat',show c % 2^32=c by omega,show(0:UInt32).toNat=0 from rfl,Nat.mul_zero,Nat.add_zero]at e;rw[e,o,List.take_length,Jkm,Nat.add_mul]
theorem Qnr{z:Nat}(hc:c<4294967296)(hx:x<4294967296)(hy:y<4294967296)(hz:z<4294967296):
  IntKind.u64.wrap ((c:Int)+IntKind.u64.wrap (IntKind.u64.wrap (IntKind.u64.wrap (x:Int)*IntKind.u64.wrap (y:Int))+IntKind.u64.wrap (z:Int)))=((c+(x*y+z):Nat):Int):=by
 have i:=Qjp hx hy;have w:∀ n:Nat,n<18446744073709551616->IntKind.u64.wrap (n:Int)=(n:Int):=λn hn=>by rw[IntKind.wrap_u64];omega
 rw[w x om,w y om,w z om,<-Int.natCast_mul,w _ om,<-Int.natCast_add,w _ om,<-Int.natCast_add,w _ om]
theorem Jzh{v u:Value}{w:World}(hv:NatV w v n)(hu:NatV w u m)(hln:(Jq n).length<=1000)(hlm:(Jq m).length<=1000): Ret Tryz.prog 135 [v,u] w λr w'=>NatV w' r (n*m)/\Fresh w r/\Ext w w':=by
 refine enE Tryz.func135 Tryz.ntmps135 ?_;refine clR (Yu hv) ?_;rintro v' w' ⟨⟨A,rfl,ha⟩,rfl⟩;refine clR (Yu hu) ?_;rintro u' G ⟨⟨B,rfl,hb⟩,rfl⟩;generalize hL:(Jq n).length=L at *
 generalize hM:(Jq m).length=M at *
 refine ρ ?_;refine mkn EN (L+M) om (by unfold maxLen;omega) ?_;intro w1 O aa ag hO;have a6:Vf w1 G.heap.size (.slice O (L+M) (L+M)) (List.replicate (L+M) 0):=by
  have e:(madeCells (Value.int .u32 0).cells ((L+M)*1)).toList=Nc (List.replicate (L+M) 0):=by rw[Nat.mul_one,<-Jms];exact Ux _ _
  grind
 refine ρ ?_;refine Jo (fun (i:Nat) (o:List UInt32)=>[(0,.slice A L L),(1,.slice B M M),(5,.slice O (L+M) (L+M)),(20,.int .i64 (L:Int)),(21,.int .i64 (i:Int))])
  (λi o w2=>i<=L/\Ext G w2/\MulO (Jq n) (Jq m) i o/\Vf w2 G.heap.size (.slice O (L+M) (L+M)) o) (λi _=>L-i) 0 (List.replicate (L+M) 0) sB
  ⟨Nat.zero_le _,aa,by grind [MulO.first],a6⟩ ?_
 rintro i o w2 ⟨hi,a5,hI,a4⟩;refine ciR (λh=>?_) (λh=>?_)
 .have li:i<L:=by have:=oT h;omega
  clear h;refine ρ ?_;refine Zq (fun (j c:Nat) (o:List UInt32)=>[(0,.slice A L L),(1,.slice B M M),(5,.slice O (L+M) (L+M)),(6,.int .i64 (i:Int)),(7,.int .u64 (c:Int)),(20,.int .i64 (L:Int)),(21,.int .i64 (i:Int)),(25,.int .i64 (M:Int)),(26,.int .i64 (j:Int))])
   (λj c o w3=>j<=M/\Ext G w3/\MulI (Jq n) (Jq m) i j c o/\Vf w3 G.heap.size (.slice O (L+M) (L+M)) o) (λj _ _=>M-j) 0 0 o sB
   ⟨Nat.zero_le _,a5,hI.start,a4⟩ ?_
  clear hI a4;rintro j c o w3 ⟨hj,Z,hI,J⟩;have C:o.length=L+M:=by rw[hI.len,hL,hM]
  refine ciR (λh=>?_) (λh=>?_)
  .have lj:j<M:=by have:=oT h;omega
   clear h;have U:Ext w3 w3.drew:=(Ext.refl w3).drew;have a9:=ha.ext (Z.trans U);have a8:=hb.ext (Z.trans U);have D:=Jk J U;rw[C]at D;have a3:Rd w3.drew 1 O (L+M) (Nc o):=Rd.own D;refine drR (scq 22 []) ?_;refine Jc i a9 li ?_;refine Jz (a9.cell (Zf (show i<(Jq n).length by omega))) ?_;refine Jc j a8 lj ?_;refine Jz (a8.cell (Zf (show j<(Jq m).length by omega))) ?_;refine Jc (i+j) a3 om ?_;refine Jz (a3.cell (Zf (show i+j<o.length by omega))) ?_;refine ρd ?_;have hx:((Jq n).getD i 0).toNat<4294967296:=((Jq n).getD i 0).toNat_lt;have hy:((Jq m).getD j 0).toNat<4294967296:=((Jq m).getD j 0).toNat_lt;have hz:(o.getD (i+j) 0).toNat<4294967296:=(o.getD (i+j) 0).toNat_lt;obtain⟨a2,af⟩:=hI.step (s:=c+(((Jq n).getD i 0).toNat*((Jq m).getD j 0).toNat+(o.getD (i+j) 0).toNat)) om om rfl;have a7:=Qnr hI.small hx hy hz;refine ρ ?_
   generalize c+(((Jq n).getD i 0).toNat*((Jq m).getD j 0).toNat+(o.getD (i+j) 0).toNat)=s at *
   refine kv 7 (u:=.int .u64 (s:Int)) (congrArg (Value.int .u64) a7) ?_;refine kv 55 (u:=.int .u32 ((UInt32.ofNat s).toNat:Int)) (congrArg (Value.int .u32) ((congrArg IntKind.u32.wrap a7).trans (Gj s))) ?_;obtain⟨s1,s2,s3,s4,s5⟩:=Zn D (q:=i+j) om (.int .u32 ((UInt32.ofNat s).toNat:Int));refine ixR (i+j) a3 om ?_;refine sto (s1.trans (Zf (show i+j<o.length by omega))) s2 ?_;refine ρ ?_;refine Yo rfl rfl (by decide) rfl ?_;refine ρ ?_;refine Xq (j+1) (s / 4294967296) (o.set (i+j) (UInt32.ofNat s)) ?_ ⟨lj,(Z.trans U).setCell s4 _,a2,?_⟩ om
   .rw[Jdr];exact sB
   rw[Vf,List.length_set,C,<-Jkg];exact s3
  have ac:j=M:=by grind
  subst ac;clear h;have ab:MulI (Jq n) (Jq m) i (Jq m).length c o:=by rw[hM];exact hI
  have hl:=ab.last (show i<(Jq n).length by omega);have D:=J;rw[Vf,C]at D;obtain⟨s1,s2,s3,s4,s5⟩:=Zn D (q:=i+j) om (.int .u32 ((UInt32.ofNat c).toNat:Int));refine ixR (i+j) (Rd.own D) om ?_;rw[Gj];refine sto (s1.trans (Zf (show i+j<o.length by omega))) s2 ?_;refine ρ ?_;rw[hM]at hl;refine Jl (i+1) (o.set (i+j) (UInt32.ofNat c)) sO ⟨li,Z.setCell s4 _,hl,?_⟩ om;rw[Vf,List.length_set,C,<-Jkg];exact s3
 have ae:i=L:=by grind
 have C:o.length=L+M:=by rw[hI.len,hL,hM]
 have a1:=hI.val;rw[ae,List.take_of_length_le om,Va,Va]at a1;have J:=a4;rw[Vf,C]at J;have hr:=Rd.own J;refine ρ ?_;rw[<-C]at hr ⊢;refine cl (Jjl hr (nR _) om) ?_;rintro t w4 ⟨rfl,rfl⟩;have:=Jxh hr om;rw[a1]at this ⊢;refine ρ ?_;exact Jj ⟨this,λad _ _ e=>hO ad (by injection e),a5⟩
open Go.RowKit Pl Go.Wk _root_.Go.Proofs.Tryz
variable {l os:List UInt32}{c d k m n r x:Nat}{A:Option Addr}{w:World}
theorem Qpz(h0:n≠0)(h:n<4294967296): Jq n=[UInt32.ofNat n]:=by grind [Jbk,limbs_0]
theorem Qkp{cs:List Value}(hr:Rd w 1 A n cs)(h1:∀ u∈cs,u.oneCell'=true)(hb:n*4<=140737488355328):
  Ret prog 64 [.slice A n c] w λv w'=>w'.ownsRow w.heap.size 64 1 v n cs/\Ext w w':=by
 refine enE func64 ntmps64 ?_;refine ρ ?_;refine Jjr ?_;refine ciR (λh=>?_) (λh=>?_)
 .have J:A=none:=by simpa using h
  subst J;have hn:n=0:=by
   rcases Nat.eq_zero_or_pos n with h0|h0
   .exact h0
   obtain⟨ad,O,_⟩:=hr.isome h0 om;cases O
  subst hn;have D:cs=[]:=List.eq_nil_of_length_eq_zero (by rw[hr.len]);subst D;refine ρ ?_;exact Jj ⟨Zy _ _ _ _,Ext.refl w⟩
 refine Qk Qwj ?_;intro Z b i G C;refine ρ ?_;refine apo i EN (C.own (n:=0) G rfl (Nat.zero_le _)) (hr.ext i) h1 (by unfold maxLen;omega) om ?_;intro v2 U j o _ _;refine ρ ?_;rw[Nat.zero_add,List.nil_append]at j;exact Jj ⟨j,o⟩
theorem Jpl(h:k<l.length): val (l.drop k)=(l.getD k 0).toNat+4294967296*val (l.drop (k+1)):=by grind [List.drop_eq_getElem_cons,val,List.getD,List.getElem?_eq_getElem]
structure DivI(l:List UInt32)(d k r:Nat)(os:List UInt32): Prop where
 len:os.length=l.length
 lt:r<d
 old:∀ j,j<k->os.getD j 0=l.getD j 0
 val:val (l.drop k)=Pl.val (os.drop k)*d+r
theorem DivI.step{s:Nat}(h:DivI l d (k+1) r os)(hk:k<l.length)(hd:d<4294967296)(hs:s=r*4294967296+(l.getD k 0).toNat): DivI l d k (s % d) (os.set k (UInt32.ofNat (s / d)))/\s<18446744073709551616:=by
 obtain⟨Z,U,O,o⟩:=h;have D:(l.getD k 0).toNat<4294967296:=(l.getD k 0).toNat_lt;have i:s<4294967296*d:=by rw[hs];omega
 have G:s / d<4294967296:=Nat.div_lt_of_lt_mul (by grind);refine⟨⟨by grind,Nat.mod_lt _ om,λj J=>by grind,?_⟩,om⟩;rw[Jpl hk,Jpl (l:=os.set k (UInt32.ofNat (s / d))) (k:=k) (by grind),o];have C:(os.set k (UInt32.ofNat (s / d))).getD k 0=UInt32.ofNat (s / d):=by grind
 have u:(os.set k (UInt32.ofNat (s / d))).drop (k+1)=os.drop (k+1):=List.drop_set_of_lt om;rw[C,u,UInt32.toNat_ofNat',Nat.mod_eq_of_lt (show s / d<2^32 by omega)];grind [Nat.div_add_mod,Nat.mul_add,Nat.add_mul,Nat.mul_assoc,Nat.mul_comm]
theorem Xjn(hr:r<4294967296)(hx:x<4294967296): bits .or .u64 (IntKind.u64.wrap ((r:Int)*2^min (32:Int).toNat IntKind.u64.bits)) (IntKind.u64.wrap (x:Int))=((r*4294967296+x:Nat):Int):=by
 have o:(2:Int)^min (32:Int).toNat IntKind.u64.bits=4294967296:=by decide
 have j:IntKind.u64.wrap ((r:Int)*4294967296)=((r*4294967296:Nat):Int):=by rw[IntKind.wrap_u64];omega
 have i:IntKind.u64.wrap (x:Int)=(x:Int):=by rw[IntKind.wrap_u64];omega
 rw[o,j,i,u64_or_nat _ _ om om,nat_join 32 (r*4294967296) x (by simp) om]
theorem Xjp{L base:Nat}(hL:l.length=L)(hLm:L<=1100)(ho:w.ownsRow base 64 1 (.slice A L c) L (Nc l))(h0:0<d)(hd:d<4294967296):
  Ret prog 181 [.slice A L c,.int .u32 (d:Int)] w λr w'=>r=.int .u32 ((val l % d:Nat):Int)/\(∃ os:List UInt32,os.length=L/\val os=val l / d/\w'.ownsRow base 64 1 (.slice A L c) L (Nc os))/\w.grownBy w' (Value.slice A L c).ownBlock:=by
 refine enE func181 ntmps181 ?_;refine ρ ?_;refine Zq (fun (k r:Nat) (os:List UInt32)=>[(0,.slice A L c),(1,.int .u32 (d:Int)),(5,.int .u64 (r:Int)),(6,.int .i64 ((k:Int)-1))])
  (λk r os U=>k<=L/\DivI l d k r os/\U.ownsRow base 64 1 (.slice A L c) L (Nc os)/\w.grownBy U (Value.slice A L c).ownBlock) (λk _ _=>k) L 0 l sB
  ⟨nR _,⟨rfl,h0,λ_ _=>rfl,by grind [List.drop_of_length_le,val]⟩,ho,Za (Ext.refl w) _⟩ ?_
 rintro k r os U ⟨hk,J,C,G⟩;have a1:os.length=L:=by rw[J.len,hL]
 refine ciR (λh=>?_) (λh=>?_)
 .obtain⟨k,rfl⟩:∃ j,k=j+1:=⟨k-1,by grind⟩;clear h;obtain⟨s,hs⟩:∃ s,s=r*4294967296+(l.getD k 0).toNat:=⟨_,rfl⟩;obtain⟨i,a3⟩:=J.step om hd hs;have hx:(l.getD k 0).toNat<4294967296:=(l.getD k 0).toNat_lt;have a4:=J.lt;have o:Rd U 1 A L (Nc os):=Rd.own C;have D:=J.old k om;refine ρ ?_;refine wshl rfl rfl (by decide) rfl ?_;refine ixR k o om ?_;refine ldR (o.cell (Zf (show k<os.length by omega))) ?_;rw[D];refine ρ ?_;have O:bits .or .u64 (IntKind.u64.wrap ((r:Int)*2^min (32:Int).toNat IntKind.u64.bits)) (IntKind.u64.wrap ((l.getD k 0).toNat:Int))=(s:Int):=by grind [Xjn]
  refine kv 5 (u:=.int .u64 (s:Int)) (congrArg (Value.int .u64) O) ?_;refine kv 24 (u:=.int .u64 (s:Int)) (congrArg (Value.int .u64) O) ?_;have ed:IntKind.u64.wrap (d:Int)=(d:Int):=by rw[IntKind.wrap_u64];omega
  refine kv 26 (u:=.int .u64 (d:Int)) (congrArg (Value.int .u64) ed) ?_;refine wquo rfl rfl om rfl ?_;have hq:s / d<=s:=Nat.div_le_self _ _;have e2:IntKind.u32.wrap (IntKind.u64.wrap ((s:Int).tdiv d))=((UInt32.ofNat (s / d)).toNat:Int):=by grind [Uu,Gj]
  obtain⟨s1,s2,s3,s4,s5⟩:=Zn C (q:=k) om (.int .u32 ((UInt32.ofNat (s / d)).toNat:Int));refine ixR k o om ?_;rw[e2];refine sto (s1.trans (Zf (show k<os.length by omega))) s2 ?_;refine ρ ?_;refine kv 32 (u:=.int .u64 (d:Int)) (congrArg (Value.int .u64) ed) ?_;refine wrem rfl rfl om rfl ?_;refine ρ ?_;refine Xq k (s % d) (os.set k (UInt32.ofNat (s / d))) ?_ ⟨om,i,?_,Zh G s5⟩ om
  .have e3:(s:Int).tmod d=((s % d:Nat):Int):=rfl;rw[e3];exact sO
  rw[<-Jkg];exact s3
 have a2:k=0:=by have:=oF h;omega
 subst a2;obtain⟨i1,i2,_,Z⟩:=J;rw[List.drop_zero,List.drop_zero]at Z;have hm:r=val l % d:=by rw[Z,Nat.add_comm,Nat.add_mul_mod_self_right,Nat.mod_eq_of_lt i2]
 have hv:val os=val l / d:=by
  rw[Z,Nat.add_comm,Nat.add_mul_div_right _ _ h0,Nat.div_eq_of_lt i2,Nat.zero_add]
 refine ρ ?_;refine Jj ⟨?_,⟨os,a1,hv,C⟩,G⟩;rw[Gj,UInt32.toNat_ofNat',Nat.mod_eq_of_lt (show r<2^32 by omega),hm]
theorem Qnq{v u:Value}(hv:NatV w v n)(hu:NatV w u m)(hn:(Jq n).length<=1000)(h0:0<m)(hm:m<4294967296):
  Ret prog 144 [v,u] w λr w'=>(∃ x y,r=.tuple #[x,y,.int .i64 0]/\NatV w' x (n / m)/\NatV w' y (n % m))/\Ext w w':=by
 have C:Jq m=[UInt32.ofNat m]:=Qpz om hm;refine enE func144 ntmps144 ?_;refine clR (Yu hv) ?_;rintro v' w' ⟨⟨A,rfl,ha⟩,rfl⟩;refine clR (Yu hu) ?_;rintro u' U ⟨⟨B,rfl,hb⟩,rfl⟩;rw[C]at hb ⊢;refine clR (Gk (n:=n) (m:=m) ⟨A,_,rfl,Nat.le_refl _,om,ha⟩ ⟨B,1,by rw[C],by rw[C];simp,by rw[C];simp,by rw[C];exact hb⟩) ?_;rintro t w' ⟨rfl,i⟩;refine ciR (λh=>?_) (λh=>?_)
 .have a3:n<m:=by
   have:=oT h;unfold Yk at this;grind
  refine clR (Qkq (ha.ext i) (Jcm _) om) ?_;rintro v' w1 ⟨⟨A',c',rfl,O,hr⟩,hx⟩;refine ρ ?_;refine Zz ⟨⟨.slice none 0 0,_,rfl,?_,?_⟩,i.trans hx⟩
  .grind [Nat.div_eq_of_lt,NatV.nil]
  rw[Nat.mod_eq_of_lt a3];exact⟨A',c',rfl,O,om,hr⟩
 refine clR (Qkp (ha.ext i) (Jcm _) om) ?_;rintro q w1 ⟨ho,G⟩;obtain⟨A',c',rfl,O,hf⟩:=Jy ho;have J:=(hb.ext i).ext G;refine ixR 0 J (by simp) ?_;refine ldR (J.cell (Zf (l:=[UInt32.ofNat m]) (k:=0) (by simp))) ?_;have em:(([UInt32.ofNat m].getD 0 0).toNat:Int)=(m:Int):=by grind [UInt32.ofNat,UInt32.toNat_ofNat',Nat.mod_eq_of_lt]
 rw[em];refine clR (Xjp rfl om ho h0 hm) ?_;rintro r w2 ⟨rfl,⟨os,a1,j,a2⟩,a4⟩;rw[Va]at j ⊢;have Z:Ext U w2:=Qg (i.trans G) a4 (λk e=>nL i.size (hf k e).1);have o:=Rd.own a2;rw[<-a1]at o O ⊢;refine clR (Jjl o O om) ?_;rintro t w3 ⟨rfl,rfl⟩;have:=Jxh o om;rw[j]at this ⊢;have hr:n % m<m:=Nat.mod_lt _ h0;refine ρ ?_;rw[Uu om];refine cl (Jzg (n % m) om _) ?_;rintro y w4 ⟨hy,D⟩;refine ρ ?_;exact Zz ⟨⟨_,y,rfl,this.ext D,hy⟩,Z.trans D⟩
end Go.Proofs.YtgobkbeokaaplaaGreatDoor
namespace Go.Wk
variable {d n t ty:Nat}
theorem dbx{P:Program}{al:AL}{w:World}{Q:Exit->Act->World->Prop}{ops:Array Oper}{drest:List (Nat×Oper)}{pos:String}{aft:Array Edge}{x:Operand}{v:Value}{cs:List Value}(kk:∀ w1 b,Ext w w1->w.heap.size<=b->Blk w1 b t cs->WD P n ops Q drest ((d,.pointer (some ⟨b,0,none⟩))::al) w1)(hx:ev al x=some v:=by rfl)(hv:v.cells=cs.toArray:=by rfl)(hd:Nat.blt d n=true:=by rfl): WD P n ops Q ((1,⟨some d,.box t x,ty,pos,aft,none⟩)::drest) al w :=
 by grind [Gb,bx,Jd,Gy]
end Go.Wk
namespace Go.Proofs.YtgobkbeokaaplaaGreatDoor
open Go.RowKit Pl Go.Wk _root_.Go.Proofs.Tryz
attribute [local irreducible] WC WL QX WD WDB WP WN WG
variable {c m n:Nat}{N N':Nat->Prop}{l r t:Tr}{pl pr u v wt:Value}{w w':World}
theorem Qqj(h:0<(Jq n).length): n≠0:=by grind [limbs_0]
def NatX(N:Nat->Prop)(w:World)(v:Value)(n:Nat): Prop:=NatV w v n/\(n≠0->∀ ad m c,v=.slice (some ad) m c->¬ N ad.block)
theorem NatX.ext{N:Nat->Prop}{w w':World}{v:Value}{n:Nat}(h:NatX N w v n)(hx:Ext w w'): NatX N w' v n:=⟨h.1.ext hx,h.2⟩
theorem NatX.gr(h:NatX N w v n)(hg:GrN N w w'): NatX N w' v n:=by
 obtain⟨⟨A,c,rfl,u,o,j⟩,i⟩:=h;exact⟨⟨A,c,rfl,u,o,Vn j hg (λh0 C e=>i (Qqj (by grind [Qyg])) C _ _ (by rw[e]))⟩,i⟩
theorem NatX.nil{N:Nat->Prop}(w:World): NatX N w (.slice none 0 0) 0:=⟨NatV.nil w,λ_ i m c e=>by cases e⟩
theorem limbs_pos'(h:n≠0): 0<(Jq n).length:=by rw[Jbk h];simp
theorem NatX.old(h:NatX N w v n)(hs:∀ k,N' k->N k∨w.heap.size<=k): NatX N' w v n:=⟨h.1,λh0 j m c e i=>by
 rcases hs _ i with h1|h1
 .exact h.2 h0 j m c e h1
 obtain⟨A,C,u,_,_,o⟩:=h.1;grind [Rd.isome,limbs_pos']⟩
theorem Fresh.x(h:Fresh w v)(hn:NatV w' v n)(hN:∀ k,N k->k<w.heap.size): NatX N w' v n :=
 ⟨hn,λ_ j m c e i=>by have:=h j m c e;have:=hN _ i;omega⟩
def TrV(N:Nat->Prop)(w:World): Tr->Value->Prop
 | .nil,u=>u=.pointer none
 | .node l v x r,u=>∃ b wt pl pr st,u=.pointer (some ⟨b,0,none⟩)/\(Blk w b 232 (v.cells++[wt,pl,pr,.int .i64 ((Tr.node l v x r).ht:Int),.int .i64 ((Tr.node l v x r).sz:Int),st])/\¬ N b)/\NatX N w wt x/\NatX N w st (Tr.node l v x r).sum/\TrV N w l pl/\TrV N w r pr
theorem TrV.gr{N:Nat->Prop}{w w':World}: ∀ {t:Tr} {u:Value},TrV N w t u->GrN N w w'->TrV N w' t u
 | .nil,u,h,_=>h
 | .node l v x r,u,h,hx=>by
  obtain⟨b,wt,pl,pr,st,h1,⟨h2,h2'⟩,h3,h4,h5,h6⟩:=h;exact⟨b,wt,pl,pr,st,h1,⟨Jb h2 hx h2',h2'⟩,h3.gr hx,h4.gr hx,h5.gr hx,h6.gr hx⟩
theorem TrV.ext{N:Nat->Prop}{w w':World}{t:Tr}{u:Value}(h:TrV N w t u)(hx:Ext w w'): TrV N w' t u:=h.gr (GrN.ext hx)
theorem TrV.old{N N':Nat->Prop}{w:World}(hs:∀ k,N' k->N k∨w.heap.size<=k): ∀ {t:Tr} {u:Value},TrV N w t u->TrV N' w t u
 | .nil,u,h=>h
 | .node l v x r,u,h=>by
  obtain⟨b,wt,pl,pr,st,h1,⟨h2,h2'⟩,h3,h4,h5,h6⟩:=h;exact⟨b,wt,pl,pr,st,h1,⟨h2,λhk=>(hs _ hk).elim h2' (λh=>by have:=h2.lt;omega)⟩,h3.old hs,h4.old hs,h5.old hs,h6.old hs⟩
theorem TrV.ptr(h:TrV N w t u): ∃ p,u=.pointer p:=by
 cases t with
 | nil=>exact⟨none,h⟩
 | node l v x r=>obtain⟨b,_,_,_,_,i,_⟩:=h;exact⟨_,i⟩
theorem Jgm(hv:NatV w v n)(hs:(Jq n).length<=1000): Ret prog 86 [v] w λr w'=>NatV w' r n/\Fresh w r/\Ext w w':=by
 refine enE func86 ntmps86 ?_;refine clR (Yu hv) ?_;rintro j w' ⟨⟨A,rfl,D⟩,rfl⟩;refine clR (Qkp D (Jcm _) om) ?_;rintro j U ⟨i,o⟩;obtain⟨O,G,rfl,C,u⟩:=Jy i;refine ρ ?_;refine Jj ⟨⟨O,G,rfl,C,om,Rd.own i⟩,λJ m c e=>?_,o⟩;injection e with e1 e2 e3
 subst e1;exact(u J.block rfl).1
theorem Qvc: ∃ k:Nat,k=900:=⟨_,rfl⟩
noncomputable def bK: Nat:=Classical.choose Qvc
theorem Jmf: bK=900:=Classical.choose_spec Qvc
def Nb(n:Nat): Prop:=n<4294967296^bK
theorem Nb.len(h:Nb n): (Jq n).length<=1000:=by
 rcases Nat.eq_zero_or_pos n with h0|h0
 .rw[h0,limbs_0];simp
 have i:=Jgs (n:=n) om;rcases Nat.lt_or_ge bK ((Jq n).length-1) with h2|h2
 .exact absurd (nM h (nL (Nat.pow_le_pow_right (by decide) (Nat.le_of_lt h2)) i)) (Nat.lt_irrefl _)
 rw[Jmf]at h2;omega
theorem Nb.le(h:Nb n)(hm:m<=n): Nb m:=Nat.lt_of_le_of_lt hm h
theorem Ie(h:TrV N w t u): Ret prog 81 [u] w λr w'=>r=.int .i64 (t.ht:Int)/\w'=w:=by
 refine enE func81 ntmps81 ?_;cases t with
 | nil=>
  obtain rfl:u=.pointer none:=h;refine ρ ?_;refine pnl ?_;refine ρ ?_;exact Jj ⟨rfl,rfl⟩
 | node l v x r=>
  obtain⟨b,o,D,C,st,rfl,⟨j,_⟩,U,O,J,G⟩:=h;refine ρ ?_;refine pnl ?_;refine ldR (j.at (i:=6) rfl) ?_;refine ρ ?_;exact Jj ⟨rfl,rfl⟩
theorem Jrq(h:TrV N w t u): Ret prog 82 [u] w λr w'=>r=.int .i64 (t.sz:Int)/\w'=w:=by
 refine enE func82 ntmps82 ?_;cases t with
 | nil=>
  obtain rfl:u=.pointer none:=h;refine ρ ?_;refine pnl ?_;refine ρ ?_;exact Jj ⟨rfl,rfl⟩
 | node l v x r=>
  obtain⟨b,o,D,C,st,rfl,⟨j,_⟩,U,O,J,G⟩:=h;refine ρ ?_;refine pnl ?_;refine ldR (j.at (i:=7) rfl) ?_;refine ρ ?_;exact Jj ⟨rfl,rfl⟩
theorem Jxj(h:TrV N w t u): Ret prog 176 [u] w λr w'=>NatX N w r t.sum/\w'=w:=by
 refine enE func176 ntmps176 ?_;cases t with
 | nil=>
  obtain rfl:u=.pointer none:=h;refine ρ ?_;refine pnl ?_;refine ρ ?_;exact Jj ⟨NatX.nil _,rfl⟩
 | node l v x r=>
  obtain⟨b,C,G,D,st,rfl,⟨o,_⟩,U,j,O,J⟩:=h;refine ρ ?_;refine pnl ?_;refine ldR (o.at (i:=8) rfl) ?_;refine ρ ?_;exact Jj ⟨j,rfl⟩
structure NatsV(w:World)(A:Option Addr)(us:List Value)(ns:List Nat): Prop where
 rd:Rd w 1 A us.length us
 len:us.length=ns.length
 nat:∀ i,i<ns.length->NatV w (us.getD i (.int .i64 0)) (ns.getD i 0)
theorem Qnm{A:Option Addr}{us:List Value}{ns:List Nat}(h:NatsV w A us ns)(hN:Nb (ns.foldl (· + ·) 0))(hl:ns.length<=1000)(hsub:∀ i,i<=ns.length->Nb ((ns.take i).foldl (· + ·) 0))(hone:∀ x∈ns,Nb x):
  Ret prog 227 [.slice A us.length c] w λr w'=>NatV w' r (ns.foldl (· + ·) 0)/\Fresh w r/\Ext w w':=by
 have Z:=h.len;refine enE func227 ntmps227 ?_;refine ρ ?_;refine Jo (fun (i:Nat) (vs:Value)=>[(0,.slice A us.length c),(3,vs),(6,.int .i64 (us.length:Int)),(7,.int .i64 (i:Int))])
  (λi vs w'=>i<=ns.length/\Ext w w'/\NatV w' vs ((ns.take i).foldl (· + ·) 0)/\Fresh w vs) (λi _=>ns.length-i) 0 (.slice none 0 0) sB
  ⟨Nat.zero_le _,Ext.refl _,NatV.nil _,λad m c e=>by cases e⟩ ?_
 rintro i vs w1 ⟨hi,j,C,G⟩;refine ciR (λO=>?_) (λO=>?_)
 .have U:i<ns.length:=by have:=oT O;omega
  clear O;refine ixR i (h.rd.ext j) om ?_;have o:us[i]?=some (us.getD i (.int .i64 0)):=by grind
  refine ldR ((h.rd.ext j).cell o) ?_;refine clR (Ih C ((h.nat i U).ext j) (hsub i hi).len (hone _ (by grind)).len) ?_;rintro r w2 ⟨hr,J,u⟩;refine ρ ?_;refine Jl (i+1) r sO ⟨U,j.trans u,?_,λad m c e=>nL j.size (J ad m c e)⟩ om;grind [Qt]
 have D:i=ns.length:=by grind
 rw[D,List.take_length]at C;refine ρ ?_;exact Jj ⟨C,G,j⟩
theorem Xzr(v:V)(wt st:Value)(A1 A2:Option Addr)(n1 n2 c1 c2:Nat)(pl pr:Option Addr)(y z:Int)(h1:wt=.slice A1 n1 c1)(h2:st=.slice A2 n2 c2)(w:World): (Instr.build 232 #[(0,.agg (v.cells++[wt]).toArray),(1,.pointer pl),(2,.pointer pr),(3,.int .i64 y),(4,.int .i64 z),(5,st)]).run prog w=.ok (.agg (v.cells++[wt,.pointer pl,.pointer pr,.int .i64 y,.int .i64 z,st]).toArray) w:=by
 subst h1;subst h2;kernel_rfl
theorem Xxq(v1 v2 v3:Value)(A1 A2 A3:Option Addr)(n1 n2 n3 c1 c2 c3:Nat)(h1:v1=.slice A1 n1 c1)(h2:v2=.slice A2 n2 c2)(h3:v3=.slice A3 n3 c3)(w:World): (Instr.buildSlice 349 3 #[(0,v1),(1,v2),(2,v3)]).run prog w=.ok (.slice (some ⟨w.heap.size,0,none⟩) 3 3) (w.alloc (.cells [v1,v2,v3].toArray 45)):=by
 subst h1;subst h2;subst h3;kernel_rfl
theorem Uz{v:V}{x:Nat}(hl:TrV N w l pl)(hr:TrV N w r pr)(hw:NatX N w wt x)(hN:∀ k,N k->k<w.heap.size)(hb:Nb (Tr.node l v x r).sum)(hs:(Tr.node l v x r).sz<=1000000):
  Ret prog 199 [pl,.agg (v.cells++[wt]).toArray,pr] w λu w'=>TrV N w' (.node l v x r) u/\Ext w w':=by
 obtain⟨ql,rfl⟩:=hl.ptr;obtain⟨qr,rfl⟩:=hr.ptr;refine enE func199 ntmps199 ?_;refine bxR (cs:=v.cells++[wt]) ?_;intro w1 b a9 aj hB;refine ρ ?_;have a1:Ext w1 w1.drew:=(Ext.refl w1).drew;have C:=a9.trans a1;have a7:=hB.ext a1;have J:=hl.ext C;have G:=hr.ext C;have U:=hw.ext C;have ag:=Tr.ht_le l;have af:=Tr.ht_le r;simp only[Tr.sz]at hs;refine dr [(0,0),(0,1),(0,2),(0,3),(0,5),(0,9),(0,12),(0,15),(0,17),(0,18),(0,19),(1,4),(1,6),(0,7),(0,8),(1,10),(0,11),(1,13),(0,14),(1,16),(1,20),(1,21),(1,22),(0,23),(1,24),(0,25)] kr ?_;refine Qh (cs:=v.cells++[wt]) (λj u hu=>a7.at hu) ?_;refine Jz (a7.at (i:=3) rfl) ?_;refine Jh (Ie J) ?_;rintro u2 Z ⟨rfl,rfl⟩;refine⟨Ext.refl _,?_⟩;refine Jh (Ie G) ?_;rintro u2 Z ⟨rfl,rfl⟩;refine⟨Ext.refl _,?_⟩;refine Jh (Jrq J) ?_;rintro u2 Z ⟨rfl,rfl⟩;refine⟨Ext.refl _,?_⟩;refine Jh (Jrq G) ?_;rintro u2 Z ⟨rfl,rfl⟩
 refine⟨Ext.refl _,?_⟩;refine Jh (Jxj J) ?_;rintro ul Z ⟨a4,rfl⟩;refine⟨Ext.refl _,?_⟩;refine Jh (Jxj G) ?_;rintro ur Z ⟨a3,rfl⟩;refine⟨Ext.refl _,?_⟩;obtain⟨A1,c1,e1,_⟩:=id a4.1;obtain⟨A2,c2,e2,_⟩:=id U.1;obtain⟨A3,c3,e3,_⟩:=id a3.1;refine ρd ?_;refine Un (Xxq _ _ _ _ _ _ _ _ _ _ _ _ e1 e2 e3) ?_;intro w3 b3 D ai ae;have ab:NatsV w3 (some ⟨b3,0,none⟩) [ul,wt,ur] [l.sum,x,r.sum]:=by
  refine⟨ae.rd (n:=3) rfl,rfl,λi hi=>?_⟩;match i,hi with
  | 0,_=>exact a4.1.ext D
  | 1,_=>exact U.1.ext D
  | 2,_=>exact a3.1.ext D
 simp only[Tr.sum]at hb;refine Jh (Qnm (us:=[ul,wt,ur]) ab (hb.le (by simp)) (by simp) (λi hi=>hb.le ?_) (λy hy=>hb.le ?_)) ?_
 .match i,hi with
  | 0,_=>simp
  | 1,_=>simp;omega
  | 2,_=>simp
  | 3,_=>simp
 .grind
 rintro st w4 ⟨a6,ad,O⟩;refine⟨O,?_⟩;obtain⟨A4,c4,e4,_⟩:=id a6;refine ρd ?_;refine dbld (Xzr v wt st A2 A4 _ _ _ _ ql qr _ _ e2 e4) ?_;refine ρd ?_;refine dbx (cs:=v.cells++[wt,.pointer ql,.pointer qr,.int .i64 _,.int .i64 _,st]) ?_;intro w5 b5 a2 ah a8;refine ρd ?_;refine ρ ?_;have e5:(if(l.ht:Int)<(r.ht:Int) then(r.ht:Int) else(l.ht:Int))+1=((Tr.node l v x r).ht:Int):=by simp only[Tr.ht];split<;>omega
 have e6:(l.sz:Int)+1+r.sz=((Tr.node l v x r).sz:Int):=by simp only[Tr.sz];omega
 rw[e5,e6]at a8;have o:=(D.trans O).trans a2;have aa:=nL C.size D.size;have a5:NatX N w5 st (Tr.node l v x r).sum:=by
  have:=a6.ext a2;simp only[List.foldl_cons,List.foldl_nil,Nat.zero_add]at this;exact ad.x this λk hk=>nM (hN k hk) aa
 have ac:¬ N b5:=λhk=>by have:=hN _ hk;have:=O.size;omega
 exact Jj ⟨⟨b5,wt,_,_,st,rfl,⟨a8,ac⟩,U.ext o,a5,J.ext o,G.ext o⟩,C.trans o⟩
end Go.Proofs.YtgobkbeokaaplaaGreatDoor
namespace Go.Wk
theorem _root_.Go.Wk.Blk.pre{w:World}{b t:Nat}{cs ds:List Value}(h:Blk w b t (cs++ds))(j:Nat)(u:Value)(hu:cs[j]?=some u): w.cell? ((⟨b,0,none⟩:Addr).add j)=some u :=
 h.at (by grind)
end Go.Wk
namespace Go.Proofs.YtgobkbeokaaplaaGreatDoor
open Go.RowKit Pl Go.Wk
attribute [local irreducible] WC WL QX WD WDB WP WN WG
theorem Qws{N:Nat->Prop}{w:World}{l r:Tr}{pl pr wt:Value}{v:V}{x:Nat}(hl:TrV N w l pl)(hr:TrV N w r pr)(hw:NatX N w wt x)(hN:∀ k,N k->k<w.heap.size)(hb:Nb (Tr.node l v x r).sum)(hs:(Tr.node l v x r).sz<=1000000):
  Ret Tryz.prog 200 [pl,.agg (v.cells++[wt]).toArray,pr] w λu w'=>TrV N w' (Tr.bal l v x r) u/\Ext w w':=by
 obtain⟨ql,rfl⟩:=hl.ptr;obtain⟨qr,rfl⟩:=hr.ptr;have bd:=Tr.ht_le l;have bc:=Tr.ht_le r;have ah:l.sz+1+r.sz<=1000000:=hs;have U:Nb (l.sum+x+r.sum):=hb;refine enE Tryz.func200 Tryz.ntmps200 ?_;refine bxR (cs:=v.cells++[wt]) ?_;intro w1 b G be hB;have ac:=hl.ext G;have a9:=hr.ext G;have a8:=hw.ext G;refine clR (Ie ac) ?_;rintro u2 w2 ⟨rfl,rfl⟩;refine clR (Ie a9) ?_;rintro u2 w2 ⟨rfl,rfl⟩;have a6:Ext w2 w2.drew:=(Ext.refl w2).drew;refine ρ ?_;by_cases hc:r.ht+1<l.ht
 .cases l with
  | nil=>simp[Tr.ht]at hc
  | node ll lv lx lr=>
   obtain⟨bl,wl,b9,b8,sl,e1,⟨ag,b4⟩,ar,bb,am,ak⟩:=id ac;obtain rfl:ql=some ⟨bl,0,none⟩:=by injection e1
   obtain⟨b5,rfl⟩:=am.ptr;obtain⟨ap,rfl⟩:=ak.ptr;simp only[Tr.sum,Tr.sz]at U ah;have ae:decide ((r.ht:Int)+1<((Tr.node ll lv lx lr).ht:Int))=true:=decide_eq_true om;refine dr [(0,0),(0,1),(0,2),(0,3),(0,4),(0,5),(0,6),(0,7),(0,8),(0,10),(0,11),(0,12),(0,13),(1,9),(1,14),(0,15),(0,16),(0,17)] kr ?_;refine ρd ?_;refine dkt 20 ae ?_;refine Jz ((ag.ext a6).at (i:=4) rfl) ?_;refine Jz ((ag.ext a6).at (i:=5) rfl) ?_;refine Jh (Ie (am.ext a6)) ?_;rintro u3 w3 ⟨rfl,rfl⟩;refine⟨Ext.refl _,?_⟩;refine Jh (Ie (ak.ext a6)) ?_;rintro u3 w3 ⟨rfl,rfl⟩;refine⟨Ext.refl _,?_⟩;refine ρd ?_;refine ciR (λJ=>?_) (λJ=>?_)
   .have J:lr.ht<=ll.ht:=by have:=oT J;omega
    have o:Ext w2 w2.drew.drew:=a6.drew;have a5:=ag.ext o;refine drR (scq 17 [14,15]) ?_;refine Jz (a5.at (i:=4) rfl) ?_;refine Qh (cs:=lv.cells++[wl]) (Blk.pre (cs:=lv.cells++[wl]) a5) ?_;refine Jz (a5.at (i:=5) rfl) ?_;refine Qh (cs:=v.cells++[wt]) (λj u hu=>(hB.ext o).at hu) ?_;refine Jh (Uz (ak.ext o) (a9.ext o) (a8.ext o) (λk O=>nM (hN k O) (G.trans o).size) (U.le (by simp only[Tr.sum];omega)) (by simp only[Tr.sz];omega)) ?_;rintro uj w4 ⟨hj,a1⟩;refine⟨a1,?_⟩;have C:=o.trans a1;refine Jh (Uz (am.ext C) hj (ar.ext C) (λk O=>nM (hN k O) (G.trans C).size) (U.le (by simp only[Tr.sum];omega)) (by simp only[Tr.sz];omega)) ?_;rintro uk w5 ⟨O,Z⟩;refine⟨Z,?_⟩;refine ρd ?_;refine ρ ?_;refine Jj ⟨?_,(G.trans C).trans Z⟩;have e:Tr.bal (.node ll lv lx lr) v x r=.node ll lv lx (.node lr v x r):=by simp only[Tr.bal,if_pos hc,if_pos J]
    rw[e];exact O
   have J:ll.ht<lr.ht:=by grind
   refine ctR ae ?_;cases lr with
   | nil=>simp[Tr.ht]at J
   | node ml mv mx mr=>
    obtain⟨bm,wm,b1,az,sm,e2,⟨ao,au⟩,an,b2,ab,aa⟩:=id ak;obtain rfl:ap=some ⟨bm,0,none⟩:=by injection e2
    obtain⟨ay,rfl⟩:=ab.ptr;obtain⟨ax,rfl⟩:=aa.ptr;simp only[Tr.sum,Tr.sz]at U ah;refine ldR ((ag.ext a6).at (i:=5) rfl) ?_;refine ρ ?_;have o:Ext w2 w2.drew.drew:=a6.drew;have a5:=ag.ext o;have a3:=ao.ext o;refine dr [(0,0),(0,1),(0,2),(0,3),(0,4),(0,5),(0,6),(0,7),(0,8),(0,9),(0,10),(0,11),(0,13),(0,14),(0,15),(0,16),(0,17),(0,18),(0,19),(0,20),(0,21),(0,22),(1,12),(1,23),(1,24),(0,25)] kr ?_;refine Jz (a5.at (i:=4) rfl) ?_;refine Qh (cs:=lv.cells++[wl]) (Blk.pre (cs:=lv.cells++[wl]) a5) ?_;refine Jz (a3.at (i:=4) rfl) ?_;refine Qh (cs:=mv.cells++[wm]) (Blk.pre (cs:=mv.cells++[wm]) a3) ?_;refine Jz (a3.at (i:=5) rfl) ?_;refine Qh (cs:=v.cells++[wt]) (λj u hu=>(hB.ext o).at hu) ?_;refine Jh (Uz (am.ext o) (ab.ext o) (ar.ext o) (λk O=>nM (hN k O) (G.trans o).size) (U.le (by simp only[Tr.sum];omega)) (by simp only[Tr.sz];omega)) ?_;rintro uj w4 ⟨hj,a1⟩
    refine⟨a1,?_⟩;have C:=o.trans a1;refine Jh (Uz (aa.ext C) (a9.ext C) (a8.ext C) (λk O=>nM (hN k O) (G.trans C).size) (U.le (by simp only[Tr.sum];omega)) (by simp only[Tr.sz];omega)) ?_;rintro uk w5 ⟨O,Z⟩;refine⟨Z,?_⟩;have a2:=C.trans Z;refine Jh (Uz (hj.ext Z) O (an.ext a2) (λk O=>nM (hN k O) (G.trans a2).size) (U.le (by simp only[Tr.sum];omega)) (by simp only[Tr.sz];omega)) ?_;rintro uo w6 ⟨ho,a7⟩;refine⟨a7,?_⟩;refine ρd ?_;refine ρ ?_;refine Jj ⟨?_,(G.trans a2).trans a7⟩;have e:Tr.bal (.node ll lv lx (.node ml mv mx mr)) v x r=.node (.node ll lv lx ml) mv mx (.node mr v x r):=by simp only[Tr.bal,if_pos hc,if_neg (Nat.not_le.2 J)]
    rw[e];exact ho
 refine dr [(0,0),(0,1),(0,2),(0,3),(0,4),(0,5),(0,6),(0,7),(0,8),(0,10),(0,11),(0,12),(0,13),(1,9),(1,14),(0,15),(0,16),(0,17)] kr ?_;refine ρd ?_;have ae:decide ((r.ht:Int)+1<(l.ht:Int))=false:=dF om;refine dkf 20 ae ?_;refine ρd ?_;refine cfR ae ?_;refine ρ ?_;by_cases hd:l.ht+1<r.ht
 .cases r with
  | nil=>simp[Tr.ht]at hd
  | node rl rv rx rr=>
   obtain⟨br,wr,b7,b6,sr,e1,⟨af,b3⟩,aq,ba,aj,ai⟩:=id a9;obtain rfl:qr=some ⟨br,0,none⟩:=by injection e1
   obtain⟨av,rfl⟩:=aj.ptr;obtain⟨ap,rfl⟩:=ai.ptr;simp only[Tr.sum,Tr.sz]at U ah;have o:Ext w2 w2.drew.drew:=a6.drew;have ad:decide ((l.ht:Int)+1<((Tr.node rl rv rx rr).ht:Int))=true:=decide_eq_true om;refine dr [(0,0),(0,1),(0,2),(0,3),(0,4),(0,5),(0,6),(0,7),(0,8),(0,10),(0,11),(0,12),(0,13),(1,9),(1,14),(0,15),(0,16),(0,17)] kr ?_;refine ρd ?_;refine dkt 88 ad ?_;refine Jz ((af.ext o).at (i:=5) rfl) ?_;refine Jz ((af.ext o).at (i:=4) rfl) ?_;refine Jh (Ie (ai.ext o)) ?_;rintro u3 w3 ⟨rfl,rfl⟩;refine⟨Ext.refl _,?_⟩;refine Jh (Ie (aj.ext o)) ?_;rintro u3 w3 ⟨rfl,rfl⟩;refine⟨Ext.refl _,?_⟩;refine ρd ?_;refine ciR (λJ=>?_) (λJ=>?_)
   .have J:rl.ht<=rr.ht:=by have:=oT J;omega
    have D:Ext w2 w2.drew.drew.drew:=o.drew;have a4:=af.ext D;refine drR [(0,0),(0,1),(0,2),(0,3),(0,4),(0,5),(0,7),(0,8),(0,9),(0,10),(0,11),(0,12),(0,13),(0,14),(1,6),(1,15),(0,16)] ?_;refine Qh (cs:=v.cells++[wt]) (λj u hu=>(hB.ext D).at hu) ?_;refine Jz (a4.at (i:=4) rfl) ?_;refine Qh (cs:=rv.cells++[wr]) (Blk.pre (cs:=rv.cells++[wr]) a4) ?_;refine Jz (a4.at (i:=5) rfl) ?_;refine Jh (Uz (ac.ext D) (aj.ext D) (a8.ext D) (λk O=>nM (hN k O) (G.trans D).size) (U.le (by simp only[Tr.sum];omega)) (by simp only[Tr.sz];omega)) ?_;rintro uj w4 ⟨hj,a1⟩;refine⟨a1,?_⟩;have C:=D.trans a1;refine Jh (Uz hj (ai.ext C) (aq.ext C) (λk O=>nM (hN k O) (G.trans C).size) (U.le (by simp only[Tr.sum];omega)) (by simp only[Tr.sz];omega)) ?_;rintro uk w5 ⟨O,Z⟩;refine⟨Z,?_⟩;refine ρd ?_;refine ρ ?_;refine Jj ⟨?_,(G.trans C).trans Z⟩;have e:Tr.bal l v x (.node rl rv rx rr)=.node (.node l v x rl) rv rx rr:=by simp only[Tr.bal,if_neg hc,if_pos hd,if_pos J]
    rw[e];exact O
   have J:rr.ht<rl.ht:=by grind
   refine ctR ad ?_;cases rl with
   | nil=>simp[Tr.ht]at J
   | node ml mv mx mr=>
    obtain⟨bm,wm,b1,az,sm,e2,⟨ao,au⟩,an,b2,ab,aa⟩:=id aj;obtain rfl:av=some ⟨bm,0,none⟩:=by injection e2
    obtain⟨ay,rfl⟩:=ab.ptr;obtain⟨ax,rfl⟩:=aa.ptr;simp only[Tr.sum,Tr.sz]at U ah;refine ldR ((af.ext o).at (i:=4) rfl) ?_;refine ρ ?_;have D:Ext w2 w2.drew.drew.drew:=o.drew;have a4:=af.ext D;have a3:=ao.ext D;refine dr [(0,0),(0,1),(0,2),(0,3),(0,4),(0,5),(0,7),(0,8),(0,9),(0,10),(0,11),(0,12),(0,13),(0,14),(0,15),(0,16),(0,17),(0,18),(0,19),(0,20),(0,21),(0,22),(1,6),(1,23),(1,24),(0,25)] kr ?_;refine Qh (cs:=v.cells++[wt]) (λj u hu=>(hB.ext D).at hu) ?_;refine Jz (a3.at (i:=4) rfl) ?_;refine Qh (cs:=mv.cells++[wm]) (Blk.pre (cs:=mv.cells++[wm]) a3) ?_;refine Jz (a3.at (i:=5) rfl) ?_;refine Qh (cs:=rv.cells++[wr]) (Blk.pre (cs:=rv.cells++[wr]) a4) ?_;refine Jz (a4.at (i:=5) rfl) ?_;refine Jh (Uz (ac.ext D) (ab.ext D) (a8.ext D) (λk O=>nM (hN k O) (G.trans D).size) (U.le (by simp only[Tr.sum];omega)) (by simp only[Tr.sz];omega)) ?_;rintro uj w4 ⟨hj,a1⟩
    refine⟨a1,?_⟩;have C:=D.trans a1;refine Jh (Uz (aa.ext C) (ai.ext C) (aq.ext C) (λk O=>nM (hN k O) (G.trans C).size) (U.le (by simp only[Tr.sum];omega)) (by simp only[Tr.sz];omega)) ?_;rintro uk w5 ⟨O,Z⟩;refine⟨Z,?_⟩;have a2:=C.trans Z;refine Jh (Uz (hj.ext Z) O (an.ext a2) (λk O=>nM (hN k O) (G.trans a2).size) (U.le (by simp only[Tr.sum];omega)) (by simp only[Tr.sz];omega)) ?_;rintro uo w6 ⟨ho,a7⟩;refine⟨a7,?_⟩;refine ρd ?_;refine ρ ?_;refine Jj ⟨?_,(G.trans a2).trans a7⟩;have e:Tr.bal l v x (.node (.node ml mv mx mr) rv rx rr)=.node (.node l v x ml) mv mx (.node mr rv rx rr):=by simp only[Tr.bal,if_neg hc,if_pos hd,if_neg (Nat.not_le.2 J)]
    rw[e];exact ho
 refine dr [(0,0),(0,1),(0,2),(0,3),(0,4),(0,5),(0,6),(0,7),(0,8),(0,10),(0,11),(0,12),(0,13),(1,9),(1,14),(0,15),(0,16),(0,17)] kr ?_;refine ρd ?_;have ad:decide ((l.ht:Int)+1<(r.ht:Int))=false:=dF om;refine dkf 88 ad ?_;refine ρd ?_;refine cfR ad ?_;have o:Ext w2 w2.drew.drew:=a6.drew;refine Js (cs:=v.cells++[wt]) (λj u hu=>(hB.ext o).at hu) ?_;refine clR (Uz (ac.ext o) (a9.ext o) (a8.ext o) (λk O=>nM (hN k O) (G.trans o).size) hb hs) ?_;rintro uj w4 ⟨hj,a1⟩;refine ρ ?_;refine Jj ⟨?_,(G.trans o).trans a1⟩;have e:Tr.bal l v x r=.node l v x r:=by simp only[Tr.bal,if_neg hc,if_neg hd]
 rw[e];exact hj
open Go.RowKit Pl Go.Wk _root_.Go.Proofs.Tryz
variable {d:Bool}{x:Nat}{N:Nat->Prop}{p p0:Option Addr}{a b v:V}{wt:Value}{w:World}
theorem neg_lt: neg d (cmpV a b)=if d=true then cmpV b a else cmpV a b:=by
 unfold neg;split
 .exact(cmp_V.anti a b).symm
 rfl
theorem Qkf: Ret prog 180 [.agg #[.bool d,.pointer p],a.val,b.val] w λu w'=>u=.int .i64 (neg d (cmpV a b))/\Ext w w':=by
 rw[neg_lt];refine enE func180 ntmps180 ?_;refine bxR ?_;intro w1 b1 O a5 a2;refine bxR (cs:=a.cells) ?_;intro w2 b2 G a4 a1;refine bxR (cs:=b.cells) ?_;intro w3 b3 o a3 U;have Z:=(a2.ext G).ext o;have C:=a1.ext o;refine ldR (Z.at (i:=0) rfl) ?_;refine ciR (λh=>?_) (λh=>?_)
 .refine Js (cs:=b.cells) (λj u J=>U.at J) ?_;refine Js (cs:=a.cells) (λj u J=>C.at J) ?_;refine clR (Jxf b a _) ?_;rintro u w4 ⟨rfl,D⟩;refine ρ ?_;refine Jj ⟨?_,((O.trans G).trans o).trans D⟩;rw[if_pos h]
 refine Js (cs:=a.cells) (λj u J=>C.at J) ?_;refine Js (cs:=b.cells) (λj u J=>U.at J) ?_;refine clR (Jxf a b _) ?_;rintro u w4 ⟨rfl,D⟩;refine ρ ?_;refine Jj ⟨?_,((O.trans G).trans o).trans D⟩;rw[if_neg (by rw[h];simp)]
theorem Qwv(l:Tr)(v:V)(x:Nat)(r:Tr): (Tr.bal l v x r).sum=l.sum+x+r.sum:=by
 have:=congrArg tot (Tr.toL_bal l v x r);rw[<-Tr.sum_eq,Jkn,tot,<-Tr.sum_eq,<-Tr.sum_eq]at this;grind
theorem Jwd(d:Bool)(v:V)(x:Nat): ∀ t:Tr,(Tr.put d v x t).sum<=t.sum+x
 | .nil=>by simp[Tr.put,Tr.sum]
 | .node l a y r=>by
  have h1:=Jwd d v x l;have h2:=Jwd d v x r;unfold Tr.put;split
  .rw[Qwv,Tr.sum];omega
  split
  .rw[Qwv,Tr.sum];omega
  rw[Tr.sum,Tr.sum];omega
theorem Qhw: ∀(t:Tr) (p:Value) (w:World),TrV N w t p->NatX N w wt x->(∀ k,N k->k<w.heap.size)->Nb (t.sum+x)->t.sz+1<=1000000 ->
  Ret prog 175 [.agg #[.bool d,.pointer p0],p,.agg (v.cells++[wt]).toArray] w λu w'=>TrV N w' (Tr.put d v x t) u/\Ext w w':=by
 intro t;induction t with
 | nil=>
  intro p w hp hw hN hb hs;obtain rfl:p=.pointer none:=hp;refine enE func175 ntmps175 ?_;refine bxR ?_;intro w1 b1 a8 ah ad;refine bxR (cs:=v.cells++[wt]) ?_;intro w2 b2 a6 ag aa;have hx:=a8.trans a6;refine ρ ?_;refine pnl ?_;refine Js (cs:=v.cells++[wt]) (λj u O=>aa.at O) ?_;refine clR (Uz (l:=.nil) (r:=.nil) (show TrV N w2 .nil (.pointer none) from rfl) (show TrV N w2 .nil (.pointer none) from rfl) (hw.ext hx) (λk hk=>nM (hN k hk) hx.size) (hb.le (by simp[Tr.sum])) (by simp[Tr.sz])) ?_;rintro u w3 ⟨O,J⟩;refine ρ ?_;exact Jj ⟨O,hx.trans J⟩
 | node l a y r ihl ihr=>
  intro p w hp hw hN hb hs;obtain⟨bn,wn,pl,pr,sn,rfl,⟨a7,ai⟩,ab,aj,hl,hr⟩:=id hp;obtain⟨ql,rfl⟩:=hl.ptr;obtain⟨qr,rfl⟩:=hr.ptr;simp only[Tr.sum]at hb;simp only[Tr.sz]at hs;refine enE func175 ntmps175 ?_;refine bxR ?_;intro w1 b1 a8 ah ad;refine bxR (cs:=v.cells++[wt]) ?_;intro w2 b2 a6 ag aa;have hx:=a8.trans a6;refine ρ ?_;refine pnl ?_;refine ρ ?_;have a5:Ext w2 w2.drew:=(Ext.refl w2).drew;have ac:=a7.ext (hx.trans a5);have a4:=(ad.ext a6).ext a5;have Z:=aa.ext a5;refine dr (scq 10 [8]) kr ?_;refine Qh (cs:=[.bool d,.pointer p0]) (λj u O=>a4.at O) ?_;refine Qh (cs:=v.cells) (Blk.pre (cs:=v.cells) Z) ?_;refine Qh (cs:=a.cells) (Blk.pre (cs:=a.cells) ac) ?_;refine Jh (Qkf (a:=v) (b:=a)) ?_;rintro u w3 ⟨rfl,J⟩;refine⟨J,?_⟩;refine ρd ?_;refine ρ ?_;have a2:=(hx.trans a5).trans J;refine ci (λhc=>?_) (λhc=>?_)
  .have hc:=oT hc;have C:Ext w3 w3.drew:=(Ext.refl w3).drew;have o:=a2.trans C;have D:=a7.ext o;refine drR [(0,0),(0,1),(0,2),(0,3),(0,4),(0,5),(0,7),(0,8),(0,9),(0,10),(0,11),(0,12),(0,13),(0,14),(1,6),(1,15),(0,16)] ?_;refine Qh (cs:=[.bool d,.pointer p0]) (λj u O=>((a4.ext J).ext C).at O) ?_;refine Jz (D.at (i:=4) rfl) ?_;refine Qh (cs:=v.cells++[wt]) (λj u O=>((Z.ext J).ext C).at O) ?_;refine Qh (cs:=a.cells++[wn]) (Blk.pre (cs:=a.cells++[wn]) D) ?_;refine Jz (D.at (i:=5) rfl) ?_;refine Jh (ihl _ _ (hl.ext o) (hw.ext o) (λk hk=>nM (hN k hk) o.size) (hb.le om) om) ?_;rintro u w4 ⟨a3,G⟩;refine⟨G,?_⟩;have af:=Tr.put_sz d v x l;have ae:=Jwd d v x l;refine Jh (Qws a3 (hr.ext (o.trans G)) (ab.ext (o.trans G)) (λk hk=>nM (hN k hk) (o.trans G).size) (hb.le (by simp only[Tr.sum];omega)) (by simp only[Tr.sz];omega)) ?_
   rintro u w5 ⟨a9,a1⟩;refine⟨a1,?_⟩;refine ρd ?_;refine ρ ?_;refine Jj ⟨?_,(o.trans G).trans a1⟩;rw[Tr.put,if_pos hc];exact a9
  have hc:=oF hc;refine ciR (λU=>?_) (λU=>?_)
  .have U:=oT U;have C:Ext w3 w3.drew:=(Ext.refl w3).drew;have o:=a2.trans C;have D:=a7.ext o;refine drR (scq 17 [14,15]) ?_;refine Jz (D.at (i:=4) rfl) ?_;refine Qh (cs:=a.cells++[wn]) (Blk.pre (cs:=a.cells++[wn]) D) ?_;refine Qh (cs:=[.bool d,.pointer p0]) (λj u O=>((a4.ext J).ext C).at O) ?_;refine Jz (D.at (i:=5) rfl) ?_;refine Qh (cs:=v.cells++[wt]) (λj u O=>((Z.ext J).ext C).at O) ?_;refine Jh (ihr _ _ (hr.ext o) (hw.ext o) (λk hk=>nM (hN k hk) o.size) (hb.le om) om) ?_;rintro u w4 ⟨a3,G⟩;refine⟨G,?_⟩;have af:=Tr.put_sz d v x r;have ae:=Jwd d v x r;refine Jh (Qws (hl.ext (o.trans G)) a3 (ab.ext (o.trans G)) (λk hk=>nM (hN k hk) (o.trans G).size) (hb.le (by simp only[Tr.sum];omega)) (by simp only[Tr.sz];omega)) ?_;rintro u w5 ⟨a9,a1⟩;refine⟨a1,?_⟩;refine ρd ?_;refine ρ ?_;refine Jj ⟨?_,(o.trans G).trans a1⟩
   rw[Tr.put,if_neg hc,if_pos U];exact a9
  have U:=oF U;have C:Ext w3 w3.drew:=(Ext.refl w3).drew;have o:=a2.trans C;have D:=a7.ext o;refine drR (scq 11 [9]) ?_;refine Jz (D.at (i:=4) rfl) ?_;refine Qh (cs:=v.cells++[wt]) (λj u O=>((Z.ext J).ext C).at O) ?_;refine Jz (D.at (i:=5) rfl) ?_;refine Jh (Uz (hl.ext o) (hr.ext o) (hw.ext o) (λk hk=>nM (hN k hk) o.size) (hb.le (by simp only[Tr.sum];omega)) (by simp only[Tr.sz];omega)) ?_;rintro u w4 ⟨a3,G⟩;refine⟨G,?_⟩;refine ρd ?_;refine ρ ?_;refine Jj ⟨?_,o.trans G⟩;rw[Tr.put,if_neg hc,if_neg U];exact a3
theorem Vl: Qa prog 76=some (.agg #[.bool false,.pointer none]):=kr
theorem Xzk(d:Bool)(p:Option Addr)(w:World): (Instr.build 76 #[(0,.bool d),(1,.pointer p)]).run prog w=.ok (.agg #[.bool d,.pointer p]) w:=kr
theorem Xzh(d:Bool)(w:World): (Instr.build 76 #[(0,.bool d)]).run prog w=.ok (.agg #[.bool d,.pointer none]) w:=kr
theorem Xkb(v:V)(wt:Value)(A:Option Addr)(n c:Nat)(h:wt=.slice A n c)(w:World): (Instr.build 230 #[(0,v.val),(1,wt)]).run prog w=.ok (.agg (v.cells++[wt]).toArray) w:=by subst h;kernel_rfl
theorem Qmr: ∀ u∈[Value.bool d,.pointer p],u.oneCell'=true:=λu i=>by
 simp only[List.mem_cons,List.not_mem_nil,or_false]at i;rcases i with rfl|rfl<;>rfl
theorem Qnk: Ret prog 132 [.bool d] w λu w'=>u=.agg #[.bool d,.pointer none]/\Ext w w':=by
 refine enE func132 ntmps132 ?_;refine Jv Vl ?_;intro O b j D G;refine Zj (Xzh d _) ?_;refine Xn G ?_;intro J o C i;refine ρ ?_;exact Gu o ⟨rfl,i w j D⟩
theorem Jpt{p:Value}{t:Tr}(h:TrV N w t p)(hv:Xf v=true)(hw:NatV w wt x)(hN:∀ k,N k->k<w.heap.size)(h0:x≠0)(hn:Nb (t.sum+x))(hs:t.sz+1<=1000000):
  Ret prog 133 [.agg #[.bool d,p],v.val,wt] w λu w'=>∃ q,u=.tuple #[.agg #[.bool d,q],.int .i64 0]/\TrV N w' (Tr.put d v x t) q/\Ext w w':=by
 obtain⟨q,rfl⟩:=h.ptr;refine enE func133 ntmps133 ?_;refine bxR ?_;intro w1 b1 a5 ax ap;refine bxR (cs:=v.cells) ?_;intro w2 b2 O av ao;refine Jv Vl ?_;intro w3 b3 a4 ab ae;have C:=(a5.trans O).trans a4;have ag:=(ap.ext O).ext a4;have a1:=ao.ext a4;refine Js (cs:=v.cells) (λj u Z=>a1.at Z) ?_;refine clR (Jph v _) ?_;rintro u w4 ⟨rfl,J⟩;rw[hv];refine clR (Jgm (hw.ext (C.trans J)) (hn.le om).len) ?_;rintro wn w5 ⟨a9,am,a6⟩;have a8:=(C.trans J).trans a6;obtain⟨A,c,rfl,hc,hm,au⟩:=id a9;have aq:0<(Jq x).length:=by
  rcases Nat.eq_zero_or_pos (Jq x).length with h1|h1
  .have:=List.eq_nil_of_length_eq_zero h1;have e:=Va x;rw[this]at e;exact absurd e.symm h0
  exact h1
 refine cfR ?_ ?_
 .exact Jlz om
 refine ρ ?_;refine drN (λ_=>False) 10 (scq 12 [8,110,111]) kr ?_;have a2:Ext w5 w5.drew:=(Ext.refl w5).drew;have o:=(J.trans a6).trans a2;have G:=ag.ext o;have af:=a1.ext o;have ad:=ae.ext o;have U:=a8.trans a2;refine ρn ?_;refine nld (Jr (G.at (i:=0) rfl) (λe=>e)) ?_;refine ρn ?_;refine Xr (cs:=[.bool d,.pointer q]) (λw' hg j u Z=>(Jb G hg (λe=>e)).at Z) ?_;refine ρn ?_;refine nld (Jr (G.at (i:=1) rfl) (λe=>e)) ?_;refine ρn ?_;refine Xr (cs:=v.cells) (λw' hg j u Z=>(Jb af hg (λe=>e)).at Z) ?_;refine ρn ?_;refine Jqf (Xkb v _ A _ c rfl) ?_;refine ρn ?_;refine nop ?_;have aa:b3<w3.heap.size:=ae.lt;have ar:=C.size;have ac:∀ k,(N k∨k=b3)->k<w3.heap.size:=λk D=>D.elim (λh=>nM (hN k h) C.size) (λe=>by rw[e];exact aa);have hh:TrV (λk=>N k∨k=b3) w5.drew t (.pointer q):=(h.old (N':=λk=>N k∨k=b3) λk D=>D.imp id λe=>by rw[e];exact nL (a5.trans O).size ab).ext U
 have ai:NatX (λk=>N k∨k=b3) w5.drew (.slice A (Jq x).length c) x:=am.x (a9.ext a2) λk D=>nM (ac k D) J.size;refine cl (Qhw t _ _ hh ai (λk D=>nM (ac k D) o.size) hn hs) ?_;rintro u w6 ⟨Z,a3⟩;obtain⟨q2,rfl⟩:=Z.ptr;refine ρ ?_;refine Ja (GrN.ext a3) ?_;refine ρn ?_;refine Jqf (Xzk d q2) ?_;refine ρn ?_;refine Xh ?_;refine stW (ad.ext a3) ?_;intro w7 an ak ah;refine ρ ?_;refine Gz ?_;refine Xh ?_;refine ρ ?_;have a7:Ext w w7:=ah w (U.trans a3) (nL (a5.trans O).size ab);have aj:=(Z.gr (GrN.by ak (λk D=>.inr (by injection D with D;exact D.symm)))).old (N':=N) λk D=>.inl (.inl D);exact Vz an ⟨_,rfl,aj,a7⟩
open Go.RowKit Pl Go.Wk _root_.Go.Proofs.Tryz
variable {d:Bool}
theorem Jpg{N:Nat->Prop}{J:Nat->Tr->World->Prop}{D:Nat->World->Prop}{fid:FuncId}{cap:Array Value}{p:Value}{t:Tr}{w:World}(hp:TrV N w t p)(hj:J 0 t w)(hht:t.ht<=1000000)(hx:∀ n s w w',J n s w->Ext w w'->J n s w')(hnil:∀ n w,J n .nil w->D n w)(hcall:∀ n l v x r u w,TrV N w (.node l v x r) u->J n (.node l v x r) w->Ret prog fid ((#[]:Array Value).toList++[u]++cap.toList) w λz w'=>∃ c,z=.int .i64 c/\GrN N w w'/\(c<0->J (n+1) l w')/\(0<c->J (n+1) r w')/\(c=0->D (n+1) w')):
  Ret prog 178 [.agg #[.bool d,p],.func (.func fid) #[] cap] w λz w'=>(∃ k:Nat,z=.int .i64 (k:Int)/\k<=t.ht/\D k w')/\GrN N w w':=by
 obtain⟨q,rfl⟩:=hp.ptr;refine enE func178 ntmps178 ?_;refine bxR ?_;intro w1 b G hb hB;refine ldR (hB.at (i:=1) rfl) ?_;refine ρ ?_;refine Zq (fun (k:Nat) (s:Tr) (q:Option Addr)=>[(1,.func (.func fid) #[] cap),(5,.int .i64 (k:Int)),(6,.pointer q)])
  (λk s q w'=>k+s.ht<=t.ht/\TrV N w' s (.pointer q)/\J k s w'/\GrN N w w') (λ_ s _=>s.sz) 0 t q sB
  ⟨om,hp.ext G,hx _ _ _ _ hj G,GrN.ext G⟩ ?_
 rintro k s q2 w2 ⟨hk,hs,Z,a1⟩;refine ρ ?_;cases s with
 | nil=>
  obtain rfl:q2=none:=by have:Value.pointer q2=.pointer none:=hs;injection this
  refine pnn ?_;refine ρ ?_;refine Jj ⟨⟨k,rfl,om,hnil _ _ Z⟩,a1⟩
 | node l v x r=>
  obtain⟨bn,wn,pl,pr,sn,e,⟨a2,U⟩,a7,a8,hl,hr⟩:=id hs;obtain rfl:q2=some ⟨bn,0,none⟩:=by injection e
  obtain⟨ql,rfl⟩:=hl.ptr;obtain⟨qr,rfl⟩:=hr.ptr;have a6:l.ht+1<=(Tr.node l v x r).ht:=by simp only[Tr.ht];omega
  have a5:r.ht+1<=(Tr.node l v x r).ht:=by simp only[Tr.ht];omega
  have a4:l.sz<(Tr.node l v x r).sz:=by simp only[Tr.sz];omega
  have a3:r.sz<(Tr.node l v x r).sz:=by simp only[Tr.sz];omega
  refine pnn ?_;refine ρ ?_;refine clv (hcall k l v x r _ w2 hs Z) ?_;rintro z w3 ⟨c,rfl,o,k1,k2,k3⟩;have hg:=a1.trans o;have C:=Jb a2 o U;refine ciR (λO=>?_) (λO=>?_)
  .have O:=oT O;refine ldR (C.at (i:=4) rfl) ?_;refine ρ ?_;exact Xq (k+1) l ql sO ⟨om,hl.gr o,k1 O,hg⟩ om
  have O:=oF O;refine ciR (λj=>?_) (λj=>?_)
  .have j:=oT j;refine ldR (C.at (i:=5) rfl) ?_;refine ρ ?_;exact Xq (k+1) r qr sO ⟨om,hr.gr o,k2 j,hg⟩ om
  have j:=oF j;refine ρ ?_;refine Jj ⟨⟨k+1,rfl,om,k3 om⟩,hg⟩
def Tr.pB(d:Bool)(v:V): Tr->Nat
 | .nil=>0
 | .node l a _ r=>1+(if neg d (cmpV v a)<0 then Tr.pB d v l else if neg d (cmpV v a)=0 then 0 else Tr.pB d v r)
structure BefB(bT bV bS bF:Nat)(d:Bool)(q:Option Addr)(v:V)(w:World)(sv:Value)(f:Bool): Prop where
 tb:Blk w bT 76 [.bool d,.pointer q]
 vb:Blk w bV 147 v.cells
 sb:Blk w bS 45 [sv]
 fb:Blk w bF 4 [.bool f]
theorem BefB.ext{bT bV bS bF:Nat}{d:Bool}{q:Option Addr}{v:V}{w w':World}{sv:Value}{f:Bool}(h:BefB bT bV bS bF d q v w sv f)(hx:Ext w w'): BefB bT bV bS bF d q v w' sv f :=
 ⟨h.tb.ext hx,h.vb.ext hx,h.sb.ext hx,h.fb.ext hx⟩
def BefJ(bT bV bS bF:Nat)(d:Bool)(q:Option Addr)(v:V)(t:Tr)(n:Nat)(s:Tr)(w:World): Prop :=
 ∃ sv m,BefB bT bV bS bF d q v w sv false/\NatX (λk=>k=bS∨k=bF) w sv m/\m+Tr.befT d v s=Tr.befT d v t/\Tr.hasT d v s=Tr.hasT d v t/\m+s.sum<=t.sum/\n+Tr.pB d v s=Tr.pB d v t
def BefD(bT bV bS bF:Nat)(d:Bool)(q:Option Addr)(v:V)(t:Tr)(n:Nat)(w:World): Prop :=
 ∃ sv,BefB bT bV bS bF d q v w sv (Tr.hasT d v t)/\NatX (λk=>k=bS∨k=bF) w sv (Tr.befT d v t)/\n=Tr.pB d v t
theorem Xkn{bT bV bS bF:Nat}{q:Option Addr}{v:V}{t:Tr}(hne:bT≠bS/\bT≠bF/\bV≠bS/\bV≠bF/\bS≠bF)(hb:Nb t.sum):
  ∀ n l a x r u w,TrV (λk=>k=bS∨k=bF) w (.node l a x r) u->BefJ bT bV bS bF d q v t n (.node l a x r) w ->
  Ret prog 179 ((#[]:Array Value).toList++[u]++(#[.pointer (some ⟨bT,0,none⟩),.pointer (some ⟨bV,0,none⟩),.pointer (some ⟨bS,0,none⟩),.pointer (some ⟨bF,0,none⟩)]:Array Value).toList) w λz w'=>∃ c,z=.int .i64 c/\GrN (λk=>k=bS∨k=bF) w w'/\(c<0->BefJ bT bV bS bF d q v t (n+1) l w')/\(0<c->BefJ bT bV bS bF d q v t (n+1) r w')/\(c=0->BefD bT bV bS bF d q v t (n+1) w'):=by
 obtain⟨n1,n2,n3,n4,n5⟩:=hne;rintro n l a x r u w hs ⟨sv,m,hB,hm,e1,e2,e3,e4⟩;obtain⟨bn,wn,pl,pr,sn,rfl,⟨ae,ak⟩,ay,bb,hl,hr⟩:=id hs;obtain⟨ql,rfl⟩:=hl.ptr;obtain⟨qr,rfl⟩:=hr.ptr;simp only[Tr.sum]at e3;refine enE func179 ntmps179 ?_;refine ρ ?_;have ad:Ext w w.drew:=(Ext.refl w).drew;have av:=hB.ext ad;have aq:=ae.ext ad;refine dr (scq 9 [7]) kr ?_;refine Qh (cs:=[.bool d,.pointer q]) (λj u hu=>av.tb.at hu) ?_;refine Qh (cs:=v.cells) (λj u hu=>av.vb.at hu) ?_;refine Qh (cs:=a.cells) (Blk.pre (cs:=a.cells) aq) ?_;refine Jh (Qkf (a:=v) (b:=a)) ?_;rintro u w1 ⟨rfl,ah⟩;refine⟨ah,?_⟩;refine ρd ?_;have O:=ad.trans ah;have ax:=hB.ext O;have b3:=hm.ext O;refine ciR (λZ=>?_) (λZ=>?_)
 .have Z:=oT Z;refine ρ ?_;refine Jj ⟨neg d (cmpV v a),rfl,GrN.ext O,λ_=>⟨sv,m,ax,b3,?_,?_,om,?_⟩,λh=>om,λh=>om⟩
  .rw[<-e1,Tr.befT,if_pos Z]
  .rw[<-e2,Tr.hasT,if_pos Z]
  rw[<-e4,Tr.pB,if_pos Z];omega
 have Z:=oF Z;have a9:Ext w1 w1.drew:=(Ext.refl w1).drew;have J:=O.trans a9;have au:=ae.ext J;have D:=ax.ext a9;refine ρ ?_;refine drN (λ_=>False) 10 (scq 8 [5,6,107]) kr ?_;refine ρn ?_;refine nld (Jr (D.sb.at (i:=0) rfl) (λe=>e)) ?_;refine ρn ?_;refine nld (Jr (au.at (i:=4) rfl) (λe=>e)) ?_;refine ρn ?_;refine nop ?_;refine cl (Jxj (hl.ext J)) ?_;rintro ul w2 ⟨az,rfl⟩;refine ρ ?_;refine Ja (GrN.refl _ _) ?_;refine ρn ?_;refine nop ?_;refine cl (Ih (hm.ext J).1 az.1 (hb.le om).len (hb.le om).len) ?_;rintro us w3 ⟨aj,b4,a2⟩;refine ρ ?_;refine Ja (GrN.ext a2) ?_;refine ρn ?_;refine Xh ?_;obtain⟨A3,c3,rfl,bd,_⟩:=id aj;refine Ky (D.ext a2).sb ?_ rfl;intro w4 b6 a8 ba;refine ρ ?_;have ag:=D.ext a2;have ai:=J.trans a2;have ap:∀ k,(k=bS∨k=bF)->k<w1.drew.heap.size:=λk G=>G.elim (λe=>by rw[e];exact D.sb.lt) (λe=>by rw[e];exact D.fb.lt)
 have b2:NatX (λk=>k=bS∨k=bF) w3 (.slice A3 (Jq (m+l.sum)).length c3) (m+l.sum):=b4.x aj ap;have a3:GrN (λk=>k=bS∨k=bF) w3 w4:=GrN.by a8 λk G=>.inl (by injection G with G;exact G.symm)
 have am:=b2.gr a3;have a5:BefB bT bV bS bF d q v w4 (.slice A3 (Jq (m+l.sum)).length c3) false:=⟨ag.tb.grown a8 (by simpa using n1),ag.vb.grown a8 (by simpa using n3),b6,ag.fb.grown a8 (by simpa using n5.symm)⟩;have U:GrN (λk=>k=bS∨k=bF) w w4:=(GrN.ext ai).trans a3;refine ci (λo=>?_) (λo=>?_)
 .have o:neg d (cmpV v a)=0:=Zx o;refine ρ ?_;refine Ky a5.fb ?_ rfl;intro w5 b7 a7 a1;refine ρ ?_;have ac:GrN (λk=>k=bS∨k=bF) w4 w5:=GrN.by a7 λk G=>.inr (by injection G with G;exact G.symm)
  refine Jj ⟨0,rfl,U.trans ac,λh=>om,λh=>om,λ_=>⟨_,⟨a5.tb.grown a7 (by simpa using n2),a5.vb.grown a7 (by simpa using n4),a5.sb.grown a7 (by simpa using n5),?_⟩,?_,?_⟩⟩
  .rw[<-e2,Tr.hasT,if_neg Z,if_pos o];exact b7
  .rw[<-e1,Tr.befT,if_neg Z,if_pos o];exact am.gr ac
  rw[<-e4,Tr.pB,if_neg Z,if_pos o]
 have o:neg d (cmpV v a)≠0:=Xu o;have C:Ext w4 w4.drew:=(Ext.refl w4).drew;have a4:=a5.ext C;have ar:=(Jb ae U ak).ext C;refine ρ ?_;refine drN (λ_=>False) 10 (scq 8 [6,107]) kr ?_;refine ρn ?_;refine nld (Jr (a4.sb.at (i:=0) rfl) (λe=>e)) ?_;refine ρn ?_;refine nld (Jr (ar.at (i:=3) rfl) (λe=>e)) ?_;refine ρn ?_;refine nop ?_;refine cl (Ih (am.ext C).1 ((ay.gr U).ext C).1 (hb.le om).len (hb.le om).len) ?_;rintro b8 w5 ⟨aa,ao,a1⟩;refine ρ ?_;refine Ja (GrN.ext a1) ?_;refine ρn ?_;refine Xh ?_;obtain⟨A5,c5,rfl,bc,_⟩:=id aa;refine Ky (a4.ext a1).sb ?_ rfl;intro w6 b5 a6 b9;refine ρ ?_;have af:=a4.ext a1;have b1:NatX (λk=>k=bS∨k=bF) w5 (.slice A5 (Jq (m+l.sum+x)).length c5) (m+l.sum+x):=ao.x aa λk G=>nM (ap k G) (nL a2.size (a3.trans (GrN.ext C)).size);have ab:GrN (λk=>k=bS∨k=bF) w5 w6:=GrN.by a6 λk G=>.inl (by injection G with G;exact G.symm)
 have an:GrN (λk=>k=bS∨k=bF) w w6:=((U.trans (GrN.ext C)).trans (GrN.ext a1)).trans ab;refine Jj ⟨neg d (cmpV v a),rfl,an,λh=>om,λh=>⟨_,m+l.sum+x,⟨af.tb.grown a6 (by simpa using n1),af.vb.grown a6 (by simpa using n3),b5,af.fb.grown a6 (by simpa using n5.symm)⟩,b1.gr ab,?_,?_,om,?_⟩,λh=>om⟩
 .rw[<-e1,Tr.befT,if_neg Z,if_neg o];omega
 .rw[<-e2,Tr.hasT,if_neg Z,if_neg o]
 rw[<-e4,Tr.pB,if_neg Z,if_neg o];omega
end Go.Proofs.YtgobkbeokaaplaaGreatDoor
namespace Go.Wk
theorem Jhx{P:Program}{n:Nat}{al:AL}{w:World}{tt:TT}[h:Tab P tt]{fn:Func}{Φ:Value->World->Prop}{c t t1 t2 t3 b:Nat}{k:TK}{cs:List Value}{x y z:Value}(hb:Blk w b t cs)(hp:Φ (.tuple #[.agg cs.toArray,x,y,z]) w)(hr:fn.results = #[.cell c t,.tmp t1,.tmp t2,.tmp t3]:=by rfl)(ht:tk tt t=some k:=by rfl)(hk:k.desc=.invalid:=by rfl)(hs:k.size=cs.length:=by rfl)(hc:lk al c=some (.pointer (some ⟨b,0,none⟩)):=by rfl)(h1:lk al t1=some x:=by rfl)(h2:lk al t2=some y:=by rfl)(h3:lk al t3=some z:=by rfl):
  QX n (Vg P fn Φ) .ret al w :=
 Jzt (rs:=[.cell c t,.tmp t1,.tmp t2,.tmp t3]) (vs:=[.agg cs.toArray,x,y,z]) hr ⟨⟨_,hc,Jjt h.ok ht hk hs (λj u i=>hb.at i)⟩,h1,h2,h3,trivial⟩ rfl hp
end Go.Wk
namespace Go.Proofs.YtgobkbeokaaplaaGreatDoor
open Go.RowKit Pl Go.Wk _root_.Go.Proofs.Tryz
attribute [local irreducible] WC WL QX WD WDB WP WN WG
variable {d:Bool}{a b k:Nat}{N:Nat->Prop}{p:Value}{w:World}
theorem zNat: Qa prog 45=some (.slice none 0 0):=kr
theorem Jnb: Qa prog 4=some (.bool false):=kr
theorem Qwr{t:Tr}{v:V}(h:TrV N w t p)(hb:Nb t.sum)(hs:t.sz<=1000000):
  Ret prog 141 [.agg #[.bool d,p],v.val] w λu w'=>∃ sv,u=.tuple #[sv,.bool (Tr.hasT d v t),.int .i64 (Tr.pB d v t:Int)]/\Tr.pB d v t<=t.ht/\NatV w' sv (Tr.befT d v t)/\Ext w w':=by
 obtain⟨q,rfl⟩:=h.ptr;refine enE func141 ntmps141 ?_;refine bxR ?_;intro w1 bT a9 av hT;refine bxR (cs:=v.cells) ?_;intro w2 bV a7 au hV;refine Jv zNat ?_;intro w3 O o ax hS;refine Jv Jnb ?_;intro w4 U a8 ag hF;refine ρ ?_;refine Ky hF ?_ rfl;intro w5 aj ar ac;have lT:=hT.lt;have lV:=hV.lt;have lS:=hS.lt;have ao:=a7.size;have an:=o.size;have am:=a8.size;have nT:bT≠O/\bT≠U/\bV≠O/\bV≠U/\O≠U:=by grind
 obtain⟨n1,n2,n3,n4,n5⟩:=nT;have j:Ext w3 w5:=ac w3 a8 ag;have C:Ext w w5:=((a9.trans a7).trans o).trans j;have ab:=((hT.ext a7).ext o).ext j;have ah:=(hV.ext o).ext j;have ai:=hS.ext j;have ap:=a9.size;have hN:TrV (λk=>k=O∨k=U) w5 t (.pointer q):=(h.old (N':=λk=>k=O∨k=U) λk hk=>.inr (by grind)).ext C;have aq:=Tr.ht_le t;refine Qq ab ?_;refine clR (Jpg (N:=λk=>k=O∨k=U) (J:=BefJ bT bV O U d q v t) (D:=BefD bT bV O U d q v t) hN ⟨_,0,⟨ab,ah,ai,aj⟩,NatX.nil _,om,rfl,om,om⟩ om ?_ ?_ (Xkn ⟨n1,n2,n3,n4,n5⟩ hb)) ?_
 .rintro n s w w' ⟨sv,m,a1,a2,a3,a4,a5⟩ hx;exact⟨sv,m,a1.ext hx,a2.ext hx,a3,a4,a5⟩
 .rintro n w ⟨sv,m,a1,a2,a3,a4,a5,a6⟩;simp only[Tr.befT,Tr.hasT,Tr.pB,Nat.add_zero]at a3 a4 a6;refine⟨sv,?_,?_,a6⟩;repeat grind
 rintro z w6 ⟨⟨k,rfl,hk,sv,ak,ad,ae⟩,af⟩;subst ae;have aa:Ext w w6:=af.old C λk hk=>by grind
 have Z:Ext w6 w6.drew:=(Ext.refl w6).drew;have G:=ak.ext Z;refine drR (scq 6 []) ?_;refine Jz (G.sb.at (i:=0) rfl) ?_;refine Jz (G.fb.at (i:=0) rfl) ?_;refine ρd ?_;refine ρ ?_;exact Zz ⟨sv,rfl,hk,(ad.ext Z).1,aa.trans Z⟩
def Tr.pF: Nat->Tr->Nat
 | _,.nil=>0
 | k,.node l _ x r=>1+(if k<l.sum then Tr.pF k l else if l.sum+x<=k then Tr.pF (k-(l.sum+x)) r else 0)
structure FndB(bS bK bV bR:Nat)(w:World)(sv kv:Value)(v:V): Prop where
 sb:Blk w bS 45 [sv]
 kb:Blk w bK 45 [kv]
 vb:Blk w bV 147 v.cells
 rb:Blk w bR 147 V0.cells
theorem FndB.ext{bS bK bV bR:Nat}{w w':World}{sv kv:Value}{v:V}(h:FndB bS bK bV bR w sv kv v)(hx:Ext w w'): FndB bS bK bV bR w' sv kv v:=⟨h.sb.ext hx,h.kb.ext hx,h.vb.ext hx,h.rb.ext hx⟩
def FndJ(bS bK bV bR:Nat)(kv:Value)(k:Nat)(t:Tr)(n:Nat)(s:Tr)(w:World): Prop :=
 ∃ sv m v,FndB bS bK bV bR w sv kv v/\NatX (λj=>j=bS∨j=bV∨j=bR) w sv m/\NatX (λj=>j=bS∨j=bV∨j=bR) w kv k/\m<=k/\k<m+s.sum/\m+s.sum<=t.sum/\Tr.findT k t=((Tr.findT (k-m) s).1,m+(Tr.findT (k-m) s).2)/\n+Tr.pF (k-m) s=Tr.pF k t
def FndD(bS bK bV bR:Nat)(kv:Value)(k:Nat)(t:Tr)(n:Nat)(w:World): Prop :=
 ∃ sv,FndB bS bK bV bR w sv kv (Tr.findT k t).1/\NatX (λj=>j=bS∨j=bV∨j=bR) w sv (Tr.findT k t).2/\n=Tr.pF k t
theorem cmpN_lt: Yk a b<0↔a<b:=by
 unfold Yk;grind
theorem Qtw{bS bK bV bR:Nat}{kv:Value}{t:Tr}(hne:bS≠bK/\bS≠bV/\bK≠bV/\bS≠bR/\bV≠bR)(hb:Nb t.sum):
  ∀ n l a x r u w,TrV (λj=>j=bS∨j=bV∨j=bR) w (.node l a x r) u->FndJ bS bK bV bR kv k t n (.node l a x r) w ->
  Ret prog 183 ((#[]:Array Value).toList++[u]++(#[.pointer (some ⟨bS,0,none⟩),.pointer (some ⟨bK,0,none⟩),.pointer (some ⟨bV,0,none⟩)]:Array Value).toList) w λz w'=>∃ c,z=.int .i64 c/\GrN (λj=>j=bS∨j=bV∨j=bR) w w'/\(c<0->FndJ bS bK bV bR kv k t (n+1) l w')/\(0<c->FndJ bS bK bV bR kv k t (n+1) r w')/\(c=0->FndD bS bK bV bR kv k t (n+1) w'):=by
 obtain⟨n1,n2,n3,n4,n5⟩:=hne;rintro n l a x r u w hs ⟨sv,m,v,hB,hm,hk,e1,e2,e3,e4,e9⟩;obtain⟨bn,wn,pl,pr,sn,rfl,⟨ab,au⟩,ak,ax,hl,hr⟩:=id hs;obtain⟨ql,rfl⟩:=hl.ptr;obtain⟨qr,rfl⟩:=hr.ptr;simp only[Tr.sum]at e2 e3;refine enE func183 ntmps183 ?_;refine ρ ?_;have Z:Ext w w.drew:=(Ext.refl w).drew;have a7:=hB.ext Z;have af:=ab.ext Z;refine dr (scq 8 [5,6]) kr ?_;refine Jz (a7.sb.at (i:=0) rfl) ?_;refine Jz (af.at (i:=4) rfl) ?_;refine Jh (Jxj (hl.ext Z)) ?_;rintro ul w1 ⟨am,rfl⟩;refine⟨Ext.refl _,?_⟩;refine Jh (Ih (hm.ext Z).1 am.1 (hb.le om).len (hb.le om).len) ?_;rintro us w2 ⟨ac,an,aa⟩;refine⟨aa,?_⟩;refine ρd ?_;have a1:=Z.trans aa;have ai:=hB.ext a1;refine ldR (ai.kb.at (i:=0) rfl) ?_;refine clR (Gk (hk.ext a1).1 ac) ?_;rintro u w3 ⟨rfl,a5⟩;have o:=a1.trans a5;have ah:=ai.ext a5;have ae:∀ j,(j=bS∨j=bV∨j=bR)->j<w.drew.heap.size:=λj J=>J.elim (λe=>by rw[e];exact a7.sb.lt) (λe=>e.elim (λe=>by rw[e];exact a7.vb.lt) (λe=>by rw[e];exact a7.rb.lt))
 have a2:NatX (λj=>j=bS∨j=bV∨j=bR) w3 us (m+l.sum):=an.x (ac.ext a5) ae;refine ciR (λhc=>?_) (λhc=>?_)
 .have hc:k<m+l.sum:=cmpN_lt.1 (oT hc);refine ρ ?_;refine Jj ⟨-1,rfl,GrN.ext o,λ_=>⟨sv,m,v,ah,hm.ext o,hk.ext o,e1,hc,om,?_,?_⟩,λh=>om,λh=>om⟩
  .rw[e4,Tr.findT,if_pos om]
  rw[<-e9,Tr.pF,if_pos om];omega
 have hc:¬ k<m+l.sum:=λh=>oF hc (cmpN_lt.2 h);refine ldR ((ab.ext o).at (i:=3) rfl) ?_;refine clR (Ih a2.1 (ak.ext o).1 (hb.le om).len (hb.le om).len) ?_;rintro ua w4 ⟨ad,ao,a4⟩;have ag:=ah.ext a4;refine ldR (ag.kb.at (i:=0) rfl) ?_;refine clR (Gk ((hk.ext o).ext a4).1 ad) ?_;rintro u w5 ⟨rfl,a3⟩;have O:=(o.trans a4).trans a3;have G:=ag.ext a3;have a8:NatX (λj=>j=bS∨j=bV∨j=bR) w5 ua (m+l.sum+x):=ao.x (ad.ext a3) λj J=>nM (ae j J) (aa.trans a5).size;obtain⟨A1,c1,ea,_⟩:=id a8.1;obtain⟨A2,c2,es,_⟩:=id a2.1;have oa:ua.oneCell'=true:=by rw[ea];rfl
 have os:us.oneCell'=true:=by rw[es];rfl
 refine ciR (λU=>?_) (λU=>?_)
 .have U:m+l.sum+x<=k:=by
   have:=oT U;rcases Nat.lt_or_ge k (m+l.sum+x) with h|h
   .have:=cmpN_lt.2 h;omega
   exact h
  refine ρ ?_;refine Ky G.sb ?_ oa;intro w6 ar D aj;refine ρ ?_;have C:GrN (λj=>j=bS∨j=bV∨j=bR) w5 w6:=GrN.by D λj J=>.inl (by injection J with J;exact J.symm)
  refine Jj ⟨1,rfl,(GrN.ext O).trans C,λh=>om,λ_=>⟨ua,m+l.sum+x,v,⟨ar,G.kb.grown D (by simpa using n1.symm),G.vb.grown D (by simpa using n2.symm),G.rb.grown D (by simpa using n4.symm)⟩,a8.gr C,(hk.ext O).gr C,U,om,om,?_,?_⟩,λh=>om⟩
  .rw[e4,Tr.findT,if_neg om,if_pos om,show k-m-(l.sum+x)=k-(m+l.sum+x) by omega];simp only[Prod.mk.injEq,true_and];omega
  rw[<-e9,Tr.pF,if_neg om,if_pos om,show k-m-(l.sum+x)=k-(m+l.sum+x) by omega];omega
 have U:k<m+l.sum+x:=by
  rcases Nat.lt_or_ge k (m+l.sum+x) with h|h
  .exact h
  exact absurd (Int.not_lt.1 λh'=>by have:=cmpN_lt.1 h';omega) (oF U)
 have e5:Tr.findT k t=(a,m+l.sum):=by rw[e4,Tr.findT,if_neg om,if_neg om]
 refine Js (cs:=a.cells) (Blk.pre (cs:=a.cells) (ab.ext O)) ?_;refine Qb (cs':=a.cells) G.vb ?_ (V.one a);intro w6 ap D aj;refine ρ ?_;refine Ky (G.sb.grown D (by simpa using n2)) ?_ os;intro w7 aq a6 av;refine ρ ?_;have C:GrN (λj=>j=bS∨j=bV∨j=bR) w5 w6:=GrN.by D λj J=>.inr (.inl (by injection J with J;exact J.symm))
 have a9:GrN (λj=>j=bS∨j=bV∨j=bR) w6 w7:=GrN.by a6 λj J=>.inl (by injection J with J;exact J.symm)
 refine Jj ⟨0,rfl,((GrN.ext O).trans C).trans a9,λh=>om,λh=>om,λ_=>⟨us,⟨aq,(G.kb.grown D (by simpa using n3)).grown a6 (by simpa using n1.symm),?_,(G.rb.grown D (by simpa using n5.symm)).grown a6 (by simpa using n4.symm)⟩,?_,?_⟩⟩
 .rw[e5];exact ap.grown a6 (by simpa using n2.symm)
 .rw[e5];exact(((a2.ext a4).ext a3).gr C).gr a9
 rw[<-e9,Tr.pF,if_neg om,if_neg om]
theorem Qtv{kv:Value}{t:Tr}(h:TrV N w t p)(hkv:NatV w kv k)(hk:k<t.sum)(hb:Nb t.sum)(hs:t.sz<=1000000):
  Ret prog 145 [.agg #[.bool d,p],kv] w λu w'=>∃ sv,u=.tuple #[(Tr.findT k t).1.val,sv,.int .i64 (Tr.pF k t:Int),.int .i64 0]/\Tr.pF k t<=t.ht/\NatV w' sv (Tr.findT k t).2/\Ext w w':=by
 obtain⟨q,rfl⟩:=h.ptr;obtain⟨Ak,ck,ek,_⟩:=id hkv;refine enE func145 ntmps145 ?_;refine bxR ?_;intro w1 bT ac bb hT;refine bxR (cs:=[kv]) ?_ (hv:=by rw[ek];rfl);intro w2 bK a9 bd hK;refine Jv (cs:=V0.cells) Uv ?_;intro w3 bR a8 av hR;have aa:=(ac.trans a9).trans a8;have C:Ext w3 w3.drew:=(Ext.refl w3).drew;have G:=aa.trans C;have ah:=(hT.ext a9).ext a8;have ai:=hK.ext a8;refine drR (scq 6 [3,4]) ?_;refine Jz ((ai.ext C).at (i:=0) rfl) ?_;refine Jz ((ah.ext C).at (i:=1) rfl) ?_;refine Jh (Jxj (h.ext G)) ?_;rintro ut w4 ⟨ao,rfl⟩;refine⟨Ext.refl _,?_⟩;refine Jh (Gk (hkv.ext G) ao.1) ?_;rintro u w4 ⟨rfl,a7⟩;refine⟨a7,?_⟩;refine ρd ?_;have am:¬ (0<=Yk k t.sum):=Int.not_le.2 (cmpN_lt.2 hk);refine cfR (dF am) ?_;have b2:=G.trans a7;refine Jv (cs:=V0.cells) Uv ?_;intro w5 U ad ba hV;refine Jv zNat ?_;intro w6 Z ab bc hS;have lT:=hT.lt;have lK:=hK.lt
 have lR:=hR.lt;have lV:=hV.lt;have b8:=ac.size;have b7:=a9.size;have b6:=a8.size;have b5:=(C.trans a7).size;have b4:=ad.size;have b3:=ab.size;have n1:Z≠bK:=om
 have n2:Z≠U:=om
 have n3:bK≠U:=om
 have n4:Z≠bR:=om
 have n5:U≠bR:=om
 have o:Ext w3 w6:=((C.trans a7).trans ad).trans ab;have O:Ext w w6:=aa.trans o;have ay:=ah.ext o;have b1:=ai.ext o;have ax:=hV.ext ab;have hN:TrV (λk=>k=Z∨k=U∨k=bR) w6 t (.pointer q):=(h.old (N':=λk=>k=Z∨k=U∨k=bR) λk hk=>.inr (by rcases hk with rfl|rfl|rfl<;>omega)).ext O;have ar:NatX (λk=>k=Z∨k=U∨k=bR) w kv k:=NatX.old (N:=λ_=>False) ⟨hkv,λ_ _ _ _ _ h=>h⟩ λk hk=>.inr (by rcases hk with rfl|rfl|rfl<;>omega);have b9:=Tr.ht_le t;refine Qq ay ?_;refine clR (Jpg (N:=λk=>k=Z∨k=U∨k=bR) (J:=FndJ Z bK U bR kv k t) (D:=FndD Z bK U bR kv k t) hN ⟨_,0,V0,⟨hS,b1,ax,hR.ext o⟩,NatX.nil _,ar.ext O,om,om,om,by simp,by simp⟩ om ?_ ?_ (Qtw ⟨n1,n2,n3,n4,n5⟩ hb)) ?_
 .rintro n s w w' ⟨sv,m,v,a1,a2,a3,a4⟩ hx;exact⟨sv,m,v,a1.ext hx,a2.ext hx,a3.ext hx,a4⟩
 .rintro n w ⟨sv,m,v,a1,a2,a3,a4,a5,_⟩;simp only[Tr.sum]at a5;omega
 rintro z w7 ⟨⟨n,rfl,hn,sv,ak,aq,ap⟩,au⟩;subst ap;have ae:Ext w w7:=au.old O λk hk=>by rcases hk with rfl|rfl|rfl<;>omega
 refine ρ ?_;refine drN (λk=>k=bR) 10 (scq 7 [3]) kr ?_;have a6:Ext w7 w7.drew:=(Ext.refl w7).drew;have aj:=ak.ext a6;refine ρn ?_;refine Xr (cs:=(Tr.findT k t).1.cells) (λw' hg j u hu=>(Jb aj.vb hg n5).at hu) ?_;refine ρn ?_;refine nld (Jr (aj.sb.at (i:=0) rfl) n4) ?_;refine ρn ?_;refine nop ?_;refine stb (cs':=(Tr.findT k t).1.cells) (ak.rb.ext a6) ?_ (V.one _);intro w8 az ag an;refine ρ ?_;refine Ja (GrN.by ag λj hj=>by injection hj with hj;exact hj.symm) ?_;refine ρn ?_;refine ρ ?_;have af:GrN (λk=>k=Z∨k=U∨k=bR) w7.drew w8:=GrN.by ag λj hj=>.inr (.inr (by injection hj with hj;exact hj.symm))
 exact Jhx az ⟨sv,rfl,hn,((aq.ext a6).gr af).1,an w (ae.trans a6) (nL (ac.trans a9).size av)⟩
end Go.Proofs.YtgobkbeokaaplaaGreatDoor
namespace Go.Wk
open Maps
variable {d n ty:Nat}
theorem dmlk{P:Program}{al:AL}{w:World}{Q:Exit->Act->World->Prop}{ops:Array Oper}{drest:List (Nat×Oper)}{pos:String}{aft:Array Edge}{tt:TT}[hT:Tab P tt]{t k e b m:Nat}{kd:TK}{f:Lit->Option Value}{x y:Operand}{key z:Value}{kl:Lit}(K:Keyed P k)(hM:MapS P k w b m f)(hz:Qa P e=some z)(hkey:keyOf P k key=some kl)(kk:WD P n ops Q drest ((d,(f kl).getD z)::al) w)(ht:tk tt t=some kd:=by rfl)(hk:kd.desc=.map k e:=by rfl)(hx:ev al x=some (.map (some b)):=by rfl)(hy:ev al y=some key:=by rfl)(hd:Nat.blt d n=true:=by rfl):
  WD P n ops Q ((0,⟨some d,.lookup t x y false,ty,pos,aft,none⟩)::drest) al w :=
 dy (λw' j a i=>by
  have:=((hM.ext j).look K (Yv hT.ok ht hk rfl) (Jfc hz w') hkey).2;simp[execOp,i.ev hx,i.ev hy,this]) hd kk
end Go.Wk
namespace Go.Proofs.YtgobkbeokaaplaaGreatDoor
open Go.RowKit Pl Go.Wk _root_.Go.Proofs.Tryz
attribute [local irreducible] WC WL QX WD WDB WP WN WG
variable {chs l:List (Nat×List Nat)}{cs ta va:List Value}{B0 b c cv f k n:Nat}{T:Nat->Row->Nat}{A VA:Option Addr}{r x:Row}{u vch vx:Value}{w w':World}
theorem Gf(hx:Ext w w'){p:Addr}(h:w.cell? p=some u): w'.cell? p=some u:=by
 have i:p.block<w.heap.size:=by
  rcases Nat.lt_or_ge p.block w.heap.size with h1|h1
  .exact h1
  unfold World.cell? at h;rw[Array.getElem?_eq_none h1]at h;simp at h
 rw[hx.cell i];exact h
theorem KS: Maps.Keyed prog 9:=Maps.string_keyed underlying9
def FitR(r:Row): Prop:=r.length<=32/\∀ v∈r,Zl v/\v.bytes.length<=24
theorem FitR.len(h:FitR r): (idn r).length<=2880:=by have:=Qxj h.2;have:=h.1;omega
theorem FitR.pm{cs:List Nat}(h:FitR r)(hc:∀ c∈cs,c<r.length)(hl:cs.length<=32): FitR (pmR cs r) :=
 ⟨by rw[Qn];exact hl,λv i=>by
  obtain⟨c,j,rfl⟩:=List.mem_map.1 i;exact h.2 _ (getD_mem' V0 r (hc c j))⟩
theorem Ga(h:FitR r): keyOf prog 9 (.string (str (idn r)))=some (.string (idn r)) :=
 WideMaps.keyOf_string_mk underlying9 (by have:=h.len;show(idn r).toArray.size<=maxLen;rw[List.size_toArray];unfold maxLen;omega)
def ChG(w:World)(cs:List Value)(p:Nat×List Nat): Prop:=∃ A c,cs=[.int .i64 (p.1:Int),.slice A p.2.length c]/\p.2.length<=c/\p.2.length<=32/\Rd w 1 A p.2.length (Je (nz p.2))
theorem ChG.ext{w w':World}{cs:List Value}{p:Nat×List Nat}(h:ChG w cs p)(hx:Ext w w'): ChG w' cs p:=by
 obtain⟨A,c,u,o,j,i⟩:=h;exact⟨A,c,u,o,j,i.ext hx⟩
def DnV(AR:Nat->Prop)(T:Row->Nat)(w:World)(x:Value): Prop:=∃ mb m fm,x=.map (some mb)/\m<=1000000/\(MapS prog 9 w mb m fm/\¬ AR mb)/\(∀ k:Row,fm (.string (idn k))=if 0<T k then some (.bool true) else none)/\∀ kl,fm kl≠none->∃ k:Row,kl=.string (idn k)
def DnT(AR:Nat->Prop)(T:Row->Nat)(w:World)(x:Value): Prop:=∃ mb m fm,x=.map (some mb)/\m<=1000000/\(MapS prog 9 w mb m fm/\¬ AR mb)/\∀ k:Row,(fm (.string (idn k))=none/\T k=0)∨∃ y,fm (.string (idn k))=some y/\0<T k/\NatX AR w y (T k)
theorem DnV.gr{AR:Nat->Prop}{T:Row->Nat}{w w':World}{x:Value}(h:DnV AR T w x)(hg:GrN AR w w'): DnV AR T w' x:=by
 obtain⟨j,m,fm,D,C,⟨u,i⟩,o⟩:=h;exact⟨j,m,fm,D,C,⟨u.gr hg i,i⟩,o⟩
theorem DnT.gr{AR:Nat->Prop}{T:Row->Nat}{w w':World}{x:Value}(h:DnT AR T w x)(hg:GrN AR w w'): DnT AR T w' x:=by
 obtain⟨j,m,fm,D,C,⟨u,i⟩,o⟩:=h;refine⟨j,m,fm,D,C,⟨u.gr hg i,i⟩,λk=>?_⟩;rcases o k with h6|⟨y,h6,h7,h8⟩
 .exact .inl h6
 exact .inr ⟨y,h6,h7,h8.gr hg⟩
def wtL(T:Nat->Row->Nat)(x:Row): List (Nat×List Nat)->Nat
 | []=>1
 | p::l=>T p.1 (pmR p.2 x)*wtL T x l
theorem Jkl(T:Nat->Row->Nat)(x:Row): ∀ l m,wtL T x (l++m)=wtL T x l*wtL T x m
 | [],m=>by rw[List.nil_append,wtL,Nat.one_mul]
 | p::l,m=>by rw[List.cons_append,wtL,wtL,Jkl T x l m,Nat.mul_assoc]
theorem Qys{p:Nat×List Nat}(hp:p∈l)(h0:T p.1 (pmR p.2 x)=0): wtL T x l=0:=by
 obtain⟨a,b,rfl⟩:=List.append_of_mem hp;rw[Jkl,wtL,h0,Nat.zero_mul,Nat.mul_zero]
theorem Jcv{T:Nat->Row->Nat}{x:Row}: ∀ {l:List (Nat×List Nat)},(∀ p∈l,T p.1 (pmR p.2 x)<=4294967296^20)->wtL T x l<=(4294967296^20)^l.length
 | [],_=>by simp[wtL]
 | p::l,h=>by
  rw[wtL,List.length_cons,Nat.pow_succ,Nat.mul_comm];exact Nat.mul_le_mul (Jcv λq hq=>h q (List.mem_cons_of_mem _ hq)) (h p mC)
theorem Nb.pow(h:n<=(4294967296^20)^k)(hk:k<=32): Nb n:=by
 refine Nat.lt_of_le_of_lt h ?_;rw[<-Nat.pow_mul];exact Nat.pow_lt_pow_right (by decide) (by rw[Jmf];omega)
theorem Qyp: Qa prog 271=some (.agg #[.int .i64 0,.slice none 0 0]):=kr
theorem Qms{a:Int}: ∀ u∈[Value.int .i64 a,.slice A n c],u.oneCell'=true:=λu i=>by
 simp only[List.mem_cons,List.not_mem_nil,or_false]at i;rcases i with rfl|rfl<;>rfl
theorem Jbf(n:Nat)(h:n<18446744073709551616)(w:World): Ret prog 28 [.int .u64 (n:Int)] w λv w'=>NatV w' v n/\Fresh w v/\Ext w w':=by
 refine enE func28 ntmps28 ?_;refine ρ ?_;refine Yo rfl rfl (by decide) rfl ?_;refine Qk (bsN _ _) ?_;intro u b j C i;rw[Gj,Jpp]at i;have o:Rd u 1 (some ⟨b,0,none⟩) 2 (Nc [UInt32.ofNat n,UInt32.ofNat (n / 4294967296)]):=i.rd rfl;refine clR (Jjl (l:=[UInt32.ofNat n,UInt32.ofNat (n / 4294967296)]) (c:=2) o (nR _) (by simp)) ?_;rintro v D ⟨rfl,rfl⟩;have:=Jxh o (by simp);rw[Jpj n h]at this ⊢;refine ρ ?_;exact Jj ⟨this,λG _ _ e=>by grind,j⟩
theorem Jpb{AR:Nat->Prop}{TA:Option Addr}{ct:Nat}(hTB:TB B0 w)(hB:Blk w b 159 cs)(c1:cs[1]?=some (.int .i64 (f:Int)))(c7:cs[7]?=some (.slice VA n cv))(c8:cs[8]?=some (.slice TA n ct))(hV:Rd w 1 VA n va)(hTa:Rd w 1 TA n ta)(hch:GV 2 ChG w vch chs)(hlen:chs.length<=32)(hn:∀ p∈chs,p.1<n/\∀ c∈p.2,c<x.length)(hx:RowV w vx x)(hfit:FitR x)(hdv:∀ p∈chs,f<=p.1->DnV AR (T p.1) w (va.getD p.1 (.map none)))(hdt:∀ p∈chs,p.1<f->DnT AR (T p.1) w (ta.getD p.1 (.map none)))(hT1:∀ p∈chs,f<=p.1->∀ k,T p.1 k<=1)(hTb:∀ p∈chs,∀ k,T p.1 k<=4294967296^20):
  Ret prog 128 [.pointer (some ⟨b,0,none⟩),vch,vx] w λu w'=>NatV w' u (wtL T x chs)/\Fresh w u/\Ext w w':=by
 obtain⟨A,c,cc,rfl,bf,be,b4,b3⟩:=hch.parts;refine enE func128 ntmps128 ?_;refine clR (Jbf 1 (by decide) _) ?_;rintro vp w1 ⟨ar,b2,ap⟩;refine ρ ?_;refine Jo (fun (i:Nat) (vp:Value)=>[(0,.pointer (some ⟨b,0,none⟩)),(2,vx),(7,vp),(12,.slice A chs.length c),(13,.int .i64 (chs.length:Int)),(14,.int .i64 (i:Int))])
  (λi vp w'=>i<=chs.length/\Ext w w'/\NatV w' vp (wtL T x (chs.take i))/\Fresh w vp) (λi _=>chs.length-i) 0 vp sB
  ⟨Nat.zero_le _,ap,by rw[List.take_zero];exact ar,b2⟩ ?_
 rintro i vp w2 ⟨hi,aa,a4,ai⟩;refine ciR (λh=>?_) (λh=>?_)
 .have li:i<chs.length:=by have:=oT h;omega
  clear h;obtain⟨ce,bd,⟨CA,cC,rfl,b5,a8,ak⟩,ae⟩:=b3 i li;have G:chs[i]∈chs:=List.getElem_mem li;have ac:wtL T x (chs.take (i+1))=wtL T x (chs.take i)*T chs[i].1 (pmR chs[i].2 x):=by
   rw[List.take_succ_eq_append_getElem li,Jkl,wtL,wtL,Nat.mul_one]
  have av:wtL T x (chs.take i)<=(4294967296^20)^i:=by
   have:=Jcv (T:=T) (x:=x) (l:=chs.take i) λp hp=>hTb p (List.mem_of_mem_take hp) _;grind
  have au:Nb (wtL T x (chs.take i)):=Nb.pow av om;have aj:Nb (T chs[i].1 (pmR chs[i].2 x)):=Nb.pow (k:=1) (by grind) om;generalize hq:chs[i]=q at *
  obtain⟨ch,C⟩:=q;simp only at b5 a8 ak ae ac aj;have a2:=hn _ G;simp only at a2;refine Qp 2 i (b4.ext aa) li ?_;refine ρ ?_;have a5:∀ j u,([.int .i64 (ch:Int),.slice CA C.length cC]:List Value)[j]?=some u->w2.cell? ((adr A (i*2)).add j)=some u:=by grind [Gf]
  refine lds (cs:=[.int .i64 (ch:Int),.slice CA C.length cC]) a5 ?_;refine Jv Qyp ?_;intro w3 bc ao b6 b8;refine Xn b8 ?_;intro w4 J bb an;have Z:Ext w2 w4:=an w2 ao b6;have a1:=aa.trans Z;refine ldR (J.at (i:=1) rfl) ?_;refine clR (Jts (cs:=C) (hx.ext a1) (ak.ext a1) a2.2 om) ?_;rintro vk w5 ⟨ay,U⟩;have a7:=a1.trans U;have a3:FitR (pmR C x):=hfit.pm a2.2 a8;obtain⟨KA,kc,rfl,ba,b9,ax⟩:=id ay;refine clR (Jzn (r:=pmR C x) (hTB.ext a7) ax (λv hv=>(a3.2 v hv).1) (by have:=a3.len;omega) (by have:=a3.1;omega)) ?_;rintro u w6 ⟨rfl,O⟩;have a6:=a7.trans O;have a9:Ext w6 w6.drew:=(Ext.refl w6).drew;have am:=((J.ext U).ext O).ext a9;have b7:=hB.ext (a6.trans a9);refine drR (scq 8 []) ?_;refine Jz (am.at (i:=0) rfl) ?_;refine Jz (b7.at (i:=1) c1) ?_;refine ρd ?_;refine ρ ?_;have D:Ext w6 w6.drew.drew:=a9.drew;have o:=a6.trans D;refine ci (λh=>?_) (λh=>?_)
  .have lf:ch<f:=by have:=oT h;omega
   obtain⟨mb,m,fm,e1,e2,⟨e3,e4⟩,e5⟩:=hdt _ G lf;simp only at e1 e5;have ab:ta[ch]?=some (.map (some mb)):=by grind
   refine drR (scq 13 [11]) ?_;refine Jz ((hB.ext o).at (i:=8) c8) ?_;refine Jz ((((J.ext U).ext O).ext D).at (i:=0) rfl) ?_;refine Jc ch (hTa.ext o) a2.1 ?_;refine Jz ((hTa.ext o).cell ab) ?_;refine ρd ?_;refine dmlk KS (e3.ext o) zNat (Ga a3) ?_;have ag:NatV w6.drew.drew ((fm (.string (idn (pmR C x)))).getD (.slice none 0 0)) (T ch (pmR C x)):=by
    rcases e5 (pmR C x) with⟨h6,h7⟩|⟨y,h6,h7,h8⟩
    .rw[h6,h7];exact NatV.nil _
    rw[h6];exact h8.1.ext o
   refine Jh (Jzh (a4.ext ((Z.trans U).trans O |>.trans D)) ag au.len aj.len) ?_;rintro vr w7 ⟨aq,ah,af⟩;refine⟨af,?_⟩;refine ρd ?_;refine ρ ?_;refine Jl (i+1) vr sO ⟨li,o.trans af,?_,λad m c e=>nL o.size (ah ad m c e)⟩ om;rw[ac];exact aq
  have lf:f<=ch:=by have:=oF h;omega
  obtain⟨mb,m,fm,e1,e2,⟨e3,e4⟩,e5,e6⟩:=hdv _ G lf;simp only at e1 e5;have ab:va[ch]?=some (.map (some mb)):=by grind
  refine drR (scq 11 []) ?_;refine Jz ((hB.ext o).at (i:=7) c7) ?_;refine Jz ((((J.ext U).ext O).ext D).at (i:=0) rfl) ?_;refine Jc ch (hV.ext o) a2.1 ?_;refine Jz ((hV.ext o).cell ab) ?_;refine ρd ?_;refine dmlk KS (e3.ext o) Jnb (Ga a3) ?_;rw[e5];by_cases h0:0<T ch (pmR C x)
  .rw[if_pos h0];have h1:=hT1 _ G lf (pmR C x);simp only at h1;refine ρd ?_;refine ρ ?_;refine Jl (i+1) vp sO ⟨li,o,?_,ai⟩ om;rw[ac,show T ch (pmR C x)=1 by omega,Nat.mul_one];exact a4.ext ((Z.trans U).trans O |>.trans D)
  rw[if_neg h0];refine ρd ?_;refine ρ ?_;have b1:Fresh w (.slice none 0 0):=λad m c e=>by cases e
  refine Jj ⟨?_,b1,o⟩;grind [Qys,pmR,NatV.nil]
 have az:i=chs.length:=by grind
 rw[az,List.take_length]at a4;refine ρ ?_;exact Jj ⟨a4,ai,aa⟩
open Go.RowKit Pl Go.Wk _root_.Go.Proofs.Tryz
def chK(kf:Nat->Nat)(pf:Nat->Int)(v k:Nat): List (Nat×List Nat):=((List.range k).filter λc=>decide (pf c=(v:Int))).map λc=>(c,Xj (bk (kf v ||| 2^v) 32) (kf c))
theorem Jcc(kf:Nat->Nat)(pf:Nat->Int)(v k:Nat): chK kf pf v (k+1)=chK kf pf v k++if pf k=(v:Int) then[(k,Xj (bk (kf v ||| 2^v) 32) (kf k))] else[]:=by
 unfold chK;rw[List.range_succ,List.filter_append,List.map_append];grind
theorem Jkb(kf:Nat->Nat)(pf:Nat->Int)(v k:Nat): (chK kf pf v k).length<=k:=by grind [chK,List.length_map,List.length_filter_le,List.range,List.length_range]
theorem Jlm(vars:List Nat)(s:Nat): (Xj vars s).length<=vars.length:=by
 have:=List.length_filter_le (λi=>s.testBit (vars.getD i 0)) (List.range vars.length);rw[List.length_range]at this;exact this
theorem EC: ElT prog 214 271 2 32 (.agg #[.int .i64 0,.slice none 0 0]):=⟨underlying214,info_parts kr,rfl,by decide⟩
theorem Xkc(z:Int)(v:Value)(A:Option Addr)(n c:Nat)(h:v=.slice A n c)(w:World): (Instr.build 271 #[(0,.int .i64 z),(1,v)]).run prog w=.ok (.agg [.int .i64 z,v].toArray) w:=by subst h;kernel_rfl
theorem Xxv(z:Int)(v:Value)(A:Option Addr)(n c:Nat)(h:v=.slice A n c)(w:World): (Instr.buildSlice 214 1 #[(0,.agg [.int .i64 z,v].toArray)]).run prog w=.ok (.slice (some ⟨w.heap.size,0,none⟩) 1 1) (w.alloc (.cells [.int .i64 z,v].toArray 271)):=by subst h;kernel_rfl
theorem Qkt{w:World}{b n v cb:Nat}{cs:List Value}{BA:Option Addr}{vR:Value}{kf:Nat->Nat}{pf:Nat->Int}{R:Nat->List Row}(hB:Blk w b 159 cs)(c5:cs[5]?=some (.slice BA n cb))(c6:cs[6]?=some vR)(hBags:Rd w 3 BA n (Qo n (Qr kf pf)))(hR:GV 3 AtG w vR ((List.range n).map λv=>Yd (kf v ||| 2^v) (R v)))(hn:n<=32)(hv:v<n)(hk:∀ v,v<n->kf v<4294967296):
  Ret prog 125 [.pointer (some ⟨b,0,none⟩),.int .i64 (v:Int)] w λu w'=>OwnG 271 2 ChG w' w.heap.size u (chK kf pf v n)/\Ext w w':=by
 obtain⟨RA,rc,am,rfl,ac,ab,a7,ah⟩:=hR.parts;rw[List.length_map,List.length_range]at c6 ac ab a7;obtain⟨re,ak,⟨t,rfl,a8⟩,O⟩:=ah v (by simpa using hv);simp only[List.getElem_map,List.getElem_range]at a8;obtain⟨⟨PA,pc,a9,ao,an,ad⟩,az,aa⟩:=id a8;obtain⟨t1,t2,t3⟩:=t;simp only[Yd]at a9;subst a9;have a4:(nz (bk (kf v ||| 2^v) 32)).length=(bk (kf v ||| 2^v) 32).length:=Qf _;refine enE func125 ntmps125 ?_;refine ldR (hB.at (i:=5) c5) ?_;refine ρ ?_;refine Jo (fun (k:Nat) (vl:Value)=>[(0,.pointer (some ⟨b,0,none⟩)),(1,.int .i64 (v:Int)),(5,vl),(11,.int .i64 (n:Int)),(12,.int .i64 (k:Int))])
  (λk vl w'=>k<=n/\Ext w w'/\OwnG 271 2 ChG w' w.heap.size vl (chK kf pf v k)) (λk _=>n-k) 0 (.slice none 0 0) sB
  ⟨Nat.zero_le _,Ext.refl _,OwnG.nil _ _⟩ ?_
 rintro k vl w1 ⟨ar,C,U⟩;refine ciR (λh=>?_) (λh=>?_)
 .have lk:k<n:=by have:=oT h;omega
  clear h;have aj:=hB.ext C;have G:∀ {w'} (hx:Ext w w') j u,(Qr kf pf k)[j]?=some u->w'.cell? ((adr BA (k*3)).add j)=some u:=λhx j u hu=>by
   have hj:j<3:=by grind [Nat.lt_or_ge,List.getElem?_eq_none,Qr]
   rw[Xe];exact(hBags.ext hx).cell ((Jqr (sz:=3) (λ_ _=>rfl) lk hj).trans hu)
  refine ldR (aj.at (i:=5) c5) ?_;refine Qp 3 k (hBags.ext C) lk ?_;refine ldR (G C 2 _ rfl) ?_;refine ciR (λh=>?_) (λh=>?_)
  .have hp:pf k=(v:Int):=Zx h;have Z:Ext w1 w1.drew:=(Ext.refl w1).drew;have o:=C.trans Z;have ay:=hB.ext o;obtain⟨LA,lc,b1,aq,a2⟩:=U.form;refine ρ ?_;refine drN (λk=>w.heap.size<=k) 10 (scq 23 [18,20,21]) kr ?_;have au:¬ w.heap.size<=b:=by have:=hB.lt;omega
   have D:∀ {p:Addr} {u:Value},w.cell? p=some u->∀ w',GrN (λk=>w.heap.size<=k) w1.drew w'->w'.cell? p=some u:=fun {p u} h w' hg=>
    Gf ((hg.old o λk hk=>hk)) h
   refine ρn ?_;refine nld (D (hB.at (i:=6) c6)) ?_;refine ρn ?_;refine Yp 3 v (a7.ext o) hv ?_;refine ρn ?_;refine nld (D (O 0 _ rfl)) ?_;refine ρn ?_;refine nld (D (hB.at (i:=5) c5)) ?_;refine ρn ?_;refine Yp 3 k (hBags.ext o) lk ?_;refine ρn ?_;refine nld (D (G (Ext.refl w) 1 _ rfl)) ?_;refine ρn ?_;refine nop ?_;rw[a4];refine cl (Qzw (vars:=bk (kf v ||| 2^v) 32) (a4 ▸ ad.ext o) (hk k lk) (λu hu=>(bk_mem.1 hu).1) (Ya _ _)) ?_;rintro uc w2 ⟨a6,a3⟩;refine ρ ?_;refine Ja (GrN.ext a3) ?_;obtain⟨CA,cc,rfl,ag,af⟩:=Jy a6;refine ρn ?_;refine Jqf (Xkc _ _ CA _ cc rfl) ?_;refine ρn ?_;refine nop ?_;refine bsl (Xxv _ _ CA _ cc rfl) ?_;intro w3 b3 a1 av ai;refine ρ ?_;refine Ja (GrN.ext a1) ?_;refine ρn ?_;refine nop ?_;have J:Ext w1 w3:=(Z.trans a3).trans a1;have hΦ:Off (Xx w.heap.size vl) w3 (λu=>ChG u [.int .i64 (k:Int),.slice CA (Xj (bk (kf v ||| 2^v) 32) (kf k)).length cc] (k,Xj (bk (kf v ||| 2^v) 32) (kf k))):=by
    have h1:=Jxt (Jk a6 a1) (N:=Xx w.heap.size vl) λg eg hN=>by
     have:=(af g eg).1;rcases hN with h'|h'
     .have:=o.size;omega
     have:=(a2 g h').2;have:=Z.size;omega
    refine h1.imp λu h=>⟨CA,cc,rfl,ag,?_,Rd.own h⟩;grind [Nat.le_trans,Jlm,bk,kf,Ya]
   refine apG EC (Φ:=ChG) (U.ext J) ai rfl Qms hΦ (by grind [Jkb,kf]) om (C.trans J).size ?_;intro v4 w4 ax a5 ap;refine ρ ?_;refine Ja (GrN.by a5 λg eg=>(a2 g eg).1) ?_;refine ρn ?_;refine ρ ?_;refine Jl (k+1) v4 sO ⟨lk,Qg (C.trans J) a5 (λg eg=>(a2 g eg).1),?_⟩ om;grind [Jcc]
  have hp:pf k≠(v:Int):=Xu h;refine ρ ?_;refine Jl (k+1) vl sO ⟨lk,C,?_⟩ om;grind [Jcc]
 have ae:k=n:=by grind
 rw[ae]at U;refine ρ ?_;exact Jj ⟨U,C⟩
open Go.RowKit Pl Go.Wk
variable {cols:List Nat}{rows:List Row}{cs ta va:List Value}{b cv n:Nat}{pf:Nat->Int}{BA VA:Option Addr}{k:Row}{W:Row->Nat}{w w' wF:World}
structure FixW(B0 n f:Nat)(kf:Nat->Nat)(pf:Nat->Int)(R:Nat->List Row)(vR:Value)(BA:Option Addr)(wF:World): Prop where
 tb:TB B0 wF
 bags:Rd wF 3 BA n (Qo n (Qr kf pf))
 rels:GV 3 AtG wF vR ((List.range n).map λv=>Yd (kf v ||| 2^v) (R v))
 n32:n<=32
 fn:f<=n
 kb:∀ v,v<n->kf v<4294967296
 pn:∀ c,c<n->pf c≠(c:Int)
 rows:∀ v,v<n->∀ x∈R v,x.length=(bk (kf v ||| 2^v) 32).length/\FitR x
 rlen:∀ v,v<n->(R v).length<=65536
def bCs(n f:Nat)(Dv Pv Av:Value)(BA:Option Addr)(cb:Nat)(vR:Value)(VA:Option Addr)(cv:Nat)(TA:Option Addr)(ct:Nat)(Kv:Value): List Value :=
 [.int .i64 (n:Int),.int .i64 (f:Int),Dv,Pv,Av,.slice BA n cb,vR,.slice VA n cv,.slice TA n ct,Kv]
def ARk(n f:Nat)(VA:Option Addr)(cv:Nat)(TA:Option Addr)(ct:Nat)(Kv:Value)(k:Nat): Prop:=(Value.slice VA n cv).ownBlock=some k∨(Value.slice TA n ct).ownBlock=some k∨Kv.ownBlock=some k
structure BldW(wF:World)(b n:Nat)(cs:List Value)(VA:Option Addr)(cv:Nat)(TA:Option Addr)(ct:Nat)(w:World)(va ta:List Value): Prop where
 ext:Ext wF w
 blk:Blk w b 159 cs
 va:w.ownsRow wF.heap.size 213 1 (.slice VA n cv) n va
 ta:w.ownsRow wF.heap.size 221 1 (.slice TA n ct) n ta
theorem BldW.ext'{TA:Option Addr}{ct:Nat}(h:BldW wF b n cs VA cv TA ct w va ta)(hx:Ext w w'): BldW wF b n cs VA cv TA ct w' va ta :=
 ⟨h.ext.trans hx,h.blk.ext hx,Jk h.va hx,Jk h.ta hx⟩
def Zp(kf:Nat->Nat)(v:Nat): List Nat:=Xj (bk (kf v ||| 2^v) 32) (kf v)
open Classical in
noncomputable def Uf (rows:List Row) (cols:List Nat) (W:Row->Nat) (k:Row):Nat:=if ∃ x∈rows,0<W x/\pmR cols x=k then 1 else 0
theorem redT_pos: 0<Uf rows cols W k↔∃ x∈rows,0<W x/\pmR cols x=k:=by
 unfold Uf;split
 repeat grind
theorem Jsz: Uf rows cols W k<=1:=by
 unfold Uf;split<;>omega
theorem Jmj{a:Atm}(h:AtG w cs a)(hx:Ext w w'): AtG w' cs a:=by
 obtain⟨t,e,i⟩:=h;exact⟨t,e,i.ext hx⟩
theorem Jqg{kf:Nat->Nat}{v:Nat}{p:Nat×List Nat}(h:p∈chK kf pf v n): p.1<n/\pf p.1=(v:Int)/\p.2=Xj (bk (kf v ||| 2^v) 32) (kf p.1):=by
 obtain⟨c,i,rfl⟩:=List.mem_map.1 h;grind
theorem Jgv{v:Value}(h:NatV w v n): ∃ A c,v=.slice A (Jq n).length c/\(0<(Jq n).length↔0<n):=by
 obtain⟨A,c,e,_⟩:=h;grind [Nat.pos_of_ne_zero,Qqj,limbs_pos']
theorem Qhf{B0 f v cb ct:Nat}{kf:Nat->Nat}{R:Nat->List Row}{vR Dv Pv Av Kv:Value}{TA:Option Addr}{T:Nat->Row->Nat}{AR:Nat->Prop}(hF:FixW B0 n f kf pf R vR BA wF)(hW:BldW wF b n (bCs n f Dv Pv Av BA cb vR VA cv TA ct Kv) VA cv TA ct w va ta)(hv:v<n)(hdv:∀ c,c<n->pf c=(v:Int)->f<=c->DnV AR (T c) w (va.getD c (.map none)))(hdt:∀ c,c<n->pf c=(v:Int)->c<f->DnT AR (T c) w (ta.getD c (.map none)))(hT1:∀ c,f<=c->∀ k,T c k<=1)(hTb:∀ c k,T c k<=4294967296^20)(hAR:∀ k,ARk n f VA cv TA ct Kv k->AR k)(hARl:∀ k,AR k->k<w.heap.size):
  Ret Tryz.prog 75 [.pointer (some ⟨b,0,none⟩),.int .i64 (v:Int)] w λu w'=>u=.tuple #[]/\∃ mv,BldW wF b n (bCs n f Dv Pv Av BA cb vR VA cv TA ct Kv) VA cv TA ct w' (va.set v mv) ta/\GrN (λk=>(Value.slice VA n cv).ownBlock=some k) w w' /\
   DnV AR (Uf (R v) (Zp kf v) λx=>wtL T x (chK kf pf v n)) w' mv:=by
 obtain⟨bi,hB,a7,c1⟩:=hW;have bo:=hF.n32;refine enE Tryz.func75 Tryz.ntmps75 ?_;refine ldR (hB.at (i:=7) rfl) ?_;refine ρ ?_;refine mkm 9 ?_;intro w1 O J cm hM;obtain⟨s1,s2,s3,s4,s5⟩:=Zn (Jk a7 J) (q:=v) om (.map (some O));have da:va.length=n:=by have:=a7.1;omega
 refine ixR v (Rd.own (Jk a7 J)) om ?_;refine Xv (s1.trans (show va[v]?=some (va.getD v (.map none)) by simp[List.getD,List.getElem?_eq_getElem (show v<va.length by omega)])) s2 ?_;refine ρ ?_;obtain⟨w2,bj⟩:∃ w2,w2=w1.setCell (adr VA v) (.map (some O)):=⟨_,rfl⟩;rw[<-bj]at s3 s5 ⊢;clear bj;have ai:∀ g,(Value.slice VA n cv).ownBlock=some g->wF.heap.size<=g/\g<w.heap.size:=(Jy a7).choose_spec.choose_spec.2.2;have bf:∀ g,(Value.slice TA n ct).ownBlock=some g->wF.heap.size<=g/\g<w.heap.size:=(Jy c1).choose_spec.choose_spec.2.2;have d3:=J.size;have d6:=hM.lt;have ah:Blk w2 b 159 _:=(hB.ext J).grown s5 ((hB.ext J).ne_own (Jk a7 J) rfl);have ax:w2.ownsRow wF.heap.size 221 1 (.slice TA n ct) n ta:=Zg (Jk c1 J) (Jk a7 J) s5 rfl;have c4:MapS Tryz.prog 9 w2 O 0 (λ_=>none):=hM.kept s5 (λe=>by have:=(ai O e.symm).2;omega);have bu:GrN AR w w2:=(GrN.ext J).trans (GrN.by s5 λk C=>hAR k (.inl C))
 have a2:Ext wF w2:=Qg (bi.trans J) s5 λk C=>(ai k C).1;have bq:wF.heap.size<=O:=nL bi.size cm;have au:=c4.lt;obtain⟨RA,rc,d9,c6,ch,cg,bb,cw⟩:=hF.rels.parts;rw[List.length_map,List.length_range]at c6 ch cg bb;obtain⟨re,d4,⟨t,d2,bd⟩,a4⟩:=cw v (by simpa using hv);subst d2;simp only[List.getElem_map,List.getElem_range]at bd;obtain⟨⟨PA,pc,c8,dc,db,cj⟩,c7,c9⟩:=id bd;obtain⟨t1,t2,t3⟩:=t;simp only[Yd]at c8 c7;subst c8;subst c7;have bn:(nz (bk (kf v ||| 2^v) 32)).length=(bk (kf v ||| 2^v) 32).length:=Qf _;have ap:∀ j u,(Qr kf pf v)[j]?=some u->wF.cell? ((adr BA (v*3)).add j)=some u:=λj u hu=>by
  have hj:j<3:=by
   rcases Nat.lt_or_ge j 3 with h'|h'
   .exact h'
   rw[List.getElem?_eq_none (by simp[Qr];omega)]at hu;cases hu
  rw[Xe];exact hF.bags.cell ((Jqr (sz:=3) (λ_ _=>rfl) hv hj).trans hu)
 subst c6;have aj:Ext w2 w2.drew:=(Ext.refl w2).drew;have D:=a2.trans aj;have bc:=ah.ext aj;refine dr [(0,0),(0,1),(0,3),(0,4),(0,5),(0,6),(0,7),(0,8),(0,9),(0,10),(0,11),(0,12),(0,13),(0,14),(0,15),(0,16),(0,17),(0,18),(1,2),(1,19),(0,20),(0,21)] kr ?_;refine Jz (bc.at (i:=6) rfl) ?_;refine Kt 3 v (bb.ext D) hv ?_;refine Jz (Gf D (a4 0 _ rfl)) ?_;refine Jz (bc.at (i:=5) rfl) ?_;refine Kt 3 v (hF.bags.ext D) hv ?_;refine Jz (Gf D (ap 1 _ rfl)) ?_;refine Jh (Qkt (R:=R) bc rfl rfl (hF.bags.ext D) (hF.rels.ext D λcs a h=>Jmj h D) bo hv hF.kb) ?_;rintro vl w3 ⟨cy,am⟩;refine⟨am,?_⟩;have bh:=D.trans am;refine ρd ?_;rw[bn];refine dcl (Qzw (vars:=bk (kf v ||| 2^v) 32) (bn ▸ cj.ext bh) (hF.kb v hv) (λu hu=>(bk_mem.1 hu).1) (Ya _ _)) ?_;rintro uc w4 ⟨bw,b4⟩;refine⟨b4,?_⟩;obtain⟨CA,cc,rfl,dg,cq⟩:=Jy bw;refine ρd ?_;refine ρ ?_;have a3:=(aj.trans am).trans b4
 have a9:=a2.trans a3;have d1:=ah.ext a3;have b6:∀ j u,([.int .i64 ((bk (kf v ||| 2^v) 32).length:Int),t3]:List Value)[j]?=some u->w4.cell? (((adr RA (v*3)).add 1).add j)=some u:=λj u hu=>by
  have:=a4 (1+j) u (by rw[Nat.add_comm];exact hu);rw[Xe]at this;rw[Xe,Xe,Nat.add_assoc];exact Gf a9 this
 refine ld (d1.at (i:=6) rfl) ?_;refine Qp 3 v (bb.ext a9) hv ?_;refine Js (cs:=[.int .i64 ((bk (kf v ||| 2^v) 32).length:Int),t3]) b6 ?_;refine clR (Jfn (ar:=(bk (kf v ||| 2^v) 32).length) (ls:=R v) ((bd.ext a9).rel)) ?_;rintro ur w5 ⟨b3,an⟩;obtain⟨ps,GA,gc,be,rfl,df,d5,bm,b5⟩:=an;have U:(R v).length=ps.length:=by rw[be,List.length_map]
 have aa:=a3.trans b3;have bp:O<w4.heap.size:=nM au a3.size;have b7:b≠O:=λe=>by have Z:=hB.lt;omega
 refine ρ ?_;refine Zq (fun (i:Nat) (m:Nat) (fm:Lit->Option Value)=>[(0,.pointer (some ⟨b,0,none⟩)),(1,.int .i64 (v:Int)),(4,vl),(5,.slice CA (Zp kf v).length cc),(43,.slice GA ps.length gc),(44,.int .i64 (ps.length:Int)),(45,.int .i64 (i:Int))])
  (λi m fm w'=>i<=ps.length/\GrN (λk=>k=O) w5 w'/\MapS Tryz.prog 9 w' O m fm/\m<=i/\(∀ k:Row,fm (.string (idn k))=if 0<Uf ((R v).take i) (Zp kf v) (λx=>wtL T x (chK kf pf v n)) k then some (.bool true) else none)/\∀ kl,fm kl≠none->∃ k:Row,kl=.string (idn k)) (λi _ _=>ps.length-i) 0 0 (λ_=>none) sB
  ⟨Nat.zero_le _,GrN.refl _ _,c4.ext aa,Nat.le_refl _,λk=>?_,λkl h=>absurd rfl h⟩ ?_
 .rw[if_neg];intro h;obtain⟨x,hx,_⟩:=redT_pos.1 h;simp at hx
 rintro i m fm w6 ⟨hi,af,c3,dd,ao,b8⟩;refine ciR (λh=>?_) (λh=>?_)
 .have li:i<ps.length:=by have:=oT h;omega
  clear h;obtain⟨x,b1⟩:∃ x,x=(ps.getD i z0).2:=⟨_,rfl⟩;have ca:x∈R v:=by rw[be,b1];exact List.mem_map_of_mem (getD_mem' z0 ps li)
  have az:(R v).getD i []=x:=by rw[be,b1];simp[List.getD,List.getElem?_eq_getElem li]
  obtain⟨ay,a8⟩:=hF.rows v hv x ca;have o:GrN (λk=>k=O) w2 w6:=(GrN.ext aa).trans af;have a1:Ext wF w6:=o.old a2 λk C=>by rw[C];exact bq
  have d0:=Jb ah o b7;have c0:=Rd.own (Jt s3 o λg eg e=>by have:=(ai g eg).2;omega);have cr:=Rd.own (Jt ax o λg eg e=>by have:=(bf g eg).2;omega);have cx:GV 2 ChG w6 vl (chK kf pf v n):=((((cy.ext b4).ext b3).gr af λk C=>by rw[C];exact au)).gv (by have:=Jkb kf pf v n;omega);have av:GrN (λk=>k<w4.heap.size) w5 w6:=af.mono λk _ C=>by rw[C];exact bp
  have ac:RowV w6 (ps.getD i z0).1 x:=by rw[b1];exact b5 _ (getD_mem' z0 ps li) w6 av
  have aq:=bm w6 av;have a5:GrN AR w w6:=((bu.mono λk _ C=>(.inl C:AR k∨k=O)).trans (o.mono λk _ C=>.inr C)).mono λk C h=>h.elim id λe=>by omega
  have bl:∀ c,c≠v->(va.set v (.map (some O))).getD c (.map none)=va.getD c (.map none):=λc hc=>by simp[List.getD,List.getElem?_set_ne (Ne.symm hc)]
  have ck:∀ c,c<n->pf c=(v:Int)->c≠v:=λc hc hp e=>hF.pn c hc (by rw[hp,e]);refine ixR i aq li ?_;refine ldR (aq.cell (show(ps.map (·.1))[i]?=some (ps.getD i z0).1 by simp[List.getD,List.getElem?_eq_getElem li])) ?_
  refine clR (Jpb (T:=T) (AR:=AR) (hF.tb.ext a1) d0 rfl rfl rfl c0 cr cx (by have:=Jkb kf pf v n;omega) (λp hp=>?_) ac a8 (λp hp ae=>?_) (λp hp ae=>?_) (λp hp ae k=>hT1 _ ae k) (λp hp k=>hTb _ k)) ?_
  .obtain⟨Z,h2,h3⟩:=Jqg hp;refine⟨Z,λc hc=>?_⟩;rw[h3]at hc;rw[ay];exact Jzw hc
  .obtain⟨Z,h2,h3⟩:=Jqg hp;rw[bl _ (ck _ Z h2)];exact(hdv _ Z h2 ae).gr a5
  .obtain⟨Z,h2,h3⟩:=Jqg hp;exact(hdt _ Z h2 ae).gr a5
  rintro vw w7 ⟨cd,_,a6⟩;obtain⟨WA,wc,rfl,ab⟩:=Jgv cd;have c2:=c3.ext a6;have b9:=af.trans (GrN.ext a6);refine ciR (λh=>?_) (λh=>?_)
  .have ad:0<wtL T x (chK kf pf v n):=ab.1 (by have:=oT h;omega);have bs:GrN (λk=>k=O) w2 w7:=o.trans (GrN.ext a6);have bg:=a1.trans a6;have G:Ext w7 w7.drew:=(Ext.refl w7).drew;have cz:=(Jb ah bs b7).ext G;have bz:Rd w7.drew 1 VA n (va.set v (.map (some O))):=c0.ext (a6.trans G);have bv:Rd w7.drew 1 CA (Zp kf v).length (Je (nz (Zp kf v))):=Rd.own (Jk (Jt (Jk bw b3) b9 λg eg e=>by have:=(cq g eg).1;have:=am.size;have:=aj.size;omega) G);have ag:FitR (pmR (Zp kf v) x):=a8.pm (λc hc=>by rw[ay];exact Jzw hc) (nL (Jlm _ _) (Ya _ _));have ce:(va.set v (.map (some O)))[v]?=some (.map (some O)):=by rw[List.getElem?_set_self om]
   refine ρ ?_;refine drN (λ_=>False) 10 (scq 12 [9,10,111]) kr ?_;refine ρn ?_;refine nld (Jr (cz.at (i:=7) rfl) (λe=>e)) ?_;refine ρn ?_;refine nix v bz hv ?_;refine ρn ?_;refine nld (Jr (bz.cell ce) (λe=>e)) ?_;refine ρn ?_;refine nop ?_;refine cl (Jts (cs:=Zp kf v) ((ac.ext a6).ext G) bv (λc hc=>by rw[ay];exact Jzw hc) (by have:=Jlm (bk (kf v ||| 2^v) 32) (kf v);have:=Ya (kf v ||| 2^v) 32;unfold Zp;omega)) ?_;rintro uk w8 ⟨co,ak⟩;obtain⟨KA,kc,rfl,de,d7,cn⟩:=id co;refine ρ ?_;refine Ja (GrN.ext ak) ?_;refine ρn ?_;refine nop ?_;refine cl (Jzn (r:=pmR (Zp kf v) x) ((hF.tb.ext (bg.trans G)).ext ak) cn (λu hu=>(ag.2 u hu).1) (by have:=ag.len;omega) (by have:=ag.1;omega)) ?_;rintro un w9 ⟨rfl,b2⟩;refine ρ ?_;refine Ja (GrN.ext b2) ?_;refine ρn ?_;refine Xh ?_;refine mup KS (((c2.ext G).ext ak).ext b2) (by unfold maxLen;omega) (Ga ag) ?_
   intro d8 c5 bt;refine ρ ?_;refine Xq (i+1) (m+1) (upL fm (.string (idn (pmR (Zp kf v) x))) (some (.bool true))) sO ⟨li,((b9.trans (GrN.ext G)).trans ((GrN.ext ak).trans (GrN.ext b2))).trans (GrN.by bt λk C=>by injection C with C;exact C.symm),c5,om,λk=>?_,λkl br=>?_⟩ om
   .by_cases e:pmR (Zp kf v) x=k
    .rw[<-e,Kz (KS.key (Ga ag)),if_pos];refine redT_pos.2 ⟨x,?_,ad,rfl⟩;rw[Qt [] (by rw[U];exact li),az];exact List.mem_append_right _ (List.mem_singleton.2 rfl)
    rw[Ub (λe'=>e (Jbs (by injection e'.symm))),ao k];have e2:(0<Uf ((R v).take (i+1)) (Zp kf v) (λx=>wtL T x (chK kf pf v n)) k)↔(0<Uf ((R v).take i) (Zp kf v) (λx=>wtL T x (chK kf pf v n)) k):=by
     rw[redT_pos,redT_pos,Qt [] (by rw[U];exact li),az];constructor
     .rintro⟨y,hy,Z,h2⟩;rcases List.mem_append.1 hy with h3|h3
      .exact⟨y,h3,Z,h2⟩
      rw[List.mem_singleton.1 h3]at h2;exact absurd h2 e
     rintro⟨y,hy,Z,h2⟩;exact⟨y,List.mem_append_left _ hy,Z,h2⟩
    simp only[e2]
   by_cases e:kl=.string (idn (pmR (Zp kf v) x))
   .exact⟨_,e⟩
   rw[Ub e]at br;exact b8 kl br
  have ad:¬ 0<wtL T x (chK kf pf v n):=λh'=>by have:=ab.2 h';have:=oF h;omega
  refine ρ ?_;refine Xq (i+1) m fm sO ⟨li,b9,c2,om,λk=>?_,b8⟩ om;rw[ao k];have e:(0<Uf ((R v).take (i+1)) (Zp kf v) (λx=>wtL T x (chK kf pf v n)) k)↔(0<Uf ((R v).take i) (Zp kf v) (λx=>wtL T x (chK kf pf v n)) k):=by
   rw[redT_pos,redT_pos,Qt [] (by rw[U];exact li),az];constructor
   .rintro⟨y,hy,Z,h2⟩;rcases List.mem_append.1 hy with h3|h3
    .exact⟨y,h3,Z,h2⟩
    rw[List.mem_singleton.1 h3]at Z;exact absurd Z ad
   rintro⟨y,hy,Z,h2⟩;exact⟨y,List.mem_append_left _ hy,Z,h2⟩
  simp only[e]
 have cp:i=ps.length:=by have:=oF h;omega
 rw[cp,<-U,List.take_length]at ao;have o:GrN (λk=>k=O) w2 w6:=(GrN.ext aa).trans af;have a1:Ext wF w6:=o.old a2 λk C=>by rw[C];exact bq
 have ba:GrN (λk=>(Value.slice VA n cv).ownBlock=some k) w w2:=(GrN.ext J).trans (GrN.by s5 λk C=>C);have a5:GrN (λk=>(Value.slice VA n cv).ownBlock=some k) w w6:=((ba.mono λk _ C=>(.inl C:(Value.slice VA n cv).ownBlock=some k∨k=O)).trans (o.mono λk _ C=>.inr C)).mono λk C h=>h.elim id λe=>by omega
 refine ρ ?_;refine Ys ⟨rfl,.map (some O),⟨a1,Jb ah o b7,Jt s3 o λg eg e=>(by have:=(ai g eg).2;omega),Jt ax o λg eg e=>(by have:=(bf g eg).2;omega)⟩,a5,O,m,fm,rfl,by have:=hF.rlen v hv;omega,⟨c3,?_⟩,ao,b8⟩;intro h';have:=hARl O h';omega
end Go.Proofs.YtgobkbeokaaplaaGreatDoor
namespace Go.Wk
open Go.RowKit
variable {cs xs:List Value}{base c e m n q ty:Nat}{A:Option Addr}{P:Program}{w:World}
theorem Qmb{sz:Nat}(ho:w.ownsRow base e sz (.slice A m c) m xs)(hj:q+cs.length<=m*sz)(h0:0<cs.length)(h1:∀ u∈cs,u.oneCell'=true):
  ∃ w',(storeCells (adr A q) cs).run P w=.ok () w'/\w'.ownsRow base e sz (.slice A m c) m (xs.take q++cs++xs.drop (q+cs.length))/\w.grownBy w' (Value.slice A m c).ownBlock:=by
 rcases ho.2 with⟨hn,G⟩|⟨g,cap,cur,hv,hb,hg,hc,hcm,hcs,ht⟩
 .grind
 injection hv with o _ e3
 subst o;subst e3;have C:m*sz<=c*sz:=nO _ hc;have D:adr (some ⟨g,0,none⟩) q=⟨g,q,none⟩:=by simp[adr,Yf]
 rw[D];have i:=run_storeCells_at (P:=P) g q e cs 0 cur w hg om h1;simp only[Nat.add_zero]at i;refine⟨_,i,⟨?_,.inr ⟨g,c,_,rfl,hb,setRow_heap w g cur _ e (0,0) hg,hc,hcm,?_,?_⟩⟩,?_⟩
 .grind
 .grind
 .simp only;have j:(cur.toList.take q++cs).length=q+cs.length:=by grind
  rw[List.take_append,j];have o:(cur.toList.take q++cs).take (m*sz)=cur.toList.take q++cs:=List.take_of_length_le om;rw[o,<-ht,List.take_take,Nat.min_eq_left om,List.drop_take]
 exact Jqp w g (cur.toList.take q++cs++cur.toList.drop (q+cs.length)).toArray
theorem stoG{al:AL}{Q:Exit->Act->World->Prop}{ops:Array Oper}{rest:List Oper}{pos:String}{aft:Array Edge}{tt:TT}[h:Tab P tt]{x y:Operand}{t sz:Nat}{k:TK}(ho:w.ownsRow base e sz (.slice A m c) m xs)(hj:q+cs.length<=m*sz)(h0:0<cs.length)(kk:∀ w1,w1.ownsRow base e sz (.slice A m c) m (xs.take q++cs++xs.drop (q+cs.length))->w.grownBy w1 (Value.slice A m c).ownBlock->WL P n ops Q rest al w1)(h1:∀ u∈cs,u.oneCell'=true)(ht:tk tt t=some k:=by rfl)(hk:k.desc=.invalid:=by rfl)(hs:k.size=cs.length:=by rfl)(hx:ev al x=some (.pointer (some (adr A q))):=by rfl)(hy:ev al y=some (.agg cs.toArray):=by rfl):
  WL P n ops Q (⟨none,.store t x y,ty,pos,aft,none⟩::rest) al w:=by
 obtain⟨w',j,o,C⟩:=Qmb (P:=P) ho hj h0 h1;refine Jjh (λa D=>?_) (kk w' o C);have i:=Vo w (Jxl h.ok ht hk w).2;simp[execOp,D.ev hx,D.ev hy,Instr.storeAt,Instr.sureAddr,storeVar,Value.cells,i,hs,j]
end Go.Wk
namespace Go.Proofs.YtgobkbeokaaplaaGreatDoor
open Go.RowKit Pl Go.Wk
attribute [local irreducible] WC WL QX WD WDB WP WN WG
variable {d:Bool}{N:Nat->Prop}{v:Value}{w w':World}
abbrev BkT:= Row×Tr
def BkE(d:Bool)(N:Nat->Prop)(w:World)(cs:List Value)(b:BkT): Prop:=∃ kv q,cs=[kv,.bool d,q]/\RowX w N kv b.1/\TrV N w b.2 q
theorem RowX.gr{r:Row}(h:RowX w N v r)(hg:GrN N w w'): RowX w' N v r:=by
 obtain⟨A,c,C,u,o,j,i⟩:=h;exact⟨A,c,C,u,o,Vn j hg λh0 D e=>i (λG=>by grind [Jp]) D e,i⟩
theorem BkE.gr{d:Bool}{N:Nat->Prop}{w w':World}{cs:List Value}{b:BkT}(h:BkE d N w cs b)(hg:GrN N w w'): BkE d N w' cs b:=by
 obtain⟨kv,q,o,j,i⟩:=h;exact⟨kv,q,o,j.gr hg,i.gr hg⟩
theorem BkE.ext{d:Bool}{N:Nat->Prop}{w w':World}{cs:List Value}{b:BkT}(h:BkE d N w cs b)(hx:Ext w w'): BkE d N w' cs b:=h.gr (GrN.ext hx)
theorem BkE.old{d:Bool}{N N':Nat->Prop}{w:World}{cs:List Value}{b:BkT}(h:BkE d N w cs b)(hs:∀ k,N' k->N k∨w.heap.size<=k): BkE d N' w cs b:=by
 obtain⟨kv,q,o,j,i⟩:=h;exact⟨kv,q,o,j.mono λk u h=>(hs k h).elim id λC=>om,i.old hs⟩
structure OwnB(d:Bool)(base:Nat)(w:World)(v:Value)(ps:List (List Value×BkT)): Prop where
 own:w.ownsRow base 78 3 v ps.length (Ql ps)
 el:∀ p∈ps,BkE d (Xx base v) w p.1 p.2
theorem BkE.len{cs:List Value}{b:BkT}(h:BkE d N w cs b): cs.length=3:=by
 obtain⟨kv,q,rfl,_⟩:=h;rfl
theorem OwnB.nil(d:Bool)(base:Nat)(w:World): OwnB d base w (.slice none 0 0) []:=⟨Zy _ _ _ _,λp i=>by cases i⟩
theorem OwnB.form{base:Nat}{ps:List (List Value×BkT)}(h:OwnB d base w v ps): ∃ A c,v=.slice A ps.length c/\ps.length<=c/\∀ g,v.ownBlock=some g->base<=g/\g<w.heap.size:=Jy h.own
theorem OwnB.gr{d:Bool}{base:Nat}{w w':World}{v:Value}{ps:List (List Value×BkT)}(h:OwnB d base w v ps){N:Nat->Prop}(hg:GrN N w w')(hN:∀ k,N k->k<base): OwnB d base w' v ps:=by
 obtain⟨_,_,_,_,o⟩:=h.form;exact⟨Jt h.own hg (λg u hn=>by grind),λp i=>(h.el p i).gr (hg.mono λk _ j=>.inl (hN k j))⟩
theorem OwnB.ext{d:Bool}{base:Nat}{w w':World}{v:Value}{ps:List (List Value×BkT)}(h:OwnB d base w v ps)(hx:Ext w w'): OwnB d base w' v ps:=h.gr (N:=λ_=>False) (GrN.ext hx) λk e=>e.elim
theorem BkE.one{d:Bool}{N:Nat->Prop}{w:World}{cs:List Value}{b:BkT}(h:BkE d N w cs b): ∀ u∈cs,u.oneCell'=true:=by
 obtain⟨kv,q,rfl,o,j⟩:=h;obtain⟨p,rfl⟩:=j.ptr;intro u i;simp only[List.mem_cons,List.not_mem_nil,or_false]at i;rcases i with rfl|rfl|rfl
 .exact o.v.one
 .rfl
 rfl
theorem EBk: ElT Tryz.prog 72 78 3 40 (.agg #[.slice none 0 0,.bool false,.pointer none]):=⟨Tryz.underlying72,info_parts kr,rfl,by decide⟩
open Go.RowKit Pl Go.Wk
variable {d dir:Bool}{ps:List (List Value×BkT)}{bs i:List (Row×Tr)}{b base m n ty:Nat}{x:Row}{wt:Row->Nat}
theorem apB{al:AL}{w:World}{Q:Exit->Act->World->Prop}{ops:Array Oper}{rest:List Oper}{d:Nat}{pos:String}{aft:Array Edge}{x y:Operand}{v:Value}{cs:List Value}{bt:BkT}(ho:OwnB dir base w v ps)(hb:Blk w b 78 cs)(hΦ:BkE dir (Xx base v) w cs bt)(hm:ps.length<=1000000)(hbase:base<=w.heap.size)(kk:∀ v' w',OwnB dir base w' v' (ps++[(cs,bt)])->w.grownBy w' v.ownBlock->WL Tryz.prog n ops Q rest ((d,v')::al) w')(hx:ev al x=some v:=by rfl)(hy:ev al y=some (.slice (some ⟨b,0,none⟩) 1 1):=by rfl)(hd:Nat.blt d n=true:=by rfl):
  WL Tryz.prog n ops Q (⟨some d,.call { callee:=.builtin .append,args:=#[x,y],argTypes:=#[72,72] },ty,pos,aft,none⟩::rest) al w:=by
 refine apb (m':=1) (news:=cs) EBk ho.own (hb.rd (n:=1) (by rw[hΦ.len])) hΦ.one (by unfold maxLen;omega) om hbase ?_ hx hy hd;intro v' w' o u hn;refine kk v' w' ⟨?_,?_⟩ u
 .rw[List.length_append,List.length_singleton];have e:Ql (ps++[(cs,bt)])=Ql ps++cs:=by simp[Ql]
  rw[e];exact o
 have key:∀ p:List Value×BkT,BkE dir (Xx base v) w p.1 p.2->BkE dir (Xx base v') w' p.1 p.2:=λp j=>by
  have D:BkE dir (λk=>Xx base v k∨Xx base v' k) w p.1 p.2:=j.old λk i=>by
   rcases i with h|h|h
   .exact .inl h
   .exact .inl (.inl h)
   rcases hn k h with h'|h'
   .exact .inl (.inr h')
   exact .inr h'
  exact(D.gr (GrN.by u λk i=>.inl (.inr i))).old λk i=>.inl (.inr i)
 intro p C;rcases List.mem_append.1 C with j|j
 .exact key p (ho.el p j)
 rw[List.mem_singleton.1 j];exact key (cs,bt) hΦ
theorem Qts(hl:∀ p∈ps,p.1.length=3)(kv x1 x2 y1 y2:Value)(b b':BkT):
  (Ql (ps++[([kv,x1,x2],b)])).take (ps.length*3+1)++[y1,y2]++(Ql (ps++[([kv,x1,x2],b)])).drop (ps.length*3+1+2)=Ql (ps++[([kv,y1,y2],b')]):=by
 have e:∀ z:List Value×BkT,Ql (ps++[z])=Ql ps++z.1:=λz=>by simp[Ql]
 have i:=Jhv hl;grind [Ql,kv,List.take_append,List.take_of_length_le,Nat.add_sub_cancel_left,List.drop_of_length_le]
theorem Qdr(h0:wt x≠0)(h1:¬ (bs.getLast?.map (·.1))=some (x.take m)): Pl.stepG d wt m bs x=bs++[(x.take m,Tr.put d (x.getD m V0) (wt x) .nil)]:=by
 rw[Pl.stepG,if_neg h0,if_neg h1]
theorem Qds{t:Tr}(h0:wt x≠0): Pl.stepG d wt m (i++[(x.take m,t)]) x=i++[(x.take m,Tr.put d (x.getD m V0) (wt x) t)]:=by
 rw[Pl.stepG,if_neg h0,if_pos (by simp)];simp
theorem Qdq(h0:wt x=0): Pl.stepG d wt m bs x=bs:=by rw[Pl.stepG,if_pos h0]
def Vr(d:Bool)(wt:Row->Nat)(m:Nat)(rs:List Row): List BkT:=rs.foldl (Pl.stepG d wt m) []
theorem Jbt(d:Bool)(wt:Row->Nat)(m:Nat)(rs:List Row)(x:Row): Vr d wt m (rs++[x])=Pl.stepG d wt m (Vr d wt m rs) x:=by grind [Vr]
theorem Jwv{rs:List Row}(hs:Lt [] rs)(hl:∀ y∈rs,y.length=m+1): GInv d wt m rs (Vr d wt m rs):=by
 suffices h:∀ k,k<=rs.length->GInv d wt m (rs.take k) (Vr d wt m (rs.take k)) by
  have:=h rs.length (nR _);rw[List.take_length]at this;exact this
 intro k;induction k with
 | zero=>intro _;exact GInv.nil d wt m
 | succ k ih=>
  intro i;have e:=Qt [] (show k<rs.length by omega);rw[e,Jbt];refine(ih om).step ?_ ?_
  .rw[<-e];exact hs.sublist (List.take_sublist _ _)
  repeat grind
def Gq(bs:List BkT)(k:Row): Nat:=match bs.find? λb=>decide (b.1=k) with
 | some b=>b.2.sum
 | none=>0
theorem Jdj(bs:List BkT)(k:Row): Gq bs k=tot (entK bs k):=by
 unfold Gq entK;cases bs.find? λb=>decide (b.1=k) with
 | some b=>exact Tr.sum_eq _
 | none=>rfl
end Go.Proofs.YtgobkbeokaaplaaGreatDoor
namespace Go.Wk
variable {d n t ty:Nat}
theorem dalc'{P:Program}{al:AL}{w:World}{Q:Exit->Act->World->Prop}{ops:Array Oper}{drest:List (Nat×Oper)}{pos:String}{aft:Array Edge}{z:Value}{cs:List Value}(hz:Qa P t=some z)(kk:∀ w1 b,Ext w w1->w.heap.size<=b->Blk w1 b t cs->WD P n ops Q drest ((d,.pointer (some ⟨b,0,none⟩))::al) w1)(hv:z.cells=cs.toArray:=by rfl)(hd:Nat.blt d n=true:=by rfl):
  WD P n ops Q ((1,⟨some d,.alloc t,ty,pos,aft,none⟩)::drest) al w:=by grind [Gb,alc,Jd,Gy]
end Go.Wk
namespace Go.Proofs.YtgobkbeokaaplaaGreatDoor
open Go.RowKit Pl Go.Wk _root_.Go.Proofs.Tryz
attribute [local irreducible] WC WL QX WD WDB WP WN WG
variable {d:Bool}{S e k m n:Nat}{AR N:Nat->Prop}{Av Pv v vR:Value}{w wF:World}
theorem Qwl(kv:Value)(A:Option Addr)(n c:Nat)(d:Bool)(p:Option Addr)(h:kv=.slice A n c)(w:World): (Instr.build 78 #[(0,kv),(1,.agg #[.bool d,.pointer p])]).run prog w=.ok (.agg [kv,.bool d,.pointer p].toArray) w:=by subst h;kernel_rfl
theorem Qwg(kv:Value)(A:Option Addr)(n c:Nat)(d:Bool)(p:Option Addr)(h:kv=.slice A n c)(w:World): (Instr.buildSlice 72 1 #[(0,.agg [kv,.bool d,.pointer p].toArray)]).run prog w=.ok (.slice (some ⟨w.heap.size,0,none⟩) 1 1) (w.alloc (.cells [kv,.bool d,.pointer p].toArray 78)):=by subst h;kernel_rfl
def DnB(AR:Nat->Prop)(d:Bool)(w:World)(x:Value)(bs:List BkT): Prop:=∃(ps:List (List Value×BkT)) (A:Option Addr) (c:Nat),bs=ps.map (·.2)/\x=.slice A ps.length c/\ps.length<=c/\ps.length<=65536/\Rd w 3 A ps.length (Ql ps)/\(0<ps.length->∀ ad,A=some ad->¬ AR ad.block)/\∀ p∈ps,p.1.length=3/\BkE d AR w p.1 p.2
theorem DnB.gr{AR:Nat->Prop}{d:Bool}{w w':World}{x:Value}{bs:List BkT}(h:DnB AR d w x bs)(hg:GrN AR w w'): DnB AR d w' x bs:=by
 obtain⟨ps,A,c,J,G,D,C,u,o,j⟩:=h;refine⟨ps,A,c,J,G,D,C,Vn u hg λh0 O e=>o ?_ O e,o,λp i=>⟨(j p i).1,(j p i).2.gr hg⟩⟩;have:=u.1;omega
theorem Nb.big(hS:S<=4294967296^e)(he:e<=800)(hk:k<=4294967296)(hn:n<=k*S): Nb n:=by
 have i:k*S<=4294967296^(e+1):=by
  rw[Nat.pow_succ,Nat.mul_comm];exact Nat.mul_le_mul hS hk
 exact Nat.lt_of_le_of_lt (nL hn i) (Nat.pow_lt_pow_right (by decide) (by rw[Jmf];omega))
theorem Jfh(x:Row)(h:m<=x.length): (Jp x).take (m*3)=Jp (x.take m):=by grind [Jp,rowC_app',List.take_append_drop,List.take_left',Jfj,List.length_take,Nat.min_eq_left]
theorem Jdg{p:Value}{t:Tr}(h:TrV N w t p)(hn:Nb t.sum): Ret prog 134 [.agg #[.bool d,p]] w λu w'=>NatV w' u t.sum/\Fresh w u/\Ext w w':=by
 obtain⟨q,rfl⟩:=h.ptr;refine enE func134 ntmps134 ?_;refine bxR ?_;intro w1 b j hb J;refine ldR (J.at (i:=1) rfl) ?_;refine clR (Jxj (h.ext j)) ?_;rintro u Z ⟨G,rfl⟩;refine clR (Jgm G.1 hn.len) ?_;rintro u3 U ⟨C,D,o⟩;refine ρ ?_;exact Jj ⟨C,λO m c e=>nL j.size (D O m c e),j.trans o⟩
theorem Jcs: Qa prog 78=some (.agg #[.slice none 0 0,.bool false,.pointer none]):=kr
theorem Jyz{p:Option Addr}(h:v.oneCell'=true): ∀ u∈[v,.bool d,.pointer p],u.oneCell'=true:=λu i=>by
 simp only[List.mem_cons,List.not_mem_nil,or_false]at i;rcases i with rfl|rfl|rfl
 .exact h
 .rfl
 rfl
theorem Qct(bs:List BkT)(b:BkT)(k:Row)(h:b.1 ∉ bs.map (·.1)): Gq (bs++[b]) k=if b.1=k then b.2.sum else Gq bs k:=by grind [Gq,List.find?_eq_none.2,List.mem_map.2]
theorem Qcr{wt:Row->Nat}{rs:List Row}{bs:List BkT}(h:GInv d wt m rs bs){b:BkT}(hb:b∈bs): 0<b.2.sum:=by
 obtain⟨u,o⟩:=h.con b hb;rw[Tr.sum_eq,u,Jcb];exact(Qcp λp i=>by obtain⟨x,_,_,_,_,j⟩:=entL_mem.1 i;exact j).2 o
theorem Qtj{B0 f b v cb cv ct ck dc:Nat}{kf:Nat->Nat}{pf:Nat->Int}{R:Nat->List Row}{BA VA TA KA DA:Option Addr}{va ta ba:List Value}{ds:List Bool}{T:Nat->Row->Nat}(hF:FixW B0 n f kf pf R vR BA wF)(hds:ds.length=f)(hD:RdB wF DA ds)(hW:BldW wF b n (bCs n f (.slice DA f dc) Pv Av BA cb vR VA cv TA ct (.slice KA f ck)) VA cv TA ct w va ta)(hBa:w.ownsRow wF.heap.size 72 1 (.slice KA f ck) f ba)(hvf:v<f)(hm:0<(bk (kf v ||| 2^v) 32).length)(hval:∀ x∈R v,Xf (x.getD ((bk (kf v ||| 2^v) 32).length-1) V0)=true)(hlt:Lt [] (R v))(hdv:∀ c,c<n->pf c=(v:Int)->f<=c->DnV AR (T c) w (va.getD c (.map none)))(hdt:∀ c,c<n->pf c=(v:Int)->c<f->DnT AR (T c) w (ta.getD c (.map none)))(hT1:∀ c,f<=c->∀ k,T c k<=1)(hTb:∀ c k,T c k<=4294967296^20)(hAR:∀ k,ARk n f VA cv TA ct (.slice KA f ck) k->AR k)(hARl:∀ k,AR k->k<w.heap.size):
  Ret prog 76 [.pointer (some ⟨b,0,none⟩),.int .i64 (v:Int)] w λu w'=>u=.int .i64 0/\∃ mv lv,BldW wF b n (bCs n f (.slice DA f dc) Pv Av BA cb vR VA cv TA ct (.slice KA f ck)) VA cv TA ct w' va (ta.set v mv)/\w'.ownsRow wF.heap.size 72 1 (.slice KA f ck) f (ba.set v lv) /\
   GrN AR w w'/\DnT AR (Gq (Vr (ds.getD v false) (λx=>wtL T x (chK kf pf v n)) ((bk (kf v ||| 2^v) 32).length-1) (R v))) w' mv /\
   DnB AR (ds.getD v false) w' lv (Vr (ds.getD v false) (λx=>wtL T x (chK kf pf v n)) ((bk (kf v ||| 2^v) 32).length-1) (R v)):=by
 obtain⟨e8,hB,fc,ap⟩:=hW;have en:=hF.n32;have j1:=hF.fn;have hv:v<n:=om
 have hb:Rd wF 1 DA f (ds.map Value.bool):=hds ▸ hD;refine enE func76 ntmps76 ?_;refine ldR (hB.at (i:=8) rfl) ?_;refine ρ ?_;refine mkm 9 ?_;intro w1 mb a2 gl hM;obtain⟨s1,s2,s3,s4,s5⟩:=Zn (Jk ap a2) (q:=v) om (.map (some mb));have io:ta.length=n:=by have:=ap.1;omega
 refine ixR v (Rd.own (Jk ap a2)) om ?_;refine Xv (s1.trans (show ta[v]?=some (ta.getD v (.map none)) by simp[List.getD,List.getElem?_eq_getElem (show v<ta.length by omega)])) s2 ?_;refine ρ ?_;obtain⟨w2,ef⟩:∃ w2,w2=w1.setCell (adr TA v) (.map (some mb)):=⟨_,rfl⟩;rw[<-ef]at s3 s5 ⊢;clear ef;have g6:∀ g,(Value.slice VA n cv).ownBlock=some g->wF.heap.size<=g/\g<w.heap.size:=(Jy fc).choose_spec.choose_spec.2.2;have cw:∀ g,(Value.slice TA n ct).ownBlock=some g->wF.heap.size<=g/\g<w.heap.size:=(Jy ap).choose_spec.choose_spec.2.2;have dx:∀ g,(Value.slice KA f ck).ownBlock=some g->wF.heap.size<=g/\g<w.heap.size:=(Jy hBa).choose_spec.choose_spec.2.2;have i3:=a2.size;have i9:=hM.lt;have dl:Blk w2 b 159 _:=(hB.ext a2).grown s5 ((hB.ext a2).ne_own (Jk ap a2) rfl);have cn:w2.ownsRow wF.heap.size 213 1 (.slice VA n cv) n va:=Zg (Jk fc a2) (Jk ap a2) s5 rfl
 have fp:w2.ownsRow wF.heap.size 72 1 (.slice KA f ck) f ba:=Zg (Jk hBa a2) (Jk ap a2) s5 rfl;have fl:MapS prog 9 w2 mb 0 (λ_=>none):=hM.kept s5 (λe=>by have:=(cw mb e.symm).2;omega);have f3:GrN AR w w2:=(GrN.ext a2).trans (GrN.by s5 λk C=>hAR k (.inr (.inl C)));have af:Ext wF w2:=Qg (e8.trans a2) s5 λk C=>(cw k C).1;have gm:wF.heap.size<=mb:=nL e8.size gl;have i8:=fl.lt;obtain⟨RA,rc,ij,fx,gg,gf,fg,h6⟩:=hF.rels.parts;rw[List.length_map,List.length_range]at fx gg gf fg;obtain⟨re,i4,⟨t,hx,dn⟩,c0⟩:=h6 v (by simpa using hv);subst hx;simp only[List.getElem_map,List.getElem_range]at dn;obtain⟨⟨PA,pc,g0,iu,ir,iq⟩,fz,g4⟩:=id dn;obtain⟨t1,t2,t3⟩:=t;simp only[Yd]at g0 fz;subst g0;subst fz;have em:(nz (bk (kf v ||| 2^v) 32)).length=(bk (kf v ||| 2^v) 32).length:=Qf _;subst fx;refine cl (Qkt (R:=R) dl rfl rfl (hF.bags.ext af) (hF.rels.ext af λcs a h=>Jmj h af) en hv hF.kb) ?_
 rintro vl w3 ⟨ha,d2⟩;have b7:=af.trans d2;have ho:=dl.ext d2;have d6:∀ j u,([.int .i64 ((bk (kf v ||| 2^v) 32).length:Int),t3]:List Value)[j]?=some u->w3.cell? (((adr RA (v*3)).add 1).add j)=some u:=λj u hu=>by
  have:=c0 (1+j) u (by rw[Nat.add_comm];exact hu);rw[Xe]at this;rw[Xe,Xe,Nat.add_assoc];exact Gf b7 this
 refine ldR (ho.at (i:=6) rfl) ?_;refine Qp 3 v (fg.ext b7) hv ?_;refine Js (cs:=[.int .i64 ((bk (kf v ||| 2^v) 32).length:Int),t3]) d6 ?_;refine clR (Jfn (ar:=(bk (kf v ||| 2^v) 32).length) (ls:=R v) ((dn.ext b7).rel)) ?_;rintro ur w5 ⟨eb,bz⟩;obtain⟨ps,GA,gc,dt,rfl,iz,i6,ej,d5⟩:=bz;have d9:(R v).length=ps.length:=by rw[dt,List.length_map]
 have ip:=hF.rlen v hv;have Z:=d2.trans eb;have d7:=ej.here;have av:∀ p∈ps,RowV w5 p.1 p.2:=λp hp=>(d5 p hp).here;have c3:=dl.ext Z;have aq:=af.trans Z;have h9:=ha.ext eb;have dj:=fl.ext Z;have ei:∀ c,c≠v->(ta.set v (.map (some mb))).getD c (.map none)=ta.getD c (.map none):=λc hc=>by simp[List.getD,List.getElem?_set_ne (Ne.symm hc)]
 have gk:∀ c,c<n->pf c=(v:Int)->c≠v:=λc hc hp e=>hF.pn c hc (by rw[hp,e]);have cj:GrN AR w w5:=f3.trans (GrN.ext Z);have bj:=cj;obtain⟨d,hd⟩:∃ d,d=ds.getD v false:=⟨_,rfl⟩;obtain⟨m,c1⟩:∃ m,m=(bk (kf v ||| 2^v) 32).length-1:=⟨_,rfl⟩;obtain⟨wt,d3⟩:∃ wt:Row->Nat,wt=λx=>wtL T x (chK kf pf v n):=⟨_,rfl⟩;rw[<-hd,<-c1,<-d3];rw[<-c1]at hval;obtain⟨S,hS⟩:∃ S:Nat,S=(4294967296^20)^32:=⟨_,rfl⟩;obtain⟨e,he,fe⟩:∃ e,e<=800/\S<=4294967296^e:=⟨20*32,om,by rw[hS,<-Nat.pow_mul];exact nR _⟩;have ec:∀ x,wt x<=S:=λx=>by
  rw[d3,hS];refine nL (Jcv λp hp=>hTb _ _) (Nat.pow_le_pow_right (Nat.pow_pos (by decide)) ?_);have:=Jkb kf pf v n;omega
 refine ρ ?_;refine Jo (fun (i:Nat) (vb:Value)=>[(0,.pointer (some ⟨b,0,none⟩)),(1,.int .i64 (v:Int)),(5,vl),(6,vb),(34,.slice GA ps.length gc),(35,.int .i64 (ps.length:Int)),(36,.int .i64 (i:Int))])
  (λi vb w'=>i<=ps.length/\Ext w5 w'/\∃ G,OwnB d w5.heap.size w' vb G/\G.map (·.2)=Vr d wt m ((R v).take i)/\G.length<=i/\∀ q∈G,q.2.2.sum<=i*S/\q.2.2.sz<=i) (λi _=>ps.length-i) 0 (.slice none 0 0) sB
  ⟨Nat.zero_le _,Ext.refl _,[],OwnB.nil _ _ _,rfl,Nat.le_refl _,λq hq=>by cases hq⟩ ?_
 clear hS;rintro i vb w6 ⟨hi,D,G,ak,aa,gh,b3⟩;obtain⟨LA,lc,rfl,gn,an⟩:=ak.form;refine ciR (λh=>?_) (λh=>?_)
 .have li:i<ps.length:=by have:=oT h;omega
  clear h;obtain⟨x,bu⟩:∃ x,x=(ps.getD i z0).2:=⟨_,rfl⟩;have e2:x∈R v:=by rw[dt,bu];exact List.mem_map_of_mem (getD_mem' z0 ps li)
  have ga:(R v).getD i []=x:=by rw[dt,bu];simp[List.getD,List.getElem?_eq_getElem li]
  obtain⟨e4,cx⟩:=hF.rows v hv x e2;have be:RowV w6 (ps.getD i z0).1 x:=by rw[bu];exact(av _ (getD_mem' z0 ps li)).ext D
  have ca:=d7.ext D;have b6:=aq.trans D;have cd:=cj.trans (GrN.ext D);have h8:GV 2 ChG w6 vl (chK kf pf v n):=(h9.ext D).gv (by have:=Jkb kf pf v n;omega);have bw:=Qt [] (show i<(R v).length by omega);rw[ga]at bw;refine ixR i ca li ?_;refine ldR (ca.cell (show(ps.map (·.1))[i]?=some (ps.getD i z0).1 by simp[List.getD,List.getElem?_eq_getElem li])) ?_
  refine clR (Jpb (T:=T) (AR:=AR) (hF.tb.ext b6) (c3.ext D) rfl rfl rfl (Rd.own (Jk cn (Z.trans D))) (Rd.own (Jk s3 (Z.trans D))) h8 (by have:=Jkb kf pf v n;omega) (λp hp=>?_) be cx (λp hp bg=>?_) (λp hp bg=>?_) (λp hp bg k=>hT1 _ bg k) (λp hp k=>hTb _ k)) ?_
  .obtain⟨J,h2,h3⟩:=Jqg hp;refine⟨J,λc hc=>?_⟩;rw[h3]at hc;rw[e4];exact Jzw hc
  .obtain⟨J,h2,h3⟩:=Jqg hp;exact(hdv _ J h2 bg).gr cd
  .obtain⟨J,h2,h3⟩:=Jqg hp;rw[ei _ (gk _ J h2)];exact(hdt _ J h2 bg).gr cd
  rintro vw w7 ⟨d4,f4,b2⟩;have hw:wtL T x (chK kf pf v n)=wt x:=by rw[d3]
  rw[hw]at d4;obtain⟨WA,wc,rfl,bc⟩:=Jgv d4;refine ciR (λh=>?_) (λh=>?_)
  .have h0:wt x=0:=by
    have:=Zx h;rcases Nat.eq_zero_or_pos (wt x) with h'|h'
    .exact h'
    have:=bc.2 h';omega
   refine ρ ?_;refine Jl (i+1) _ sO ⟨li,D.trans b2,G,ak.ext b2,?_,om,λq hq=>⟨?_,by have:=(b3 q hq).2;omega⟩⟩ om
   .rw[bw,Jbt,Qdq h0];exact aa
   have:=(b3 q hq).1;rw[Nat.succ_mul];omega
  have h0:wt x≠0:=λe=>by(have:=Xu h;have J:¬ 0<(Jq (wt x)).length:=λh'=>by have:=bc.1 h';omega);(omega)
  clear h;obtain⟨XA,xc,fw,im,i1,gb⟩:=id be;have iv:x.length=m+1:=by rw[e4,c1];omega
  rw[fw];have db:RdR w7 XA (x.take m):=by
   have J:=(Rd.ext gb b2).take (m:=m) om;have h2:(Jp x).take (m*3)=Jp (x.take m):=Jfh x om;rw[h2]at J;have h3:(x.take m).length=m:=by rw[List.length_take];omega
   unfold RdR;rw[h3];exact J
  have bi:RowV w7 (.slice XA m xc) (x.take m):=⟨XA,xc,by rw[List.length_take,Nat.min_eq_left om],by rw[List.length_take];omega,by rw[List.length_take];omega,db⟩;have c9:=D.trans b2;have aj:=ak.ext b2;refine ρ ?_;refine slh m ?_;refine ρ ?_;refine Jnv (fun (bb:Bool) (_:Unit)=>[(66,.bool bb),(0,.pointer (some ⟨b,0,none⟩)),(1,.int .i64 (v:Int)),(5,vl),(6,.slice LA G.length lc),(8,.slice XA x.length xc),(9,.slice WA (Jq (wt x)).length wc),(10,.slice XA m xc),(34,.slice GA ps.length gc),(35,.int .i64 (ps.length:Int)),(36,.int .i64 (i:Int))])
   (λbb _ w'=>Ext w7 w'/\(bb=true↔¬ (G.getLast?.map (·.2.1))=some (x.take m))) ?_ ?_
  .refine ki 55 (λh=>?_) (λh=>?_)
   .have gi:G=[]:=List.eq_nil_of_length_eq_zero (by have:=Zx h;omega);refine ρ ?_;refine Vv true () sB ⟨Ext.refl _,?_⟩;rw[gi];simp
   have d8:G≠[]:=λe=>by have:=Xu h;rw[e]at this;simp at this
   obtain⟨o,z,ez,dq,_⟩:=Jbw d8;have ae:z∈G:=by rw[ez];simp
   obtain⟨kv,zq,b4,bt,b5⟩:=aj.el z ae;have i5:G.length=o.length+1:=by rw[ez];simp
   have g7:(Ql G)[(o.length)*3+0]?=some kv:=by
    rw[Iu (p:=z) (λp hp=>(aj.el p hp).len) (by rw[ez];simp) om,b4];rfl
   have ek:=Rd.own aj.own;refine Qp 3 o.length ek om ?_;refine ldR (by have:=ek.cell g7;rw[<-Xe]at this;exact this) ?_;refine clR (Jyq bt.v bi) ?_;rintro u w8 ⟨rfl,cy⟩;refine ρ ?_;refine Vv (!decide (z.2.1=x.take m)) () sB ⟨cy,?_⟩;rw[dq];simp
  rintro bb _ w8 ⟨a5,f7⟩;refine Zv (λs:((List (List Value×BkT))×Value×Option Addr×Tr)×Value=>[(0,.pointer (some ⟨b,0,none⟩)),(1,.int .i64 (v:Int)),(5,vl),(6,s.2),(8,.slice XA x.length xc),(9,.slice WA (Jq (wt x)).length wc),(10,.slice XA m xc),(34,.slice GA ps.length gc),(35,.int .i64 (ps.length:Int)),(36,.int .i64 (i:Int))])
   (λs w'=>Ext w5 w'/\GrN (λk=>Xx w5.heap.size (.slice LA G.length lc) k/\w5.heap.size<=k) w7 w'/\OwnB d w5.heap.size w' s.2 (s.1.1++[([s.1.2.1,.bool d,.pointer s.1.2.2.1],(x.take m,s.1.2.2.2))])/\Vr d wt m ((R v).take (i+1))=s.1.1.map (·.2)++[(x.take m,Tr.put d (x.getD m V0) (wt x) s.1.2.2.2)]/\s.1.1.length<=i/\s.1.2.2.2.sum<=i*S/\s.1.2.2.2.sz<=i/\∀ q∈s.1.1,q.2.2.sum<=i*S/\q.2.2.sz<=i) ?_ ?_
  .have bo:=aj.ext a5;refine ci (λh=>?_) (λh=>?_)
   .have em:=f7.1 h;have a7:=c9.trans a5;have a3:Ext w8 w8.drew:=(Ext.refl w8).drew;have hf:=(c3.ext a7).ext a3;have e7:=(aq.trans a7).trans a3;have gz:¬ w5.heap.size<=b:=by have:=c3.lt;omega
    refine ρ ?_;refine drN (λk=>w5.heap.size<=k) 10 [(0,0),(0,1),(0,3),(0,4),(0,5),(0,6),(0,7),(0,8),(0,9),(0,10),(1,2),(1,11),(0,12),(1,13),(1,14),(0,15)] kr ?_;refine ρn ?_;refine nld (Jr (hf.at (i:=2) rfl) gz) ?_;refine ρn ?_;refine nix v (Rd.ext hb e7) om ?_;refine ρn ?_;refine nld (λw' hg=>Gf (aq.trans (hg.old (a7.trans a3) λk C=>C)) (RdB.cell hD (show v<ds.length by omega))) ?_;refine ρn ?_;refine nop ?_;refine cl (Gd ((bi.ext a5).ext a3) (Xx w5.heap.size (.slice LA G.length lc)) λk C=>?_) ?_
    .rcases C with h'|h'
     .exact nM h' (a7.trans a3).size
     exact nM (an k h').2 ((b2.trans a5).trans a3).size
    rintro kv w9 ⟨et,bv⟩;obtain⟨am,ac,rfl,_⟩:=id et;refine ρ ?_;refine Ja (GrN.ext bv) ?_;refine ρn ?_;refine nop ?_;refine cl Qnk ?_;rintro u g5 ⟨rfl,a1⟩;refine ρ ?_;refine Ja (GrN.ext a1) ?_;rw[<-hd];refine ρn ?_;refine Jqf (Qwl _ am _ ac d none rfl) ?_;refine ρn ?_;refine nop ?_;refine bsl (Qwg _ am _ ac d none rfl) ?_;intro bs j3 a8 ig fu;refine ρ ?_;refine Ja (GrN.ext a8) ?_;refine ρn ?_;refine nop ?_;have au:Ext w8 bs:=((a3.trans bv).trans a1).trans a8;have ep:BkE d (Xx w5.heap.size (.slice LA G.length lc)) bs [.slice am (x.take m).length ac,.bool d,.pointer none] (x.take m,.nil):=⟨_,_,rfl,(et.ext a1).ext a8,rfl⟩;refine apB (bo.ext au) fu ep om (a7.trans au).size ?_;intro dv br fi ag;refine ρ ?_;refine Ja (GrN.by ag λg eg=>(an g eg).1) ?_;refine ρn ?_;refine ρ ?_;refine Jf ((G,.slice am (x.take m).length ac,none,.nil),dv) sB ⟨?_,?_,fi,?_,gh,by simp[Tr.sum],by simp[Tr.sz],b3⟩
    .exact Qg (a7.trans au) ag λg eg=>(an g eg).1
    .exact(GrN.ext (a5.trans au)).trans (GrN.by ag λg eg=>⟨.inr eg,(an g eg).1⟩)
    rw[bw,Jbt,<-aa];exact Qdr h0 (by rw[List.getLast?_map];simpa [Option.map_map] using em)
   have hl:(G.getLast?.map (·.2.1))=some (x.take m):=Classical.byContradiction λh'=>by rw[f7.2 h']at h;cases h
   have d8:G≠[]:=λe=>by rw[e]at hl;cases hl
   obtain⟨o,z,ez,dq,_⟩:=Jbw d8;rw[dq]at hl;have e0:z.2.1=x.take m:=by simpa using hl
   have ae:z∈G:=by rw[ez];simp
   obtain⟨kv,zq,b4,bt,b5⟩:=bo.el z ae;obtain⟨zp,rfl⟩:=b5.ptr;obtain⟨zc,zk,zt⟩:=z;simp only at b4 e0;subst b4;subst e0;have fa:=b3 _ ae;refine ρ ?_;refine Jf ((o,kv,zp,zt),.slice LA G.length lc) sB ⟨c9.trans a5,GrN.ext a5,by rw[<-ez];exact bo,?_,?_,fa.1,fa.2,λq hq=>b3 q (by rw[ez];simp[hq])⟩
   .rw[bw,Jbt,<-aa,ez,List.map_append];exact Qds h0
   have:G.length=o.length+1:=by rw[ez];simp
   simp only;omega
  rintro⟨⟨o,kv,q,t⟩,dv⟩ w9 ⟨b9,f0,ai,ey,gt,ge,gd,ew⟩;simp only at ai ey gt ge gd ew;obtain⟨LB,lb,rfl,gq,ax⟩:=ai.form;have ab:(o++[([kv,.bool d,.pointer q],(x.take m,t))]).length=o.length+1:=by simp
  rw[ab]at gq ax ⊢;have ay:=ai.own;rw[ab]at ay;refine Qp 3 o.length (Rd.own ay) om ?_;refine ρ ?_;have U:Ext w9 w9.drew:=(Ext.refl w9).drew;have b8:=b9.trans U;have ih:=ai.ext U;have dh:=Jk ay U;have g9:RowV w9.drew (.slice XA x.length xc) x:=by
   have:=(av _ (getD_mem' z0 ps li)).ext b8;rw[<-bu,fw]at this;exact this
  obtain⟨j4,ii,hs,_,_,c5⟩:=id g9;injection hs with exx1 _ exx2
  subst exx1;subst exx2;have f6:BkE d (Xx w5.heap.size (.slice LB (o.length+1) lb)) w9 [kv,.bool d,.pointer q] (x.take m,t):=by
   have:=ai.el ([kv,.bool d,.pointer q],(x.take m,t)) (by simp);rw[ab]at this;exact this
  obtain⟨il,q',g3,ep,eh⟩:=id f6;simp only[List.cons.injEq,and_true,true_and]at g3;obtain⟨g2,g1⟩:=g3;subst g2;subst g1;have da:∀ j u,([.bool d,.pointer q]:List Value)[j]?=some u->w9.drew.cell? (((adr LB (o.length*3)).add 1).add j)=some u:=λj u hu=>by
   have iy:j<2:=(List.getElem?_eq_some_iff.1 hu).1;have J:(Ql (o++[([kv,.bool d,.pointer q],(x.take m,t))]))[o.length*3+(1+j)]?=some u:=by
    rw[Iu (p:=([kv,.bool d,.pointer q],(x.take m,t))) (λp hp=>(ai.el p hp).len) (by simp) om,Nat.add_comm 1 j];exact hu
   have:=(Rd.own dh).cell J;rw[Xe,Xe,Nat.add_assoc];exact this
  have ed:NatV w9.drew (.slice WA (Jq (wt x)).length wc) (wt x):=by
   have J:NatX (λk=>Xx w5.heap.size (.slice LA G.length lc) k/\w5.heap.size<=k) w7 (.slice WA (Jq (wt x)).length wc) (wt x):=f4.x d4 λk C=>by
    rcases C.1 with h'|h'
    .have:=D.size;omega
    exact(an k h').2
   exact(J.gr f0).1.ext U
  have bd:Xf (x.getD m V0)=true:=hval x e2;have cc:Nb (t.sum+wt x):=Nb.big (k:=i+1) fe he om (by have:=ec x;rw[Nat.succ_mul];omega);have dw:t.sz+1<=1000000:=om
  have bh:∀ k,Xx w5.heap.size (.slice LB (o.length+1) lb) k->k<w9.heap.size:=λk C=>by
   rcases C with h'|h'
   .exact nM h' b9.size
   exact(ax k h').2
  refine drH (λi=>Nat.ble 16 i) ?_;refine Zs (fuel':=7) 8 [(0,0),(0,1),(0,2),(0,3),(0,4),(0,5),(0,6),(0,7),(0,8),(0,9),(0,10)] #[true,true,true,true,true,true,true,true,true,true,true,false,false,false,false,false,false,false] kr kr rfl ?_;refine Qh (cs:=[.bool d,.pointer q]) da ?_;refine Kt 3 m c5 om ?_;refine Qh (cs:=(x.getD m V0).cells) (λj u hu=>RdR.cell c5 om hu) ?_;refine ρd ?_;refine Xy ?_;refine Jwt 2 (lst 18 16) (fun (y:Nat×Option Addr)=>[(12,.pointer (some ⟨y.1,0,none⟩)),(100,.agg #[.bool d,.pointer y.2]),(101,.int .i64 0),(0,.pointer (some ⟨b,0,none⟩)),(1,.int .i64 (v:Int)),(5,vl),(6,.slice LB (o.length+1) lb),(11,.pointer (some (adr LB (o.length*3)))),(34,.slice GA ps.length gc),(35,.int .i64 (ps.length:Int)),(36,.int .i64 (i:Int))])
   (λy W=>Ext w9.drew W/\Blk W y.1 76 [.bool false,.pointer none]/\w9.drew.heap.size<=y.1/\TrV (λk=>Xx w5.heap.size (.slice LB (o.length+1) lb) k∨k=y.1) W (Tr.put d (x.getD m V0) (wt x) t) (.pointer y.2)) ?_ ?_
  .rintro⟨du,p2⟩ W ⟨e6,fr,f8,fd⟩;simp only at fr f8 fd;refine Zs (fuel':=0) 8 [(2,16),(2,17)] (lst 18 18) kr kr rfl ?_;refine Qj ?_;refine stW fr ?_;intro W2 fq cg i2;refine Jd (Qu ?_);refine Qj ?_;refine ρ ?_;refine Qu ?_;refine Zc (Xy ?_);refine Uw kr ?_;refine ρ ?_;have d1:Ext w5 W:=b8.trans e6;have c7:Ext w9 W:=U.trans e6;have e9:w9.heap.size<=du:=nL U.size f8;have ao:GrN (λk=>k=du) W W2:=GrN.by cg λk C=>by injection C with C;exact C.symm
   have fh:W2.ownsRow w5.heap.size 78 3 (.slice LB (o.length+1) lb) (o.length+1) (Ql (o++[([kv,.bool d,.pointer q],(x.take m,t))])):=Jt (Jk ay c7) ao λg eg e=>by have:=(ax g eg).2;omega
   refine Qq fq ?_;refine ρ ?_;refine Go.Wk.kv 108 (congrArg (λp=>Value.pointer (some p)) (Xe LB (o.length*3) 1)) ?_;refine stoG (q:=o.length*3+1) (cs:=[.bool d,.pointer p2]) fh (by simp;omega) (by simp) ?_ Qmr;intro W3 cp ce;have dd:∀ p∈o,p.1.length=3:=λp hp=>(ai.el p (by simp[hp])).len;have i0:=Qts dd kv (.bool d) (.pointer q) (.bool d) (.pointer p2) (x.take m,t) (x.take m,Tr.put d (x.getD m V0) (wt x) t);rw[show o.length*3+1+([Value.bool d,.pointer p2]:List Value).length=o.length*3+1+2 from rfl,i0]at cp;have d0:Ext w5 W2:=Qg d1 cg λk C=>by injection C with C;have:=b9.size;omega
   have cz:Ext w5 W3:=Qg d0 ce λk C=>(ax k C).1;have ch:GrN (λk=>Xx w5.heap.size (.slice LB (o.length+1) lb) k) W2 W3:=GrN.by ce λk C=>.inr C
   have cm:∀ p:List Value×BkT,BkE d (Xx w5.heap.size (.slice LB (o.length+1) lb)) w9 p.1 p.2->BkE d (Xx w5.heap.size (.slice LB (o.length+1) lb)) W3 p.1 p.2:=λp hp=>by
    have J:BkE d (λk=>Xx w5.heap.size (.slice LB (o.length+1) lb) k∨k=du) w9 p.1 p.2:=hp.old λk C=>C.imp id λe=>by rw[e];exact e9
    exact(((J.ext c7).gr (ao.mono λk _ C=>.inr C)).old λk C=>.inl (.inl C)).gr ch
   refine ρ ?_;refine Jl (i+1) (.slice LB (o.length+1) lb) sO ⟨li,cz,o++[([kv,.bool d,.pointer p2],(x.take m,Tr.put d (x.getD m V0) (wt x) t))],⟨?_,λp hp=>?_⟩,?_,by simp;omega,λp hp=>?_⟩ om
   .have:(o++[([kv,Value.bool d,.pointer p2],(x.take m,Tr.put d (x.getD m V0) (wt x) t))]).length=o.length+1:=by simp
    rw[this];exact cp
   .rcases List.mem_append.1 hp with J|J
    .have:=ai.el p (by simp[J]);rw[ab]at this;exact cm p this
    rw[List.mem_singleton.1 J];obtain⟨ik,q3,e3,eu,_⟩:=cm ([kv,.bool d,.pointer q],(x.take m,t)) f6;simp only[List.cons.injEq,and_true,true_and]at e3;rw[<-e3.1]at eu;exact⟨kv,.pointer p2,rfl,eu,((fd.gr (ao.mono λk _ C=>.inr C)).old λk C=>.inl (.inl C)).gr ch⟩
   .rw[ey];simp
   rcases List.mem_append.1 hp with J|J
   .have:=ew p J;rw[Nat.succ_mul];omega
   rw[List.mem_singleton.1 J];have h2:=Jwd d (x.getD m V0) (wt x) t;have h3:=Tr.put_sz d (x.getD m V0) (wt x) t;have h4:=ec x;simp only;rw[Nat.succ_mul];omega
  intro rest;refine htwo 11 15 kr rfl rfl rfl ?_ ?_
  .refine clR (Jpt (eh.ext U) bd ed (λk C=>nM (bh k C) U.size) h0 cc dw) ?_;rintro u W ⟨q2,rfl,bf,hy⟩;obtain⟨p2,rfl⟩:=bf.ptr;refine Jd (Ip hy ?_);refine Zs (fuel':=4) 8 [(0,12),(0,13)] (lst 18 14) kr kr rfl ?_;refine ρd ?_;refine Xy ?_;refine Uk (fuel':=3) 14 kr kr rfl rfl ?_;refine ρp ?_;refine ρd ?_;refine Xy ?_;refine Zs (fuel':=2) 8 [(1,15)] (lst 18 16) kr kr rfl ?_;refine dalc' (cs:=[.bool false,.pointer none]) Vl ?_;intro W2 bq b1 ah az;refine Zc (Xy ?_);exact rest (bq,p2) _ _ ⟨hy.trans b1,az,Nat.le_trans hy.size ah,(bf.old λk C=>C.imp id λe=>by rw[e];exact ah).ext b1⟩ sB
  refine Jv Vl ?_;intro W bq hy ah az;refine Jd (Ip hy ?_);refine Zs (fuel':=3) 8 [(1,11),(0,12),(0,13)] #[true,true,true,true,true,true,true,true,true,true,true,true,true,true,false,true,false,false] kr kr rfl ?_;refine ρd ?_;have h7:∀ k,(Xx w5.heap.size (.slice LB (o.length+1) lb) k∨k=bq)->k<W.heap.size:=λk C=>by
   rcases C with h'|h'
   .exact nM (bh k h') (U.trans hy).size
   rw[h'];exact az.lt
  refine dcl (Jpt (N:=λk=>Xx w5.heap.size (.slice LB (o.length+1) lb) k∨k=bq) (((eh.ext U).old λk C=>C.imp id λe=>by rw[e];exact ah).ext hy) bd (ed.ext hy) h7 h0 cc dw) ?_;rintro u W2 ⟨q2,rfl,bf,b1⟩;obtain⟨p2,rfl⟩:=bf.ptr;refine⟨b1,?_⟩;refine ρd ?_;refine Xy ?_;refine Uk (fuel':=2) 14 kr kr rfl rfl ?_;refine ρp ?_;refine ρd ?_;refine Xy ?_;refine hlist (listed':=lst 18 16) kr ?_;exact rest (bq,p2) _ _ ⟨hy.trans b1,az.ext b1,ah,bf⟩ sB
 have gw:i=ps.length:=by have:=oF h;omega
 clear h;rw[gw,<-d9,List.take_length]at aa;have dk:GInv d wt m (R v) (Vr d wt m (R v)):=Jwv hlt λy hy=>by rw[(hF.rows v hv y hy).1,c1];omega
 have b6:=aq.trans D;have ic:=(GrN.ext (N:=λk=>k=mb) (Z.trans D));have fk:=dj.ext D;have i7:=fk.lt;have hh:=c3.ext D;have h5:=Jk s3 (Z.trans D);have eo:∀ g,(Value.slice LA G.length lc).ownBlock=some g->¬ g=mb:=λg eg e=>by have:=(an g eg).1;have:=dj.lt;omega
 have gy:¬ b=mb:=λe=>by have:=hB.lt;omega
 have di:=dj.lt;have hr:∀ k,(AR k∨k=mb)->k<w6.heap.size:=by
  rintro k (h'|h')
  .have:=hARl k h';have:=(bj.size);have:=D.size;omega
  omega
 refine ρ ?_;refine Zq (fun (j:Nat) (mc:Nat) (fm:Lit->Option Value)=>[(0,.pointer (some ⟨b,0,none⟩)),(1,.int .i64 (v:Int)),(6,.slice LA G.length lc),(110,.slice LA G.length lc),(111,.int .i64 (G.length:Int)),(112,.int .i64 (j:Int))])
  (λj mc fm w'=>j<=G.length/\GrN (λk=>k=mb) w6 w'/\MapS prog 9 w' mb mc fm/\mc<=j/\∀ k:Row,(fm (.string (idn k))=none/\Gq ((G.map (·.2)).take j) k=0)∨∃ y,fm (.string (idn k))=some y/\0<Gq ((G.map (·.2)).take j) k/\NatX (λk=>AR k∨k=mb) w' y (Gq ((G.map (·.2)).take j) k)) (λj _ _=>G.length-j) 0 0 (λ_=>none) sB
  ⟨Nat.zero_le _,GrN.refl _ _,fk,Nat.le_refl _,λk=>.inl ⟨rfl,rfl⟩⟩ ?_
 rintro j mc fm w7 ⟨hj,O,fj,iw,df⟩;have c2:=Jb hh O gy;have aj:=Jt ak.own O eo;have ff:=Jt h5 O λg eg e=>by have:=(cw g eg).2;omega
 have c6:Ext wF w7:=O.old b6 λk C=>by rw[C];exact gm
 refine ciR (λh=>?_) (λh=>?_)
 .have lj:j<G.length:=by have:=oT h;omega
  clear h;obtain⟨z,hz⟩:∃ z,z=G[j]:=⟨_,rfl⟩;have ae:z∈G:=by rw[hz];exact List.getElem_mem lj
  have dz:z.2∈Vr d wt m (R v):=by rw[<-aa];exact List.mem_map_of_mem ae
  have f5:=(ak.el z ae).gr (O.mono λk _ C=>.inl (by rw[C];exact di));obtain⟨kv,zq,b4,bt,b5⟩:=id f5;obtain⟨zp,rfl⟩:=b5.ptr;obtain⟨am,ac,rfl,ib,ia,er,_⟩:=id bt;have a6:FitR z.2.1:=by
   obtain⟨y,hy,e1,_⟩:=entL_ne.1 (dk.con z.2 dz).2;have:=(hF.rows v hv y hy).2;rw[<-e1];exact⟨by have:=this.1;rw[List.length_take];omega,λu hu=>this.2 u (List.mem_of_mem_take hu)⟩
  have dg:∀ i u,([.slice am z.2.1.length ac,.bool d,.pointer zp]:List Value)[i]?=some u->w7.cell? ((adr LA (j*3)).add i)=some u:=λi u hu=>by
   have gu:i<3:=(List.getElem?_eq_some_iff.1 hu).1;rw[Xe];refine(Rd.own aj).cell ?_;rw[Iu (p:=z) (λp hp=>(ak.el p hp).len) (by rw[hz];exact gE lj) gu,b4];exact hu
  refine Qp 3 j (Rd.own aj) lj ?_;refine Js (cs:=[.slice am z.2.1.length ac,.bool d,.pointer zp]) dg ?_;refine Jv Jcs ?_;intro w8 j2 cy f9 ft;refine Qb (cs':=[.slice am z.2.1.length ac,.bool d,.pointer zp]) ft ?_ (Jyz rfl);intro w9 dm j0 bv;have ea:Ext w7 w9:=bv w7 cy f9;have e5:Ext w9 w9.drew:=(Ext.refl w9).drew;have a4:=ea.trans e5;refine ρ ?_;refine drN (λ_=>False) 10 [(0,0),(0,1),(0,2),(0,3),(0,4),(0,5),(0,6),(0,7),(0,8),(0,10),(0,11),(1,9),(1,12),(2,13)] kr ?_;have co:=Rd.own (Jk ff a4);have bp:=dm.ext e5;refine ρn ?_;refine nld (Jr ((c2.ext a4).at (i:=8) rfl) (λe=>e)) ?_;refine ρn ?_;refine nix v co hv ?_;refine ρn ?_;refine nld (Jr (co.cell (show(ta.set v (.map (some mb)))[v]?=some (.map (some mb)) by rw[List.getElem?_set_self om])) (λe=>e)) ?_;refine ρn ?_;refine nld (Jr (bp.at (i:=0) rfl) (λe=>e)) ?_;refine ρn ?_;refine Xr (cs:=[.bool d,.pointer zp]) (λw' hg j u hu=>Jr (bp.sub (i:=1) (j:=j) (by rw[Nat.add_comm];exact hu)) (λe=>e) w' hg) ?_
  refine ρn ?_;refine nop ?_;refine cl (Jzn (r:=z.2.1) (hF.tb.ext (c6.trans a4)) (er.ext a4) (λu hu=>(a6.2 u hu).1) (by have:=a6.len;omega) (by have:=a6.1;omega)) ?_;rintro un g5 ⟨rfl,a1⟩;refine ρ ?_;refine Ja (GrN.ext a1) ?_;refine ρn ?_;refine nop ?_;refine cl (Jdg ((b5.ext a4).ext a1) (Nb.big (k:=i) fe he om (b3 z ae).1)) ?_;rintro uy bs ⟨c4,gx,a8⟩;obtain⟨YA,yc,rfl,_⟩:=id c4;have c8:=(a4.trans a1).trans a8;refine ρ ?_;refine Ja (GrN.ext a8) ?_;refine ρn ?_;refine Xh ?_;refine mup KS (fj.ext c8) (by unfold maxLen;omega) (Ga a6) ?_;intro br fo ag;have bn:GrN (λk=>k=mb) bs br:=GrN.by ag λk C=>by injection C with C;exact C.symm
  have bm:GrN (λk=>k=mb) w7 br:=(GrN.ext c8).trans bn;have g8:NatX (λk=>AR k∨k=mb) br (.slice YA (Jq z.2.2.sum).length yc) z.2.2.sum :=
   (gx.x c4 λk C=>nM (hr k C) (nL O.size (a4.trans a1).size)).gr (bn.mono λk _ C=>.inr C)
  have fy:(G.map (·.2)).take (j+1)=(G.map (·.2)).take j++[z.2]:=by
   rw[List.take_succ_eq_append_getElem (by rw[List.length_map];exact lj),List.getElem_map,hz]
  have gj:z.2.1 ∉ ((G.map (·.2)).take j).map (·.1):=by
   have J:=dk.lt;rw[<-aa,<-List.take_append_drop (j+1) (G.map (·.2)),fy,List.map_append,List.map_append]at J
   intro hm;have h2:=(List.pairwise_append.1 (List.pairwise_append.1 J).1).2.2 _ hm z.2.1 (by simp);rw[Yt]at h2;omega
  refine ρ ?_;refine Xq (j+1) (mc+1) (upL fm (.string (idn z.2.1)) (some (.slice YA (Jq z.2.2.sum).length yc))) sO ⟨lj,O.trans bm,fo,om,λk=>?_⟩ om;rw[fy,Qct _ _ _ gj];by_cases e:z.2.1=k
  .rw[if_pos e,<-e,Kz (KS.key (Ga a6))];exact .inr ⟨_,rfl,Qcr dk dz,g8⟩
  rw[if_neg e,Ub (λe'=>e (Jbs (by injection e'.symm)))];rcases df k with J|⟨y,J,h2,h3⟩
  .exact .inl J
  exact .inr ⟨y,J,h2,h3.gr (bm.mono λk _ C=>.inr C)⟩
 have gs:j=G.length:=by have:=oF h;omega
 clear h;have de:(G.map (·.2)).take j=Vr d wt m (R v):=by rw[aa,gs,List.take_of_length_le];rw[<-aa,List.length_map];exact nR _
 rw[de]at df;have a9:=Jt (Jk fp (Z.trans D)) O λg eg e=>by have:=(dx g eg).2;omega
 have fb:=Jt (Jk cn (Z.trans D)) O λg eg e=>by have:=(g6 g eg).2;omega
 obtain⟨r1,r2,r3,r4,r5⟩:=Zn a9 (q:=v) om (.slice LA G.length lc);have ie:ba.length=f:=by have:=hBa.1;omega
 refine ldR (c2.at (i:=9) rfl) ?_;refine ixR v (Rd.own a9) hvf ?_;refine Xv (r1.trans (show ba[v]?=some (ba.getD v (.slice none 0 0)) by simp[List.getD,List.getElem?_eq_getElem (show v<ba.length by omega)])) r2 ?_;refine ρ ?_;obtain⟨w8,ee⟩:∃ w8,w8=w7.setCell (adr KA v) (.slice LA G.length lc):=⟨_,rfl⟩;rw[<-ee]at r3 r5 ⊢;clear ee;have ex:GrN AR w w7:=(((bj.trans (GrN.ext D)).mono λk _ C=>(.inl C:AR k∨k=mb)).trans (O.mono λk _ C=>.inr C)).mono λk C h=>h.elim id λe=>by omega
 have bl:GrN AR w7 w8:=GrN.by r5 λk C=>hAR k (.inr (.inr C))
 have f2:GrN (λk=>AR k∨k=mb) w6 w8:=(O.mono λk _ C=>.inr C).trans (bl.mono λk _ C=>.inl C);have bo:=Zg aj a9 r5 rfl;have cq:¬ AR mb:=by
  intro h';have:=hARl mb h';omega
 have cr:∀ k,(AR k∨k=mb)->k<w5.heap.size:=by
  rintro k (h'|h')
  .have:=hARl k h';have:=(bj.size);omega
  omega
 refine Jj ⟨rfl,.map (some mb),.slice LA G.length lc,⟨Qg c6 r5 λk C=>(dx k C).1,c2.grown r5 (c2.ne_own a9 rfl),Zg fb a9 r5 rfl,Zg ff a9 r5 rfl⟩,r3,ex.trans bl,
  ⟨mb,mc,fm,rfl,om,⟨fj.kept r5 (λe=>cq (hAR mb (.inr (.inr e.symm)))),cq⟩,λk=>?_⟩,
  ⟨G,LA,lc,aa.symm,rfl,gn,om,Rd.own bo,λh0 ad e=>?_,λp hp=>⟨(ak.el p hp).len,?_⟩⟩⟩
 .rcases df k with J|⟨y,J,h2,h3⟩
  .exact .inl J
  exact .inr ⟨y,J,h2,(h3.old λk C=>.inl (.inl C)).gr bl⟩
 .intro hA;have:=(an ad.block (by rw[e];simp[Value.ownBlock])).1;have:=cr _ (.inl hA);omega
 have J:BkE d (λk=>AR k∨k=mb) w6 p.1 p.2:=(ak.el p hp).old λk C=>.inl (.inl (cr k C));exact(J.gr f2).old λk C=>.inl (.inl C)
end Go.Proofs.YtgobkbeokaaplaaGreatDoor
namespace Go.Proofs.YtgobkbeokaaplaaGreatDoor
open Pl Go.Wk
variable {k n v:Nat}{g h pl:Nat->Nat}
def Qc: Nat->(Nat->Nat)->Nat
 | 0,_=>0
 | n+1,g=>Qc n g+g n
theorem Jdn(e:∀ c,c<n->g c=h c): Qc n g=Qc n h:=by
 induction n with
 | zero=>rfl
 | succ n ih=>rw[Qc,Qc,ih (λc i=>e c om),e n om]
theorem Jrf(n:Nat)(g h:Nat->Nat): Qc n (λc=>g c+h c)=Qc n g+Qc n h:=by
 induction n with
 | zero=>rfl
 | succ n ih=>rw[Qc,Qc,Qc,ih];omega
theorem Jrc(e:∀ c,c<n->g c=0): Qc n g=0:=by
 induction n with
 | zero=>rfl
 | succ n ih=>rw[Qc,ih (λc i=>e c om),e n om]
theorem Qdj(g:Nat->Nat)(hk:k<n): g k<=Qc n g:=by
 induction n with
 | zero=>omega
 | succ n ih=>
  grind [Qc]
theorem Qdh(x:Nat)(hv:v<n): Qc n (λc=>if c=v then x else 0)=x:=by
 induction n with
 | zero=>omega
 | succ n ih=>
  grind [Qc,Jrc]
theorem pw2(a b s t:Nat)(h:a*s<=b*t): (2^a)^s<=(2^b)^t:=by
 rw[<-Nat.pow_mul,<-Nat.pow_mul];exact Nat.pow_le_pow_right (by decide) h
theorem Jnd{T T':Nat->Row->Nat}{x:Row}: ∀ {l:List (Nat×List Nat)},(∀ p∈l,T p.1=T' p.1)->wtL T x l=wtL T' x l
 | [],_=>rfl
 | p::l,h=>by rw[wtL,wtL,h p mC,Jnd λq hq=>h q (List.mem_cons_of_mem _ hq)]
section
variable (n f:Nat) (kf:Nat->Nat) (pf:Nat->Int) (R:Nat->List Row) (ds:List Bool)
def lastC(v:Nat): Nat:=(bk (kf v ||| 2^v) 32).length-1
noncomputable def Kw(T:Nat->Row->Nat)(v:Nat): Row->Nat :=
 if v<n then(if v<f then Gq (Vr (ds.getD v false) (λx=>wtL T x (chK kf pf v n)) (lastC kf v) (R v)) else Uf (R v) (Zp kf v) λx=>wtL T x (chK kf pf v n)) elseλ_=>0
noncomputable def TF: Nat->Nat->Row->Nat
 | 0=>λ_ _=>0
 | s+1=>λv=>Kw n f kf pf R ds (TF s) v
noncomputable def TV(pl:Nat->Nat)(v:Nat): Row->Nat:=TF n f kf pf R ds (pl v+1) v
variable {n f:Nat} {kf:Nat->Nat} {pf:Nat->Int} {R:Nat->List Row} {ds:List Bool}
theorem Jrg{T T':Nat->Row->Nat}(h:∀ c,c<n->pf c=(v:Int)->T c=T' c): Kw n f kf pf R ds T v=Kw n f kf pf R ds T' v:=by grind [wtL,chK,kf,Jnd,Jqg,Kw]
def ChF(n:Nat)(pf:Nat->Int)(pl:Nat->Nat): Prop:=∀ c v:Nat,c<n->pf c=(v:Int)->v<n/\pl c<pl v
theorem Qyb{pl:Nat->Nat}(hch:ChF n pf pl): ∀(s s' v:Nat),v<n->pl v<s->pl v<s'->TF n f kf pf R ds s v=TF n f kf pf R ds s' v
 | 0,_,_,_,h,_=>by omega
 | s+1,0,_,_,_,h=>by omega
 | s+1,s'+1,v,hv,h1,h2=>Jrg λc hc hp=>by
  have:=(hch c v hc hp).2;exact Qyb hch s s' c hc om om
theorem Qvz(hch:ChF n pf pl)(hv:v<n): TV n f kf pf R ds pl v=Kw n f kf pf R ds (TV n f kf pf R ds pl) v :=
 Jrg λc i j=>by
  have:=(hch c v i j).2;exact Qyb hch (pl v) (pl c+1) c i om om
theorem Qvw(hv:¬ v<n)(k:Row): TV n f kf pf R ds pl v k=0:=by
 show Kw n f kf pf R ds _ v k=0;grind [Kw]
theorem Jck(hch:ChF n pf pl)(hfn:f<=n)(hv:v<f): TV n f kf pf R ds pl v=Gq (Vr (ds.getD v false) (λx=>wtL (TV n f kf pf R ds pl) x (chK kf pf v n)) (lastC kf v) (R v)):=by grind [Qvz,Kw]
theorem Jvp(hch:ChF n pf pl)(hv:v<n)(hf:f<=v): TV n f kf pf R ds pl v=Uf (R v) (Zp kf v) λx=>wtL (TV n f kf pf R ds pl) x (chK kf pf v n):=by grind [Qvz,Kw]
section
variable (n) (pf)
def stF: Nat->Nat->Nat
 | 0=>λ_=>0
 | s+1=>λv=>1+Qc n λc=>if pf c=(v:Int) then stF s c else 0
def stV(pl:Nat->Nat)(v:Nat): Nat:=stF n pf (pl v+1) v
end
theorem Jrk{pl:Nat->Nat}(hch:ChF n pf pl): ∀(s s' v:Nat),v<n->pl v<s->pl v<s'->stF n pf s v=stF n pf s' v
 | 0,_,_,_,h,_=>by omega
 | s+1,0,_,_,_,h=>by omega
 | s+1,s'+1,v,hv,h1,h2=>by
  show 1+_=1+_;congr 1
  refine Jdn λc hc=>?_;split
  .rename_i hp;have:=(hch c v hc hp).2;exact Jrk hch s s' c hc om om
  rfl
theorem Jrj(hch:ChF n pf pl)(hv:v<n): stV n pf pl v=1+Qc n λc=>if pf c=(v:Int) then stV n pf pl c else 0:=by
 show 1+_=1+_;congr 1
 refine Jdn λc i=>?_;split
 .rename_i hp;have:=(hch c v i hp).2;exact Jrk hch (pl v) (pl c+1) c i om om
 rfl
theorem Jrh{pl:Nat->Nat}(hch:ChF n pf pl)(hpf:∀ c,c<n->pf c = -1∨∃ p:Nat,pf c=p/\p<n)(hin:∀ u v,u<n->v<n->pl u=pl v->u=v)(hat:∀ i,i<n->∃ v,v<n/\pl v=i):
  ∀ i,i<=n->Qc n (λc=>if pl c<i/\(pf c = -1∨i<=pl (pf c).toNat) then stV n pf pl c else 0)=i
 | 0,_=>Jrc λc _=>if_neg om
 | i+1,hi=>by
  have ih:=Jrh hch hpf hin hat i om;obtain⟨v,hv,hpv⟩:=hat i om;have e1:Qc n (λc=>(if pl c<i+1/\(pf c = -1∨i+1<=pl (pf c).toNat) then stV n pf pl c else 0)+if pf c=(v:Int) then stV n pf pl c else 0)=Qc n (λc=>(if pl c<i/\(pf c = -1∨i<=pl (pf c).toNat) then stV n pf pl c else 0)+if c=v then stV n pf pl v else 0):=by
   refine Jdn λc hc=>?_;by_cases ec:c=v
   .subst ec;have hne:pf c≠(c:Int):=λe=>by have:=(hch c c hc e).2;omega
    rw[if_neg hne,if_pos rfl,if_neg (show¬ (pl c<i/\_) by omega)];rw[if_pos]
    .omega
    refine⟨om,?_⟩;rcases hpf c hc with h|⟨p,h,_⟩
    .exact .inl h
    have:=(hch c p hc h).2;rw[h];right;simp only[Int.toNat_natCast];omega
   rw[if_neg ec];have hnp:pl c≠i:=by grind
   by_cases ep:pf c=(v:Int)
   .have h1:=(hch c v hc ep).2;grind [Int.toNat_natCast]
   repeat grind
  rw[Jrf,Jrf,Qdh _ hv,ih,Jrj hch hv]at e1;omega
theorem Qdw(hch:ChF n pf pl)(hpf:∀ c,c<n->pf c = -1∨∃ p:Nat,pf c=p/\p<n)(hin:∀ u v,u<n->v<n->pl u=pl v->u=v)(hat:∀ i,i<n->∃ v,v<n/\pl v=i)(hpl:∀ v,v<n->pl v<n)(hv:v<n): stV n pf pl v<=n:=by
 have o:=Jrh hch hpf hin hat (pl v+1) (hpl v hv);have j:=Qdj (n:=n) (λc=>if pl c<pl v+1/\(pf c = -1∨pl v+1<=pl (pf c).toNat) then stV n pf pl c else 0) hv;rw[o]at j;have C:pl v<pl v+1/\(pf v = -1∨pl v+1<=pl (pf v).toNat):=by
  refine⟨om,?_⟩;rcases hpf v hv with h|⟨p,h,_⟩
  .exact .inl h
  have:=(hch v p hv h).2;rw[h];right;simp only[Int.toNat_natCast];omega
 grind
theorem Jnc{T:Nat->Row->Nat}{x:Row}{st:Nat->Nat}{kf:Nat->Nat}{pf:Nat->Int}{v n:Nat}(hT:∀ c,c<n->pf c=(v:Int)->∀ k,T c k<=65536^st c): ∀ k,k<=n->wtL T x (chK kf pf v k)<=65536^Qc k (λc=>if pf c=(v:Int) then st c else 0)
 | 0,_=>nR _
 | k+1,hk=>by
  have ih:=Jnc (T:=T) (x:=x) (kf:=kf) hT k om;rw[Jcc,Jkl,Qc,Nat.pow_add];refine Nat.mul_le_mul ih ?_;split
  .rename_i hp;rw[wtL,wtL,Nat.mul_one];exact hT k om hp _
  exact nR _
theorem Jpw{wt:Row->Nat}{m S:Nat}(h:∀ x,wt x<=S)(k:Row): ∀ rs:List Row,tot (Xz wt m rs k)<=rs.length*S
 | []=>by simp[Xz,tot]
 | x::rs=>by
  have ih:=Jpw (m:=m) h k rs;have e:tot (Xz wt m (x::rs) k)<=wt x+tot (Xz wt m rs k):=by
   unfold Xz;rw[List.filter_cons];split
   .rw[List.map_cons,tot];exact nR _
   omega
  grind [List.length_cons,Nat.succ_mul]
theorem Qvx{pl:Nat->Nat}(hch:ChF n pf pl)(hfn:f<=n)(hlt:∀ v,v<f->Lt [] (R v))(hl:∀ v,v<f->∀ y∈R v,y.length=lastC kf v+1)(hR:∀ v,v<n->(R v).length<=65536):
  ∀(s v:Nat),v<n->pl v<s->∀ k,TV n f kf pf R ds pl v k<=65536^stV n pf pl v
 | 0,_,_,h,_=>by omega
 | s+1,v,hv,hs,k=>by
  have hW:∀ x,wtL (TV n f kf pf R ds pl) x (chK kf pf v n)<=65536^Qc n (λc=>if pf c=(v:Int) then stV n pf pl c else 0):=λx=>
   Jnc (λc hc hp k=>Qvx hch hfn hlt hl hR s c hc (by have:=(hch c v hc hp).2;omega) k) n (nR _)
  rw[Jrj hch hv,Nat.pow_add,Nat.pow_one];by_cases hf:v<f
  .rw[Jck hch hfn hf,Jdj,(Jwv (hlt v hf) (hl v hf)).entK,Jcb];exact nL (Jpw hW k _) (nO _ (hR v hv))
  rw[Jvp hch hv om];grind [Nat.le_trans,Jsz,Nat.mul_pos,Nat.pow_pos]
theorem Jmr(hch:ChF n pf pl)(c:Nat)(hc:f<=c)(k:Row): TV n f kf pf R ds pl c k<=1:=by
 by_cases h:c<n
 .rw[Jvp hch h hc];exact Jsz
 rw[Qvw h];omega
theorem Xww(hch:ChF n pf pl)(hfn:f<=n)(hn:n<=32)(hpf:∀ c,c<n->pf c = -1∨∃ p:Nat,pf c=p/\p<n)(hin:∀ u v,u<n->v<n->pl u=pl v->u=v)(hat:∀ i,i<n->∃ v,v<n/\pl v=i)(hpl:∀ v,v<n->pl v<n)(hlt:∀ v,v<f->Lt [] (R v))(hl:∀ v,v<f->∀ y∈R v,y.length=lastC kf v+1)(hR:∀ v,v<n->(R v).length<=65536)(c:Nat)(k:Row): TV n f kf pf R ds pl c k<=4294967296^20:=by
 by_cases h:c<n
 .refine nL (Qvx hch hfn hlt hl hR (pl c+1) c h om k) ?_;have o:=Qdw hch hpf hin hat hpl h;have j:=pw2 16 32 (stV n pf pl c) 20 om;grind
 rw[Qvw h];omega
end
end Go.Proofs.YtgobkbeokaaplaaGreatDoor
