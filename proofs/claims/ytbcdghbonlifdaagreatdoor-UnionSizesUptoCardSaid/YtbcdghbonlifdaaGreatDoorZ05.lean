/- Part 5. -/
import Derived.Test.YtbcdghbonlifdaaGreatDoorZ04
import Derived.Test.YtbcdghbonlifdaaGreatDoorSh
import Derived.Lib.AppendStr
import Derived.Lib.ItoaLen
set_option linter.unusedVariables false
set_option maxRecDepth 100000
set_option maxHeartbeats 40000000
namespace Go.Wk
open Go.Lib
variable {cs xs:List Value}{d e g m n t ty:Nat}{w w':World}
theorem aps{P:Program}{tt:TT}[h:Tab P tt]{al:AL}{Q:Exit->Act->World->Prop}{ops:Array Oper}{rest:List Oper}{pos:String}{aft:Array Edge}{u base:Nat}{ku:TK}{x y:Operand}{v:Value}{s:ByteArray}(hE:ElT P t e 1 1 (.int .u8 0))(ha:w.ownsRow base e 1 v m xs)(hby:m+s.size<=140737488355328)(hbase:base<=w.heap.size)(kk:∀ v' w',w'.ownsRow base e 1 v' (m+s.size) (xs++strCells s)->w.grownBy w' v.ownBlock->WL P n ops Q rest ((d,v')::al) w')(hu:tk tt u=some ku:=by rfl)(hku:ku.desc=.string:=by rfl)(hx:ev al x=some v:=by rfl)(hy:ev al y=some (.string s):=by rfl)(hd:Nat.blt d n=true:=by rfl):
  WL P n ops Q (⟨some d,.call { callee:=.builtin .append,args:=#[x,y],argTypes:=#[t,u] },ty,pos,aft,none⟩::rest) al w:=by
 obtain⟨i,hi,Z,D,G⟩:=hE.info;obtain⟨v',w',o,O,J,k3⟩:=run_append_own_string w base t u ty e i hE.sl (Vr h.ok hu hku rfl) hi Z D G v m xs ha s (by unfold maxLen;omega) hby hbase;refine wop hd (λa C=>?_) (kk v' w' O J);simp[execOp,resolve,invoke,builtin,C.ev hx,C.ev hy,o]
theorem _root_.Go.Wk.Blk.others(h:Blk w g t cs)(ho:OthersKept e none w w')(hne:Nat.beq e t=false): Blk w' g t cs :=
 ho g _ h (by simp) (λc u o=>by injection o with _ h2 _;subst h2;simp at hne)
end Go.Wk
namespace Go.Proofs.YtbcdghbonlifdaaGreatDoor
open Go.RowKit Pl Go.Wk
attribute [local irreducible] WC WL QX WD WDB WP WN WG
variable {B B0 c i:Nat}{r:Row}{sv v:Value}{w w':World}
def Im(v:V): List UInt8:=Lib.itoa v.kind++[44]++(Lib.itoa v.num++[44])++(Lib.itoa (v.str.size:Int)++[44])++v.bytes
def idn(r:Row): List UInt8:=r.flatMap Im
structure TB(B0:Nat)(w:World): Prop where
 le:B0<=w.heap.size
 tab:Lib.TabBelow Tryz.prog B0 w "internal/strconv.uint64pow10" .u64 Lib.pow10Tab
theorem TB.below(h:TB B0 w)(hb:Below B w w')(hle:B0<=B): TB B0 w':=⟨nL h.le hb.size,h.tab.on (hb.mono hle)⟩
theorem TB.ext(h:TB B0 w)(hx:Ext w w'): TB B0 w':=h.below hx h.le
theorem TB.gr{N:Nat->Prop}(h:TB B0 w)(hg:GrN N w w')(hN:∀ k,k<B0->¬ N k): TB B0 w':=by
 have u:Below B0 w w':=⟨hg.os,hg.tape,hg.output,hg.size,λk o=>hg.block k (nM o h.le) (hN k o)⟩;exact⟨nL h.le u.size,h.tab.on u⟩
theorem EU8: ElT Tryz.prog 233 5 1 1 (.int .u8 0):=⟨Tryz.underlying233,info_parts kr,rfl,by decide⟩
theorem Jnm{l:List UInt8}{i:Int}(hT:TB B0 w)(hB0:B0<=B)(hBw:B<=w.heap.size)(h0:-9223372036854775808<=i)(h1:i<=9223372036854775807)(hlim:l.length+21<=140737488355328)(ho:w.ownsRow B 5 1 sv l.length (Bc l)): Ret Tryz.prog 145 [sv,.int .i64 i,.int .i64 10] w λu w'=>w'.ownsRow B 5 1 u (l++Lib.itoa i).length (Bc (l++Lib.itoa i))/\Below B w w'/\Lib.OthersKept 5 none w w':=by
 refine⟨⟨_,_,Tryz.func145,rfl,kr⟩,?_⟩;refine(Tryz.strconv_AppendInt_10 B l.length i h0 h1 sv (Bc l) w ho hBw hlim λw' G=>hT.tab w' (G.mono hB0)).mono ?_;rintro e w' ⟨o,rfl,J,D,C⟩;refine⟨o,rfl,?_,D,C⟩;have O:Bc (l++Lib.itoa i)=Bc l++Lib.byteCells (Lib.itoa i):=by simp[Bc,Lib.byteCells]
 grind
def Xb(v:V): Prop:=(-9223372036854775808<=v.kind/\v.kind<=9223372036854775807)/\(-9223372036854775808<=v.num/\v.num<=9223372036854775807)
theorem Jmz(z:Int)(w:World): (Instr.buildSlice 233 1 #[(0,.int .u8 z)]).run Tryz.prog w=.ok (.slice (some ⟨w.heap.size,0,none⟩) 1 1) (w.alloc (.cells [.int .u8 z].toArray 5)):=kr
theorem Qkc(h:i<r.length): idn (r.take (i+1))=idn (r.take i)++Im (r.getD i V0):=by grind [idn,Qc,V0]
theorem Xqn(h:i<r.length): (idn (r.take i)).length+(Im (r.getD i V0)).length<=(idn r).length:=by
 have e:idn r=idn (r.take (i+1))++idn (r.drop (i+1)):=by unfold idn;rw[<-List.flatMap_append,List.take_append_drop]
 grind [Qkc,List.length_append]
theorem Bc_app(a b:List UInt8): Bc (a++b)=Bc a++Bc b:=by simp[Bc]
theorem Bc_one(l:List UInt8): ∀ u∈Bc l,u.oneCell'=true:=λu o=>by
 obtain⟨c,_,rfl⟩:=List.mem_map.1 o;rfl
theorem Jnl(l:List UInt8)(c:UInt8): l.length+1=(l++[c]).length:=by simp
theorem Kf{base e sz n:Nat}{cs:List Value}(h:w.ownsRow base e sz v n cs): ∀ k,v.ownBlock=some k->base<=k:=by grind [Jy]
theorem Jzb{A:Option Addr}(hT:TB B0 w)(hR:RdR w A r)(hfit:∀ v∈r,Xb v)(hlim:(idn r).length+64<=140737488355328)(hr:r.length<=1000000):
  Ret Tryz.prog 108 [.slice A r.length c] w λu w'=>u=.string (str (idn r))/\Ext w w':=by
 refine Jz Tryz.func108 Tryz.ntmps108 rfl kr rfl ?_;refine ρ ?_;refine Jt (fun (i:Nat) (vn:Value)=>[(3,vn),(6,.slice A r.length c),(7,.int .i64 (r.length:Int)),(8,.int .i64 (i:Int))])
  (λi vn w'=>i<=r.length/\Ext w w'/\w'.ownsRow w.heap.size 5 1 vn (idn (r.take i)).length (Bc (idn (r.take i)))) (λi _=>r.length-i) 0 (.slice none 0 0) sB
  ⟨Nat.zero_le _,Ext.refl _,Zj _ _ _ _⟩ ?_
 rintro i vn w1 ⟨hi,a5,hn⟩;refine ρ ?_;refine ci (λh=>?_) (λh=>?_)
 .have li:i<r.length:=by have:=oT h;omega
  clear h;have ag:RdR w1 A r:=Rd.ext hR a5;have bp:=Xqn li;have hf:=hfit _ (getD_mem' V0 r li);refine ρ ?_;refine ixq 3 i ag li ?_;refine ρ ?_;refine lds (cs:=(r.getD i V0).cells) (λj u hu=>RdR.cell ag li hu) ?_;refine ρ ?_;refine alc (cs:=V0.cells) Yz ?_;intro w2 b b9 hb ay;refine ρ ?_;refine stb (cs':=(r.getD i V0).cells) ay ?_ (V.one _);intro w3 am br a8;have an:Ext w1 w3:=a8 w1 b9 hb;have ap:=Jk hn an;have O:=a5.trans an;have bw:w.heap.size<=b:=nL a5.size hb;have ba:=Qkc li;generalize r.getD i V0=v at *
  generalize idn (r.take i)=l0 at *
  have bb:=Jkd v;have bq:(Im v).length=(Lib.itoa v.kind).length+1+((Lib.itoa v.num).length+1)+((Lib.itoa (v.str.size:Int)).length+1)+v.bytes.length:=by simp only[Im,List.length_append,List.length_cons,List.length_nil]
  clear hn ay a8 ag;refine ρ ?_;refine ld (am.at (i:=0) rfl) ?_;refine ρ ?_;refine cl (Jnm (B:=w.heap.size) (l:=l0) (i:=v.kind) (hT.ext O) hT.le O.size hf.1.1 hf.1.2 (by grind) ap) ?_;rintro u4 w4 ⟨ae,ax,bd⟩;have a7:Ext w w4:=Below.trans O ax;have ak:=am.others bd rfl;clear ap am;refine ρ ?_;refine bsl (Jmz _) ?_;intro w5 b5 D c1 bg;refine ρ ?_;refine apb (m':=1) (news:=Bc [44]) EU8 (Jk ae D) (bg.rd (n:=1) rfl) (Bc_one _) (by unfold maxLen;grind) (by grind) (a7.trans D).size ?_;intro v6 w6 ad au bo;rw[<-Bc_app,Jnl _ 44]at ad;have J:Ext w w6:=Qg (a7.trans D) au (Kf (Jk ae D));have aj:=(ak.ext D).grown au ((ak.ext D).ne_own (Jk ae D) rfl);clear ak;refine ρ ?_;refine ld (aj.at (i:=1) rfl) ?_;refine ρ ?_;refine cl (Jnm (B:=w.heap.size) (l:=l0++Lib.itoa v.kind++[44]) (i:=v.num) (hT.ext J) hT.le J.size hf.2.1 hf.2.2 (by grind) ad) ?_;rintro u7 w7 ⟨ac,aw,bc⟩
  have a6:Ext w w7:=Below.trans J aw;have ai:=aj.others bc rfl;clear ad aj;refine ρ ?_;refine bsl (Jmz _) ?_;intro w8 b8 C bz bf;refine ρ ?_;refine apb (m':=1) (news:=Bc [44]) EU8 (Jk ac C) (bf.rd (n:=1) rfl) (Bc_one _) (by unfold maxLen;grind) (by grind) (a6.trans C).size ?_;intro v9 w9 ab ar bn;rw[<-Bc_app,Jnl _ 44]at ab;have G:Ext w w9:=Qg (a6.trans C) ar (Kf (Jk ac C));have ah:=(ai.ext C).grown ar ((ai.ext C).ne_own (Jk ac C) rfl);clear ai;refine ρ ?_;refine ld (ah.at (i:=2) rfl) ?_;refine ρ ?_;refine cl (Jnm (B:=w.heap.size) (l:=l0++Lib.itoa v.kind++[44]++Lib.itoa v.num++[44]) (i:=(v.str.size:Int)) (hT.ext G) hT.le G.size om om (by grind) ab) ?_;rintro bm b6 ⟨a3,af,ao⟩;have a1:Ext w b6:=Below.trans G af;have a4:=ah.others ao rfl;clear ab ah;refine ρ ?_;refine bsl (Jmz _) ?_;intro bj c2 o bi b2;refine ρ ?_;refine apb (m':=1) (news:=Bc [44]) EU8 (Jk a3 o) (b2.rd (n:=1) rfl) (Bc_one _) (by unfold maxLen;grind) (by grind) (a1.trans o).size ?_
  intro bl b4 a2 a9 bh;rw[<-Bc_app,Jnl _ 44]at a2;have Z:Ext w b4:=Qg (a1.trans o) a9 (Kf (Jk a3 o));have b1:=(a4.ext o).grown a9 ((a4.ext o).ne_own (Jk a3 o) rfl);clear a4;refine ρ ?_;refine ld (b1.at (i:=2) rfl) ?_;refine ρ ?_;refine aps (base:=w.heap.size) (s:=v.str) EU8 a2 (by grind) Z.size ?_;intro b7 b3 aq av;have aa:Ext w b3:=Qg Z av (Kf a2);refine ρ ?_;refine Jf (i+1) b7 sO ⟨li,aa,?_⟩ om;rw[ba];have e1:l0++Im v=l0++Lib.itoa v.kind++[44]++Lib.itoa v.num++[44]++Lib.itoa (v.str.size:Int)++[44]++v.bytes:=by simp only[Im,List.append_assoc]
  rw[e1,Bc_app,List.length_append,<-bb];exact aq
 have be:i=r.length:=by grind
 rw[be,List.take_length]at hn;obtain⟨A3,c3,rfl,bs,_⟩:=Jy hn;refine ρ ?_;refine sb (Rd.own hn) ?_;refine ρ ?_;exact Jj ⟨rfl,a5⟩
end Go.Proofs.YtbcdghbonlifdaaGreatDoor
namespace Go.Proofs.YtbcdghbonlifdaaGreatDoor
open Go.RowKit Pl Go.Wk Go.Lib
def decV(l:List UInt8): Nat:=l.foldl (λa c=>10*a+(c.toNat-48)) 0
theorem Qwh{k:Nat}(h:k<10): (UInt8.ofNat (48+k)).toNat=48+k:=by
 rw[UInt8.toNat_ofNat'];omega
theorem Xzl(u:Nat): decV (decDigits u)=u:=by
 induction u using Nat.strongRecOn with
 | ind u ih=>
  rw[decDigits];split
  repeat grind [decV,Qwh]
theorem Jmg(u:Nat): ∀ c∈decDigits u,48<=c.toNat/\c.toNat<=57:=by
 induction u using Nat.strongRecOn with
 | ind u ih=>
  rw[decDigits];split
  repeat grind [List.mem_singleton.1,Qwh,List.mem_append.1]
theorem Jxz(i:Int): ∀ c∈itoa i,c≠44:=by
 intro c o e;subst e;unfold itoa at o;split at o
 .rcases List.mem_cons.1 o with h|h
  .grind
  have:=Jmg _ _ h;grind
 have:=Jmg _ _ o;grind
theorem Jlm{i j:Int}(h:itoa i=itoa j): i=j:=by
 have key:∀(a:Nat) (l:List UInt8),decDigits a≠45::l:=λa l e=>by
  have:=Jmg a 45 (by grind);grind
 unfold itoa at h;split at h<;>split at h
 repeat grind [decV,List.cons.inj,Xzl]
theorem Jmk{a b x y:List UInt8}(ha:∀ c∈a,c≠44)(hb:∀ c∈b,c≠44)(h:a++44::x=b++44::y): a=b/\x=y:=by
 induction a generalizing b with
 | nil=>cases b with
  | nil=>simpa using h
  | cons c b=>simp only[List.nil_append,List.cons_append,List.cons.injEq]at h;exact absurd h.1.symm (hb c mC)
 | cons d a ih=>cases b with
  | nil=>simp only[List.nil_append,List.cons_append,List.cons.injEq]at h;exact absurd h.1 (ha d mC)
  | cons c b=>
   grind
theorem Jwn(v:V)(r:Row): idn (v::r)=itoa v.kind++44::(itoa v.num++44::(itoa (v.str.size:Int)++44::(v.bytes++idn r))):=by
 simp only[idn,List.flatMap_cons,Im,List.append_assoc,List.cons_append,List.nil_append]
theorem Jck: ∀ {r s:Row},idn r=idn s->r=s
 | [],[],_=>rfl
 | [],v::s,h=>by
  rw[Jwn]at h;have:=congrArg List.length h;simp[idn]at this
 | v::r,[],h=>by
  rw[Jwn]at h;have:=congrArg List.length h;simp[idn]at this
 | v::r,u::s,h=>by
  rw[Jwn,Jwn]at h;obtain⟨h1,h⟩:=Jmk (Jxz _) (Jxz _) h;obtain⟨h2,h⟩:=Jmk (Jxz _) (Jxz _) h;obtain⟨h3,h⟩:=Jmk (Jxz _) (Jxz _) h;have h3:=Jlm h3;rw[Jkd,Jkd]at h3;obtain⟨h4,h5⟩:=List.append_inj h om;have:=Jck h5;subst this;have e:v=u:=by
   obtain⟨k1,n1,s1⟩:=v;obtain⟨k2,n2,s2⟩:=u;have a1:k1=k2:=Jlm h1;have a2:n1=n2:=Jlm h2;have a3:s1=s2:=by
    apply ByteArray.ext
    exact Array.toList_inj.1 h4
   rw[a1,a2,a3]
  rw[e]
theorem Qkd: ∀ {r:Row},(∀ v∈r,Xb v/\v.bytes.length<=24)->(idn r).length<=r.length*90
 | [],_=>by simp[idn]
 | v::r,h=>by
  have ih:=Qkd (r:=r) λu hu=>h u (List.mem_cons_of_mem _ hu);obtain⟨⟨h1,h2⟩,h3⟩:=h v mC;have a1:=itoa_length_le _ h1.1 h1.2;have a2:=itoa_length_le _ h2.1 h2.2;have a3:=itoa_length_le (v.str.size:Int) om (by rw[Jkd];omega);grind [Jwn,List.length_append,List.length_cons]
open Go.RowKit Pl Go.Wk
attribute [local irreducible] WC WL QX WD WDB WP WN WG
variable {cs vars:List Nat}{cc d k s:Nat}{C D:Option Addr}{x:Row}{w:World}
theorem Jmw(v:V)(w:World): (Instr.buildSlice 46 1 #[(0,v.val)]).run Tryz.prog w=.ok (.slice (some ⟨w.heap.size,0,none⟩) 1 1) (w.alloc (.cells v.cells.toArray 118)):=kr
theorem rowC_app'(a b:Row): Jh (a++b)=Jh a++Jh b:=by simp[Jh]
theorem rowC_one''(v:V): Jh [v]=v.cells:=by simp[Jh]
theorem Qnt(h:k<cs.length): pmR (cs.take (k+1)) x=pmR (cs.take k) x++[x.getD (cs.getD k 0) V0]:=by grind [pmR,Qc]
theorem Qqd{vx:Value}(hx:RowV w vx x)(hC:Rd w 1 C cs.length (Jp (nz cs)))(hlt:∀ c∈cs,c<x.length)(hl:cs.length<=1000):
  Ret Tryz.prog 109 [vx,.slice C cs.length cc] w λu w'=>RowV w' u (pmR cs x)/\Ext w w':=by
 obtain⟨A,c,rfl,ab,aa,hR⟩:=hx;refine Jz Tryz.func109 Tryz.ntmps109 rfl kr rfl ?_;refine ρ ?_;refine mk0 EV cs.length om (by unfold maxLen;omega) ?_;intro w0 O a1 a4;refine ρ ?_;refine Jt (fun (k:Nat) (vo:Value)=>[(0,.slice A x.length c),(5,vo),(11,.slice C cs.length cc),(12,.int .i64 (cs.length:Int)),(13,.int .i64 (k:Int))])
  (λk vo w'=>k<=cs.length/\Ext w w'/\Vv w' w.heap.size vo (pmR (cs.take k) x)) (λk _=>cs.length-k) 0 (.slice O 0 cs.length) sB
  ⟨Nat.zero_le _,a1,a4⟩ ?_
 rintro k vo w1 ⟨hk,o,J⟩;refine ρ ?_;refine ci (λh=>?_) (λh=>?_)
 .have lk:k<cs.length:=by have:=oT h;omega
  clear h;have Z:RdR w1 A x:=Rd.ext hR o;have G:=hlt _ (getD_mem' 0 cs lk);refine ρ ?_;refine ix k (hC.ext o) lk ?_;refine ρ ?_;refine ld ((hC.ext o).cell (Xt lk)) ?_;refine ρ ?_;refine ixq 3 (cs.getD k 0) Z G ?_;refine ρ ?_;refine lds (cs:=(x.getD (cs.getD k 0) V0).cells) (λj u hu=>RdR.cell Z G hu) ?_;refine ρ ?_;refine bsl (Jmw _) ?_;intro w2 b D hb hB;have a2:=Qnt (x:=x) lk;have a9:(pmR (cs.take k) x).length=k:=by rw[Xj,List.length_take];omega
  refine ρ ?_;refine apb (m':=1) (news:=(x.getD (cs.getD k 0) V0).cells) EV (Jk J D) (hB.rd (n:=1) rfl) (V.one _) (by unfold maxLen;omega) om (o.trans D).size ?_;intro v3 w3 a3 a6 a8;refine ρ ?_;refine Jf (k+1) v3 sO ⟨lk,Qg (o.trans D) a6 (Kf (Jk J D)),?_⟩ om;rw[Vv,a2,List.length_append,rowC_app',rowC_one''];exact a3
 have a5:k=cs.length:=by grind
 rw[a5,List.take_length]at J;obtain⟨A3,c3,rfl,a7,_⟩:=Jy J;refine ρ ?_;refine Jj ⟨⟨A3,c3,rfl,a7,by rw[Xj];omega,Rd.own J⟩,o⟩
theorem Qwz(hD:Rd w 1 D vars.length (Jp (nz vars)))(hs:s<4294967296)(hv:∀ v∈vars,v<32)(hl:vars.length<=32):
  Ret Tryz.prog 105 [.slice D vars.length d,.int .u32 (s:Int)] w λu w'=>Zb w' w.heap.size u (Qe vars s)/\Ext w w':=by
 refine Jz Tryz.func105 Tryz.ntmps105 rfl kr rfl ?_;refine ρ ?_;refine Jt (fun (k:Nat) (vc:Value)=>[(1,.int .u32 (s:Int)),(5,vc),(8,.slice D vars.length d),(9,.int .i64 (vars.length:Int)),(10,.int .i64 (k:Int))])
  (λk vc w'=>k<=vars.length/\Ext w w'/\Zb w' w.heap.size vc (Zx vars s k)) (λk _=>vars.length-k) 0 (.slice none 0 0) sB
  ⟨Nat.zero_le _,Ext.refl _,Zj _ _ _ _⟩ ?_
 rintro k vc w1 ⟨hk,o,G⟩;refine ρ ?_;refine ci (λh=>?_) (λh=>?_)
 .have lk:k<vars.length:=by have:=oT h;omega
  clear h;have a3:(Zx vars s k).length<=k:=by
   have:=List.length_filter_le (λi=>s.testBit (vars.getD i 0)) (List.range k);rw[List.length_range]at this;exact this
  refine ρ ?_;refine ix k (hD.ext o) lk ?_;refine ρ ?_;refine ld ((hD.ext o).cell (Xt lk)) ?_;refine ρ ?_;refine Iw (s:=s) (v:=vars.getD k 0) (by grind [getD_mem',lk]) ?_;refine ρ ?_;refine ci (λh=>?_) (λh=>?_)
  .rw[Gd hs]at h;refine ρ ?_;refine bsl (bs1Int'' _) ?_;intro w2 b C hb hB;refine ρ ?_;refine apI (Jk G C) hB om (o.trans C).size ?_;intro Z w3 a1 O a2;refine ρ ?_;refine Jf (k+1) Z sO ⟨lk,Qg (o.trans C) O (Kf (Jk G C)),?_⟩ om;grind [Ks]
  rw[Gd hs]at h;refine ρ ?_;refine Jf (k+1) vc sO ⟨lk,o,?_⟩ om;grind [Ks]
 have J:k=vars.length:=by grind
 rw[J]at G;refine ρ ?_;exact Jj ⟨G,o⟩
open Go.RowKit Pl Go.Wk
variable {a b l os:List UInt32}{c i k m n x y:Nat}
theorem Jrf(c:UInt32)(h:k<l.length): val (l.set k c)+4294967296^k*(l.getD k 0).toNat=val l+4294967296^k*c.toNat:=by
 induction l generalizing k with
 | nil=>simp at h
 | cons x l ih=>
  cases k with
  | zero=>simp[val];omega
  | succ k=>
   have:=ih (k:=k) (by simpa using h);simp only[List.set_cons_succ,val,List.getD_cons_succ,Nat.pow_succ];grind
structure MulO(a b:List UInt32)(i:Nat)(os:List UInt32): Prop where
 len:os.length=a.length+b.length
 val:val os=val (a.take i)*val b
 zero:∀ k,i+b.length<=k->os.getD k 0=0
structure MulI(a b:List UInt32)(i j c:Nat)(os:List UInt32): Prop where
 len:os.length=a.length+b.length
 small:c<4294967296
 val:val os+4294967296^(i+j)*c=Pl.val (a.take i)*Pl.val b+4294967296^i*(a.getD i 0).toNat*Pl.val (b.take j)
 zero:∀ k,i+b.length<=k->os.getD k 0=0
theorem Xxb(c:UInt32)(h:k≠m): (l.set k c).getD m 0=l.getD m 0:=by grind
theorem Qqw(hx:x<4294967296)(hy:y<4294967296): x*y<=18446744065119617025:=by
 have:=Nat.mul_le_mul (show x<=4294967295 by omega) (show y<=4294967295 by omega);omega
theorem MulO.first: MulO a b 0 (List.replicate (a.length+b.length) 0):=by
 refine⟨by simp,?_,λk _=>?_⟩
 .have:∀ n,Pl.val (List.replicate n (0:UInt32))=0:=λn=>by
   induction n with
   | zero=>rfl
   | succ n ih=>rw[List.replicate_succ];simp[Pl.val,ih]
  rw[this];simp[Pl.val]
 repeat grind
theorem MulO.start(h:MulO a b i os): MulI a b i 0 0 os :=
 ⟨h.len,om,by rw[h.val];simp[Pl.val],h.zero⟩
theorem MulI.step{j s:Nat}(h:MulI a b i j c os)(hi:i<a.length)(hj:j<b.length)(hs:s=c+((a.getD i 0).toNat*(b.getD j 0).toNat+(os.getD (i+j) 0).toNat)):
  MulI a b i (j+1) (s / 4294967296) (os.set (i+j) (UInt32.ofNat s))/\s<18446744073709551616:=by
 obtain⟨h1,h2,h3,h4⟩:=h;have G:(a.getD i 0).toNat<4294967296:=(a.getD i 0).toNat_lt;have D:(b.getD j 0).toNat<4294967296:=(b.getD j 0).toNat_lt;have O:(os.getD (i+j) 0).toNat<4294967296:=(os.getD (i+j) 0).toNat_lt;have hm:=Qqw G D;have o:s<18446744073709551616:=om
 refine⟨⟨by grind,om,?_,λk hk=>by grind⟩,o⟩;have e:=Jrf (UInt32.ofNat s) (show i+j<os.length by omega);rw[UInt32.toNat_ofNat']at e;rw[Jzx];generalize hX:(a.getD i 0).toNat=X at *
 generalize hY:(b.getD j 0).toNat=Y at *
 generalize hZ:(os.getD (i+j) 0).toNat=Z at *
 generalize Pl.val (os.set (i+j) (UInt32.ofNat s))=V' at *
 generalize Pl.val os=V at *
 generalize Pl.val (b.take j)=W at *
 generalize Pl.val (a.take i)*Pl.val b=U at *
 have C:4294967296^(i+(j+1))*(s / 4294967296)=4294967296^(i+j)*(4294967296*(s / 4294967296)):=by grind
 have u:4294967296^i*X*(W+4294967296^j*Y)=4294967296^i*X*W+4294967296^(i+j)*(X*Y):=by grind
 have J:4294967296^(i+j)*(s % 2^32)+4294967296^(i+j)*(4294967296*(s / 4294967296))=4294967296^(i+j)*c+(4294967296^(i+j)*(X*Y)+4294967296^(i+j)*Z):=by
  rw[<-Nat.mul_add,<-Nat.mul_add,<-Nat.mul_add];congr 1
  omega
 rw[C,u];omega
theorem MulI.last(h:MulI a b i b.length c os)(hi:i<a.length): MulO a b (i+1) (os.set (i+b.length) (UInt32.ofNat c)):=by
 obtain⟨G,D,u,o⟩:=h;refine⟨by grind,?_,λk C=>by grind [Xxb]⟩;have e:=Jrf (UInt32.ofNat c) (show i+b.length<os.length by omega);rw[o _ (nR _),UInt32.toNat_ofNat',show c % 2^32=c by omega,show(0:UInt32).toNat=0 from rfl,Nat.mul_zero,Nat.add_zero]at e;rw[e,u,List.take_length,Jzx,Nat.add_mul]
theorem Qsl{z:Nat}(hc:c<4294967296)(hx:x<4294967296)(hy:y<4294967296)(hz:z<4294967296):
  IntKind.u64.wrap ((c:Int)+IntKind.u64.wrap (IntKind.u64.wrap (IntKind.u64.wrap (x:Int)*IntKind.u64.wrap (y:Int))+IntKind.u64.wrap (z:Int)))=((c+(x*y+z):Nat):Int):=by
 have o:=Qqw hx hy;have w:∀ n:Nat,n<18446744073709551616->IntKind.u64.wrap (n:Int)=(n:Int):=λn hn=>by rw[IntKind.wrap_u64];omega
 rw[w x om,w y om,w z om,<-Int.natCast_mul,w _ om,<-Int.natCast_add,w _ om,<-Int.natCast_add,w _ om]
theorem Jbn{v u:Value}{w:World}(hv:NatV w v n)(hu:NatV w u m)(hln:(Jq n).length<=1000)(hlm:(Jq m).length<=1000): Ret Tryz.prog 114 [v,u] w λr w'=>NatV w' r (n*m)/\Fresh w r/\Ext w w':=by
 refine Jz Tryz.func114 Tryz.ntmps114 rfl kr rfl ?_;refine ρ ?_;refine cl (Gn hv) ?_;rintro v' w' ⟨⟨A,rfl,ha⟩,rfl⟩;refine ρ ?_;refine cl (Gn hu) ?_;rintro u' G ⟨⟨B,rfl,hb⟩,rfl⟩;generalize hL:(Jq n).length=L at *
 generalize hM:(Jq m).length=M at *
 refine ρ ?_;refine mkn EN (L+M) om (by unfold maxLen;omega) ?_;intro w1 O ab ah hO;have a7:Vy w1 G.heap.size (.slice O (L+M) (L+M)) (List.replicate (L+M) 0):=by
  have e:(madeCells (Value.int .u32 0).cells ((L+M)*1)).toList=Nc (List.replicate (L+M) 0):=by rw[Nat.mul_one,<-Jnr];exact Ul _ _
  grind
 refine ρ ?_;refine Jt (fun (i:Nat) (o:List UInt32)=>[(0,.slice A L L),(1,.slice B M M),(5,.slice O (L+M) (L+M)),(20,.int .i64 (L:Int)),(21,.int .i64 (i:Int))])
  (λi o w2=>i<=L/\Ext G w2/\MulO (Jq n) (Jq m) i o/\Vy w2 G.heap.size (.slice O (L+M) (L+M)) o) (λi _=>L-i) 0 (List.replicate (L+M) 0) sB
  ⟨Nat.zero_le _,ab,by grind [MulO.first],a7⟩ ?_
 rintro i o w2 ⟨hi,a6,hI,a5⟩;refine ρ ?_;refine ci (λh=>?_) (λh=>?_)
 .have li:i<L:=by have:=oT h;omega
  clear h;refine ρ ?_;refine Xm (fun (j c:Nat) (o:List UInt32)=>[(0,.slice A L L),(1,.slice B M M),(5,.slice O (L+M) (L+M)),(6,.int .i64 (i:Int)),(7,.int .u64 (c:Int)),(20,.int .i64 (L:Int)),(21,.int .i64 (i:Int)),(25,.int .i64 (M:Int)),(26,.int .i64 (j:Int))])
   (λj c o w3=>j<=M/\Ext G w3/\MulI (Jq n) (Jq m) i j c o/\Vy w3 G.heap.size (.slice O (L+M) (L+M)) o) (λj _ _=>M-j) 0 0 o sB
   ⟨Nat.zero_le _,a6,hI.start,a5⟩ ?_
  clear hI a5;rintro j c o w3 ⟨hj,a1,hI,J⟩;have C:o.length=L+M:=by rw[hI.len,hL,hM]
  refine ρ ?_;refine ci (λh=>?_) (λh=>?_)
  .have lj:j<M:=by have:=oT h;omega
   clear h;have Z:Ext w3 w3.drew:=(Ext.refl w3).drew;have aa:=ha.ext (a1.trans Z);have a9:=hb.ext (a1.trans Z);have D:=Jk J Z;rw[C]at D;have a4:Rd w3.drew 1 O (L+M) (Nc o):=Rd.own D;refine ρ ?_;refine dr [(0,0),(0,1),(0,2),(0,3),(0,4),(0,5),(0,6),(0,7),(0,8),(0,9),(0,10),(0,11),(0,12),(0,13),(0,14),(0,15),(0,16),(0,17),(0,18),(0,19),(0,20),(0,21)] kr ?_;refine ρd ?_;refine dix i aa li ?_;refine ρd ?_;refine dld (aa.cell (Vq (show i<(Jq n).length by omega))) ?_;refine ρd ?_;refine dix j a9 lj ?_;refine ρd ?_;refine dld (a9.cell (Vq (show j<(Jq m).length by omega))) ?_;refine ρd ?_;refine dix (i+j) a4 om ?_;refine ρd ?_;refine dld (a4.cell (Vq (show i+j<o.length by omega))) ?_;refine ρd ?_;have hx:((Jq n).getD i 0).toNat<4294967296:=((Jq n).getD i 0).toNat_lt;have hy:((Jq m).getD j 0).toNat<4294967296:=((Jq m).getD j 0).toNat_lt;have hz:(o.getD (i+j) 0).toNat<4294967296:=(o.getD (i+j) 0).toNat_lt
   obtain⟨a3,ag⟩:=hI.step (s:=c+(((Jq n).getD i 0).toNat*((Jq m).getD j 0).toNat+(o.getD (i+j) 0).toNat)) om om rfl;have a8:=Qsl hI.small hx hy hz;refine ρ ?_;generalize c+(((Jq n).getD i 0).toNat*((Jq m).getD j 0).toNat+(o.getD (i+j) 0).toNat)=s at *
   refine kv 7 (u:=.int .u64 (s:Int)) (congrArg (Value.int .u64) a8) ?_;refine kv 55 (u:=.int .u32 ((UInt32.ofNat s).toNat:Int)) (congrArg (Value.int .u32) ((congrArg IntKind.u32.wrap a8).trans (Ku s))) ?_;obtain⟨s1,s2,s3,s4,s5⟩:=Za D (q:=i+j) om (.int .u32 ((UInt32.ofNat s).toNat:Int));refine ρ ?_;refine ix (i+j) a4 om ?_;refine sto (s1.trans (Vq (show i+j<o.length by omega))) s2 ?_;refine ρ ?_;refine Ye rfl rfl (by decide) rfl ?_;refine ρ ?_;refine Qp (j+1) (s / 4294967296) (o.set (i+j) (UInt32.ofNat s)) ?_ ⟨lj,(a1.trans Z).setCell s4 _,a3,?_⟩ om
   .rw[Jfp];exact sB
   rw[Vy,List.length_set,C,<-Jvt];exact s3
  have ae:j=M:=by grind
  subst ae;clear h;have ac:MulI (Jq n) (Jq m) i (Jq m).length c o:=by rw[hM];exact hI
  have hl:=ac.last (show i<(Jq n).length by omega);have D:=J;rw[Vy,C]at D;obtain⟨s1,s2,s3,s4,s5⟩:=Za D (q:=i+j) om (.int .u32 ((UInt32.ofNat c).toNat:Int));refine ρ ?_;refine ix (i+j) (Rd.own D) om ?_;rw[Ku];refine sto (s1.trans (Vq (show i+j<o.length by omega))) s2 ?_;refine ρ ?_;rw[hM]at hl;refine Jf (i+1) (o.set (i+j) (UInt32.ofNat c)) sO ⟨li,a1.setCell s4 _,hl,?_⟩ om;rw[Vy,List.length_set,C,<-Jvt];exact s3
 have af:i=L:=by grind
 have C:o.length=L+M:=by rw[hI.len,hL,hM]
 have a2:=hI.val;rw[af,List.take_of_length_le om,Yw,Yw]at a2;have J:=a5;rw[Vy,C]at J;have hr:=Rd.own J;refine ρ ?_;rw[<-C]at hr ⊢;refine cl (Jkb hr (nR _) om) ?_;rintro t w4 ⟨rfl,rfl⟩;have:=Jyn hr om;rw[a2]at this ⊢;refine ρ ?_;exact Jj ⟨this,λad _ _ e=>hO ad (by injection e),a6⟩
open Go.RowKit Pl Go.Wk
variable {l os:List UInt32}{c k n:Nat}
theorem Qtm(h0:n≠0)(h:n<4294967296): Jq n=[UInt32.ofNat n]:=by grind [Jbs,limbs_0]
theorem Xkv{A:Option Addr}{cs:List Value}{w:World}(hr:Rd w 1 A n cs)(h1:∀ u∈cs,u.oneCell'=true)(hb:n*4<=140737488355328):
  Ret Tryz.prog 52 [.slice A n c] w λv w'=>w'.ownsRow w.heap.size 54 1 v n cs/\Ext w w':=by
 refine Jz Tryz.func52 Tryz.ntmps52 rfl kr rfl ?_;refine ρ ?_;refine Kw ?_;refine ρ ?_;refine ci (λh=>?_) (λh=>?_)
 .have Z:A=none:=by simpa using h
  subst Z;have hn:n=0:=by
   rcases Nat.eq_zero_or_pos n with h0|h0
   .exact h0
   obtain⟨ad,h2,_⟩:=hr.isome h0 om;cases h2
  subst hn;have J:cs=[]:=List.eq_nil_of_length_eq_zero (by rw[hr.len]);subst J;refine ρ ?_;exact Jj ⟨Zj _ _ _ _,Ext.refl w⟩
 refine ρ ?_;refine bsl Qym ?_;intro w1 b o O G;refine ρ ?_;refine apo o EN (G.own (n:=0) O rfl (Nat.zero_le _)) (hr.ext o) h1 (by unfold maxLen;omega) om ?_;intro v2 w2 C D _ _;refine ρ ?_;rw[Nat.zero_add,List.nil_append]at C;exact Jj ⟨C,D⟩
theorem Jrg(h:k<l.length): val (l.drop k)=(l.getD k 0).toNat+4294967296*val (l.drop (k+1)):=by grind [List.drop_eq_getElem_cons,val,List.getD,List.getElem?_eq_getElem]
structure DivI(l:List UInt32)(d k r:Nat)(os:List UInt32): Prop where
 len:os.length=l.length
 lt:r<d
 old:∀ j,j<k->os.getD j 0=l.getD j 0
 val:val (l.drop k)=Pl.val (os.drop k)*d+r
theorem DivI.step{d r s:Nat}(h:DivI l d (k+1) r os)(hk:k<l.length)(hd:d<4294967296)(hs:s=r*4294967296+(l.getD k 0).toNat): DivI l d k (s % d) (os.set k (UInt32.ofNat (s / d)))/\s<18446744073709551616:=by
 obtain⟨h1,h2,Z,u⟩:=h;have G:(l.getD k 0).toNat<4294967296:=(l.getD k 0).toNat_lt;have o:s<4294967296*d:=by rw[hs];omega
 have J:s / d<4294967296:=Nat.div_lt_of_lt_mul (by grind);refine⟨⟨by grind,Nat.mod_lt _ om,λj O=>by grind,?_⟩,om⟩;rw[Jrg hk,Jrg (l:=os.set k (UInt32.ofNat (s / d))) (k:=k) (by grind),u];have D:(os.set k (UInt32.ofNat (s / d))).getD k 0=UInt32.ofNat (s / d):=by grind
 have C:(os.set k (UInt32.ofNat (s / d))).drop (k+1)=os.drop (k+1):=List.drop_set_of_lt om;rw[D,C,UInt32.toNat_ofNat',Nat.mod_eq_of_lt (show s / d<2^32 by omega)];grind [Nat.div_add_mod,Nat.mul_add,Nat.add_mul,Nat.mul_assoc,Nat.mul_comm]
end Go.Proofs.YtbcdghbonlifdaaGreatDoor
namespace Go.Wk
variable {d n t ty:Nat}
theorem dbx{P:Program}{al:AL}{w:World}{Q:Exit->Act->World->Prop}{ops:Array Oper}{drest:List (Nat×Oper)}{pos:String}{aft:Array Edge}{x:Operand}{v:Value}{cs:List Value}(kk:∀ w1 b,Ext w w1->w.heap.size<=b->Blk w1 b t cs->WD P n ops Q drest ((d,.pointer (some ⟨b,0,none⟩))::al) w1)(hx:ev al x=some v:=by rfl)(hv:v.cells=cs.toArray:=by rfl)(hd:Nat.blt d n=true:=by rfl): WD P n ops Q ((1,⟨some d,.box t x,ty,pos,aft,none⟩)::drest) al w :=
 by grind [Jqk,bx,Jc,Jqj]
end Go.Wk
namespace Go.Proofs.YtbcdghbonlifdaaGreatDoor
open Go.RowKit Pl Go.Wk
attribute [local irreducible] WC WL QX WD WDB WP WN WG
variable {c m n:Nat}{N N':Nat->Prop}{l r t:Tr}{pl pr u v wt:Value}{w w':World}
theorem Qxq(h:0<(Jq n).length): n≠0:=by grind [limbs_0]
def NatX(N:Nat->Prop)(w:World)(v:Value)(n:Nat): Prop:=NatV w v n/\(n≠0->∀ ad m c,v=.slice (some ad) m c->¬ N ad.block)
theorem NatX.ext{N:Nat->Prop}{w w':World}{v:Value}{n:Nat}(h:NatX N w v n)(hx:Ext w w'): NatX N w' v n:=⟨h.1.ext hx,h.2⟩
theorem NatX.gr(h:NatX N w v n)(hg:GrN N w w'): NatX N w' v n:=by
 obtain⟨⟨A,c,rfl,D,C,u⟩,o⟩:=h;exact⟨⟨A,c,rfl,D,C,Vc u hg (λh0 G e=>o (Qxq (by grind [Qcj])) G _ _ (by rw[e]))⟩,o⟩
theorem NatX.nil{N:Nat->Prop}(w:World): NatX N w (.slice none 0 0) 0:=⟨NatV.nil w,λ_ o m c e=>by cases e⟩
theorem limbs_pos'(h:n≠0): 0<(Jq n).length:=by rw[Jbs h];simp
theorem NatX.old(h:NatX N w v n)(hs:∀ k,N' k->N k∨w.heap.size<=k): NatX N' w v n:=⟨h.1,λh0 u m c e o=>by
 rcases hs _ o with h1|h1
 .exact h.2 h0 u m c e h1
 obtain⟨A,G,D,_,_,C⟩:=h.1;grind [Rd.isome,limbs_pos']⟩
theorem Fresh.x(h:Fresh w v)(hn:NatV w' v n)(hN:∀ k,N k->k<w.heap.size): NatX N w' v n :=
 ⟨hn,λ_ u m c e o=>by have:=h u m c e;have:=hN _ o;omega⟩
def TrV(N:Nat->Prop)(w:World): Tr->Value->Prop
 | .nil,u=>u=.pointer none
 | .node l v x r,u=>∃ b wt pl pr st,u=.pointer (some ⟨b,0,none⟩)/\(Blk w b 199 (v.cells++[wt,pl,pr,.int .i64 ((Tr.node l v x r).ht:Int),.int .i64 ((Tr.node l v x r).sz:Int),st])/\¬ N b)/\NatX N w wt x/\NatX N w st (Tr.node l v x r).sum/\TrV N w l pl/\TrV N w r pr
theorem TrV.gr{N:Nat->Prop}{w w':World}: ∀ {t:Tr} {u:Value},TrV N w t u->GrN N w w'->TrV N w' t u
 | .nil,u,h,_=>h
 | .node l v x r,u,h,hx=>by
  obtain⟨b,wt,pl,pr,st,h1,⟨h2,h2'⟩,h3,h4,h5,h6⟩:=h;exact⟨b,wt,pl,pr,st,h1,⟨Jv h2 hx h2',h2'⟩,h3.gr hx,h4.gr hx,h5.gr hx,h6.gr hx⟩
theorem TrV.ext{N:Nat->Prop}{w w':World}{t:Tr}{u:Value}(h:TrV N w t u)(hx:Ext w w'): TrV N w' t u:=h.gr (GrN.ext hx)
theorem TrV.old{N N':Nat->Prop}{w:World}(hs:∀ k,N' k->N k∨w.heap.size<=k): ∀ {t:Tr} {u:Value},TrV N w t u->TrV N' w t u
 | .nil,u,h=>h
 | .node l v x r,u,h=>by
  obtain⟨b,wt,pl,pr,st,h1,⟨h2,h2'⟩,h3,h4,h5,h6⟩:=h;exact⟨b,wt,pl,pr,st,h1,⟨h2,λhk=>(hs _ hk).elim h2' (λh=>by have:=h2.lt;omega)⟩,h3.old hs,h4.old hs,h5.old hs,h6.old hs⟩
theorem TrV.ptr(h:TrV N w t u): ∃ p,u=.pointer p:=by
 cases t with
 | nil=>exact⟨none,h⟩
 | node l v x r=>obtain⟨b,_,_,_,_,o,_⟩:=h;exact⟨_,o⟩
theorem Jkx(hv:NatV w v n)(hs:(Jq n).length<=1000): Ret Tryz.prog 75 [v] w λr w'=>NatV w' r n/\Fresh w r/\Ext w w':=by
 refine Jz Tryz.func75 Tryz.ntmps75 rfl kr rfl ?_;refine ρ ?_;refine cl (Gn hv) ?_;rintro u w' ⟨⟨A,rfl,J⟩,rfl⟩;refine ρ ?_;refine cl (Xkv J (Qch _) om) ?_;rintro u w1 ⟨o,C⟩;obtain⟨A',O,rfl,G,D⟩:=Jy o;refine ρ ?_;refine Jj ⟨⟨A',O,rfl,G,om,Rd.own o⟩,λZ m c e=>?_,C⟩;injection e with e1 e2 e3
 subst e1;exact(D Z.block rfl).1
theorem Qbh: ∃ k:Nat,k=900:=⟨_,rfl⟩
noncomputable def bK: Nat:=Classical.choose Qbh
theorem Jnh: bK=900:=Classical.choose_spec Qbh
def Nb(n:Nat): Prop:=n<4294967296^bK
theorem Nb.len(h:Nb n): (Jq n).length<=1000:=by
 rcases Nat.eq_zero_or_pos n with h0|h0
 .rw[h0,limbs_0];simp
 have o:=Jht (n:=n) om;rcases Nat.lt_or_ge bK ((Jq n).length-1) with h2|h2
 .exact absurd (nM h (nL (Nat.pow_le_pow_right (by decide) (Nat.le_of_lt h2)) o)) (Nat.lt_irrefl _)
 rw[Jnh]at h2;omega
theorem Nb.le(h:Nb n)(hm:m<=n): Nb m:=Nat.lt_of_le_of_lt hm h
theorem Ip(h:TrV N w t u): Ret Tryz.prog 78 [u] w λr w'=>r=.int .i64 (t.ht:Int)/\w'=w:=by
 refine Jz Tryz.func78 Tryz.ntmps78 rfl kr rfl ?_;cases t with
 | nil=>
  obtain rfl:u=.pointer none:=h;refine ρ ?_;refine pnl ?_;refine ρ ?_;exact Jj ⟨rfl,rfl⟩
 | node l v x r=>
  obtain⟨b,C,G,D,st,rfl,⟨o,_⟩,h3,Z,O,J⟩:=h;refine ρ ?_;refine pnl ?_;refine ρ ?_;refine ld (o.at (i:=6) rfl) ?_;refine ρ ?_;exact Jj ⟨rfl,rfl⟩
theorem Jyt(h:TrV N w t u): Ret Tryz.prog 79 [u] w λr w'=>r=.int .i64 (t.sz:Int)/\w'=w:=by
 refine Jz Tryz.func79 Tryz.ntmps79 rfl kr rfl ?_;cases t with
 | nil=>
  obtain rfl:u=.pointer none:=h;refine ρ ?_;refine pnl ?_;refine ρ ?_;exact Jj ⟨rfl,rfl⟩
 | node l v x r=>
  obtain⟨b,C,G,D,st,rfl,⟨o,_⟩,h3,Z,O,J⟩:=h;refine ρ ?_;refine pnl ?_;refine ρ ?_;refine ld (o.at (i:=7) rfl) ?_;refine ρ ?_;exact Jj ⟨rfl,rfl⟩
theorem Jyp(h:TrV N w t u): Ret Tryz.prog 148 [u] w λr w'=>NatX N w r t.sum/\w'=w:=by
 refine Jz Tryz.func148 Tryz.ntmps148 rfl kr rfl ?_;cases t with
 | nil=>
  obtain rfl:u=.pointer none:=h;refine ρ ?_;refine pnl ?_;refine ρ ?_;exact Jj ⟨NatX.nil _,rfl⟩
 | node l v x r=>
  obtain⟨b,D,J,G,st,rfl,⟨C,_⟩,h3,o,Z,O⟩:=h;refine ρ ?_;refine pnl ?_;refine ρ ?_;refine ld (C.at (i:=8) rfl) ?_;refine ρ ?_;exact Jj ⟨o,rfl⟩
structure NatsV(w:World)(A:Option Addr)(us:List Value)(ns:List Nat): Prop where
 rd:Rd w 1 A us.length us
 len:us.length=ns.length
 nat:∀ i,i<ns.length->NatV w (us.getD i (.int .i64 0)) (ns.getD i 0)
theorem Qsg{A:Option Addr}{us:List Value}{ns:List Nat}(h:NatsV w A us ns)(hN:Nb (ns.foldl (· + ·) 0))(hl:ns.length<=1000)(hsub:∀ i,i<=ns.length->Nb ((ns.take i).foldl (· + ·) 0))(hone:∀ x∈ns,Nb x):
  Ret Tryz.prog 197 [.slice A us.length c] w λr w'=>NatV w' r (ns.foldl (· + ·) 0)/\Fresh w r/\Ext w w':=by
 have a1:=h.len;refine Jz Tryz.func197 Tryz.ntmps197 rfl kr rfl ?_;refine ρ ?_;refine Jt (fun (i:Nat) (vs:Value)=>[(0,.slice A us.length c),(3,vs),(6,.int .i64 (us.length:Int)),(7,.int .i64 (i:Int))])
  (λi vs w'=>i<=ns.length/\Ext w w'/\NatV w' vs ((ns.take i).foldl (· + ·) 0)/\Fresh w vs) (λi _=>ns.length-i) 0 (.slice none 0 0) sB
  ⟨Nat.zero_le _,Ext.refl _,NatV.nil _,λad m c e=>by cases e⟩ ?_
 rintro i vs w1 ⟨hi,o,hs,G⟩;refine ρ ?_;refine ci (λO=>?_) (λO=>?_)
 .have Z:i<ns.length:=by have:=oT O;omega
  clear O;refine ρ ?_;refine ix i (h.rd.ext o) om ?_;have u:us[i]?=some (us.getD i (.int .i64 0)):=by grind
  refine ρ ?_;refine ld ((h.rd.ext o).cell u) ?_;refine ρ ?_;refine cl (Jjt hs ((h.nat i Z).ext o) (hsub i hi).len (hone _ (by grind)).len) ?_;rintro r w2 ⟨hr,J,C⟩;refine ρ ?_;refine Jf (i+1) r sO ⟨Z,o.trans C,?_,λad m c e=>nL o.size (J ad m c e)⟩ om;grind [Qc]
 have D:i=ns.length:=by grind
 rw[D,List.take_length]at hs;refine ρ ?_;exact Jj ⟨hs,G,o⟩
theorem Xvd(v:V)(wt st:Value)(A1 A2:Option Addr)(n1 n2 c1 c2:Nat)(pl pr:Option Addr)(y z:Int)(h1:wt=.slice A1 n1 c1)(h2:st=.slice A2 n2 c2)(w:World): (Instr.build 199 #[(0,.agg (v.cells++[wt]).toArray),(1,.pointer pl),(2,.pointer pr),(3,.int .i64 y),(4,.int .i64 z),(5,st)]).run Tryz.prog w=.ok (.agg (v.cells++[wt,.pointer pl,.pointer pr,.int .i64 y,.int .i64 z,st]).toArray) w:=by
 subst h1;subst h2;kernel_rfl
theorem Xwg(v1 v2 v3:Value)(A1 A2 A3:Option Addr)(n1 n2 n3 c1 c2 c3:Nat)(h1:v1=.slice A1 n1 c1)(h2:v2=.slice A2 n2 c2)(h3:v3=.slice A3 n3 c3)(w:World): (Instr.buildSlice 309 3 #[(0,v1),(1,v2),(2,v3)]).run Tryz.prog w=.ok (.slice (some ⟨w.heap.size,0,none⟩) 3 3) (w.alloc (.cells [v1,v2,v3].toArray 31)):=by
 subst h1;subst h2;subst h3;kernel_rfl
theorem Uk{v:V}{x:Nat}(hl:TrV N w l pl)(hr:TrV N w r pr)(hw:NatX N w wt x)(hN:∀ k,N k->k<w.heap.size)(hb:Nb (Tr.node l v x r).sum)(hs:(Tr.node l v x r).sz<=1000000):
  Ret Tryz.prog 170 [pl,.agg (v.cells++[wt]).toArray,pr] w λu w'=>TrV N w' (.node l v x r) u/\Ext w w':=by
 obtain⟨ql,rfl⟩:=hl.ptr;obtain⟨qr,rfl⟩:=hr.ptr;refine Jz Tryz.func170 Tryz.ntmps170 rfl kr rfl ?_;refine ρ ?_;refine bx (cs:=v.cells++[wt]) ?_;intro w1 b a9 aj hB;refine ρ ?_;have a1:Ext w1 w1.drew:=(Ext.refl w1).drew;have C:=a9.trans a1;have a7:=hB.ext a1;have J:=hl.ext C;have G:=hr.ext C;have Z:=hw.ext C;have ag:=Tr.ht_le l;have af:=Tr.ht_le r;simp only[Tr.sz]at hs;refine dr [(0,0),(0,1),(0,2),(0,3),(0,5),(0,9),(0,12),(0,15),(0,17),(0,18),(0,19),(1,4),(1,6),(0,7),(0,8),(1,10),(0,11),(1,13),(0,14),(1,16),(1,20),(1,21),(1,22),(0,23),(1,24),(0,25)] kr ?_;refine ρd ?_;refine Jo (cs:=v.cells++[wt]) (λj u hu=>a7.at hu) ?_;refine ρd ?_;refine dld (a7.at (i:=3) rfl) ?_;refine ρd ?_;refine dcl (Ip J) ?_;rintro u2 w2 ⟨rfl,rfl⟩;refine⟨Ext.refl _,?_⟩;refine ρd ?_;refine dcl (Ip G) ?_;rintro u2 w2 ⟨rfl,rfl⟩;refine⟨Ext.refl _,?_⟩;refine ρd ?_;refine dcl (Jyt J) ?_
 rintro u2 w2 ⟨rfl,rfl⟩;refine⟨Ext.refl _,?_⟩;refine ρd ?_;refine dcl (Jyt G) ?_;rintro u2 w2 ⟨rfl,rfl⟩;refine⟨Ext.refl _,?_⟩;refine ρd ?_;refine dcl (Jyp J) ?_;rintro ul w2 ⟨a4,rfl⟩;refine⟨Ext.refl _,?_⟩;refine ρd ?_;refine dcl (Jyp G) ?_;rintro ur w2 ⟨a3,rfl⟩;refine⟨Ext.refl _,?_⟩;obtain⟨A1,c1,e1,_⟩:=id a4.1;obtain⟨A2,c2,e2,_⟩:=id Z.1;obtain⟨A3,c3,e3,_⟩:=id a3.1;refine ρd ?_;refine dbsl (Xwg _ _ _ _ _ _ _ _ _ _ _ _ e1 e2 e3) ?_;intro w3 b3 D ai ae;have ab:NatsV w3 (some ⟨b3,0,none⟩) [ul,wt,ur] [l.sum,x,r.sum]:=by
  refine⟨ae.rd (n:=3) rfl,rfl,λi hi=>?_⟩;match i,hi with
  | 0,_=>exact a4.1.ext D
  | 1,_=>exact Z.1.ext D
  | 2,_=>exact a3.1.ext D
 simp only[Tr.sum]at hb;refine ρd ?_;refine dcl (Qsg (us:=[ul,wt,ur]) ab (hb.le (by simp)) (by simp) (λi hi=>hb.le ?_) (λy hy=>hb.le ?_)) ?_
 .match i,hi with
  | 0,_=>simp
  | 1,_=>simp;omega
  | 2,_=>simp
  | 3,_=>simp
 .grind
 rintro st w4 ⟨a6,ad,O⟩;refine⟨O,?_⟩;obtain⟨A4,c4,e4,_⟩:=id a6;refine ρd ?_;refine dbld (Xvd v wt st A2 A4 _ _ _ _ ql qr _ _ e2 e4) ?_;refine ρd ?_;refine dbx (cs:=v.cells++[wt,.pointer ql,.pointer qr,.int .i64 _,.int .i64 _,st]) ?_;intro w5 b5 a2 ah a8;refine ρd ?_;refine ρ ?_;have e5:(if(l.ht:Int)<(r.ht:Int) then(r.ht:Int) else(l.ht:Int))+1=((Tr.node l v x r).ht:Int):=by simp only[Tr.ht];split<;>omega
 have e6:(l.sz:Int)+1+r.sz=((Tr.node l v x r).sz:Int):=by simp only[Tr.sz];omega
 rw[e5,e6]at a8;have o:=(D.trans O).trans a2;have aa:=nL C.size D.size;have a5:NatX N w5 st (Tr.node l v x r).sum:=by
  have:=a6.ext a2;simp only[List.foldl_cons,List.foldl_nil,Nat.zero_add]at this;exact ad.x this λk hk=>nM (hN k hk) aa
 have ac:¬ N b5:=λhk=>by have:=hN _ hk;have:=O.size;omega
 exact Jj ⟨⟨b5,wt,_,_,st,rfl,⟨a8,ac⟩,Z.ext o,a5,J.ext o,G.ext o⟩,C.trans o⟩
end Go.Proofs.YtbcdghbonlifdaaGreatDoor
namespace Go.Wk
theorem _root_.Go.Wk.Blk.pre{w:World}{b t:Nat}{cs ds:List Value}(h:Blk w b t (cs++ds))(j:Nat)(u:Value)(hu:cs[j]?=some u): w.cell? ((⟨b,0,none⟩:Addr).add j)=some u :=
 h.at (by grind)
end Go.Wk
namespace Go.Proofs.YtbcdghbonlifdaaGreatDoor
open Go.RowKit Pl Go.Wk
attribute [local irreducible] WC WL QX WD WDB WP WN WG
theorem Qyz{N:Nat->Prop}{w:World}{l r:Tr}{pl pr wt:Value}{v:V}{x:Nat}(hl:TrV N w l pl)(hr:TrV N w r pr)(hw:NatX N w wt x)(hN:∀ k,N k->k<w.heap.size)(hb:Nb (Tr.node l v x r).sum)(hs:(Tr.node l v x r).sz<=1000000):
  Ret Tryz.prog 171 [pl,.agg (v.cells++[wt]).toArray,pr] w λu w'=>TrV N w' (Tr.bal l v x r) u/\Ext w w':=by
 obtain⟨ql,rfl⟩:=hl.ptr;obtain⟨qr,rfl⟩:=hr.ptr;have be:=Tr.ht_le l;have bd:=Tr.ht_le r;have ai:l.sz+1+r.sz<=1000000:=hs;have Z:Nb (l.sum+x+r.sum):=hb;refine Jz Tryz.func171 Tryz.ntmps171 rfl kr rfl ?_;refine ρ ?_;refine bx (cs:=v.cells++[wt]) ?_;intro w1 b G bf hB;have ad:=hl.ext G;have aa:=hr.ext G;have a9:=hw.ext G;refine ρ ?_;refine cl (Ip ad) ?_;rintro u2 w2 ⟨rfl,rfl⟩;refine ρ ?_;refine cl (Ip aa) ?_;rintro u2 w2 ⟨rfl,rfl⟩;have a7:Ext w2 w2.drew:=(Ext.refl w2).drew;refine ρ ?_;by_cases hc:r.ht+1<l.ht
 .cases l with
  | nil=>simp[Tr.ht]at hc
  | node ll lv lx lr=>
   obtain⟨bl,wl,ba,b9,sl,e1,⟨ah,b5⟩,au,bc,an,am⟩:=id ad;obtain rfl:ql=some ⟨bl,0,none⟩:=by injection e1
   obtain⟨b6,rfl⟩:=an.ptr;obtain⟨aq,rfl⟩:=am.ptr;simp only[Tr.sum,Tr.sz]at Z ai;have af:decide ((r.ht:Int)+1<((Tr.node ll lv lx lr).ht:Int))=true:=decide_eq_true om;refine dr [(0,0),(0,1),(0,2),(0,3),(0,4),(0,5),(0,6),(0,7),(0,8),(0,10),(0,11),(0,12),(0,13),(1,9),(1,14),(0,15),(0,16),(0,17)] kr ?_;refine ρd ?_;refine dkt 20 af ?_;refine ρd ?_;refine dld ((ah.ext a7).at (i:=4) rfl) ?_;refine ρd ?_;refine dld ((ah.ext a7).at (i:=5) rfl) ?_;refine ρd ?_;refine dcl (Ip (an.ext a7)) ?_;rintro u3 w3 ⟨rfl,rfl⟩;refine⟨Ext.refl _,?_⟩;refine ρd ?_;refine dcl (Ip (am.ext a7)) ?_;rintro u3 w3 ⟨rfl,rfl⟩;refine⟨Ext.refl _,?_⟩;refine ρd ?_;refine ρ ?_;refine ci (λJ=>?_) (λJ=>?_)
   .have J:lr.ht<=ll.ht:=by have:=oT J;omega
    have o:Ext w2 w2.drew.drew:=a7.drew;have a6:=ah.ext o;refine ρ ?_;refine dr [(0,0),(0,1),(0,2),(0,3),(0,4),(0,5),(0,6),(0,7),(0,8),(0,9),(0,10),(0,11),(0,12),(0,13),(1,14),(1,15),(0,16)] kr ?_;refine ρd ?_;refine dld (a6.at (i:=4) rfl) ?_;refine ρd ?_;refine Jo (cs:=lv.cells++[wl]) (Blk.pre (cs:=lv.cells++[wl]) a6) ?_;refine ρd ?_;refine dld (a6.at (i:=5) rfl) ?_;refine ρd ?_;refine Jo (cs:=v.cells++[wt]) (λj u hu=>(hB.ext o).at hu) ?_;refine ρd ?_;refine dcl (Uk (am.ext o) (aa.ext o) (a9.ext o) (λk O=>nM (hN k O) (G.trans o).size) (Z.le (by simp only[Tr.sum];omega)) (by simp only[Tr.sz];omega)) ?_;rintro uj w4 ⟨hj,a2⟩;refine⟨a2,?_⟩;have C:=o.trans a2;refine ρd ?_;refine dcl (Uk (an.ext C) hj (au.ext C) (λk O=>nM (hN k O) (G.trans C).size) (Z.le (by simp only[Tr.sum];omega)) (by simp only[Tr.sz];omega)) ?_;rintro uk w5 ⟨O,a1⟩
    refine⟨a1,?_⟩;refine ρd ?_;refine ρ ?_;refine Jj ⟨?_,(G.trans C).trans a1⟩;have e:Tr.bal (.node ll lv lx lr) v x r=.node ll lv lx (.node lr v x r):=by simp only[Tr.bal,if_pos hc,if_pos J]
    rw[e];exact O
   have J:ll.ht<lr.ht:=by grind
   refine ρ ?_;refine ct af ?_;cases lr with
   | nil=>simp[Tr.ht]at J
   | node ml mv mx mr=>
    obtain⟨bm,wm,b2,b1,sm,e2,⟨ap,av⟩,ao,b3,ac,ab⟩:=id am;obtain rfl:aq=some ⟨bm,0,none⟩:=by injection e2
    obtain⟨ay,rfl⟩:=ac.ptr;obtain⟨ax,rfl⟩:=ab.ptr;simp only[Tr.sum,Tr.sz]at Z ai;refine ρ ?_;refine ld ((ah.ext a7).at (i:=5) rfl) ?_;refine ρ ?_;have o:Ext w2 w2.drew.drew:=a7.drew;have a6:=ah.ext o;have a4:=ap.ext o;refine dr [(0,0),(0,1),(0,2),(0,3),(0,4),(0,5),(0,6),(0,7),(0,8),(0,9),(0,10),(0,11),(0,13),(0,14),(0,15),(0,16),(0,17),(0,18),(0,19),(0,20),(0,21),(0,22),(1,12),(1,23),(1,24),(0,25)] kr ?_;refine ρd ?_;refine dld (a6.at (i:=4) rfl) ?_;refine ρd ?_;refine Jo (cs:=lv.cells++[wl]) (Blk.pre (cs:=lv.cells++[wl]) a6) ?_;refine ρd ?_;refine dld (a4.at (i:=4) rfl) ?_;refine ρd ?_;refine Jo (cs:=mv.cells++[wm]) (Blk.pre (cs:=mv.cells++[wm]) a4) ?_;refine ρd ?_;refine dld (a4.at (i:=5) rfl) ?_;refine ρd ?_;refine Jo (cs:=v.cells++[wt]) (λj u hu=>(hB.ext o).at hu) ?_;refine ρd ?_;refine dcl (Uk (an.ext o) (ac.ext o) (au.ext o) (λk O=>nM (hN k O) (G.trans o).size) (Z.le (by simp only[Tr.sum];omega)) (by simp only[Tr.sz];omega)) ?_
    rintro uj w4 ⟨hj,a2⟩;refine⟨a2,?_⟩;have C:=o.trans a2;refine ρd ?_;refine dcl (Uk (ab.ext C) (aa.ext C) (a9.ext C) (λk O=>nM (hN k O) (G.trans C).size) (Z.le (by simp only[Tr.sum];omega)) (by simp only[Tr.sz];omega)) ?_;rintro uk w5 ⟨O,a1⟩;refine⟨a1,?_⟩;have a3:=C.trans a1;refine ρd ?_;refine dcl (Uk (hj.ext a1) O (ao.ext a3) (λk O=>nM (hN k O) (G.trans a3).size) (Z.le (by simp only[Tr.sum];omega)) (by simp only[Tr.sz];omega)) ?_;rintro uo w6 ⟨ho,a8⟩;refine⟨a8,?_⟩;refine ρd ?_;refine ρ ?_;refine Jj ⟨?_,(G.trans a3).trans a8⟩;have e:Tr.bal (.node ll lv lx (.node ml mv mx mr)) v x r=.node (.node ll lv lx ml) mv mx (.node mr v x r):=by simp only[Tr.bal,if_pos hc,if_neg (Nat.not_le.2 J)]
    rw[e];exact ho
 refine dr [(0,0),(0,1),(0,2),(0,3),(0,4),(0,5),(0,6),(0,7),(0,8),(0,10),(0,11),(0,12),(0,13),(1,9),(1,14),(0,15),(0,16),(0,17)] kr ?_;refine ρd ?_;have af:decide ((r.ht:Int)+1<(l.ht:Int))=false:=dF om;refine dkf 20 af ?_;refine ρd ?_;refine ρ ?_;refine cf af ?_;refine ρ ?_;by_cases hd:l.ht+1<r.ht
 .cases r with
  | nil=>simp[Tr.ht]at hd
  | node rl rv rx rr=>
   obtain⟨br,wr,b8,b7,sr,e1,⟨ag,b4⟩,ar,bb,ak,aj⟩:=id aa;obtain rfl:qr=some ⟨br,0,none⟩:=by injection e1
   obtain⟨aw,rfl⟩:=ak.ptr;obtain⟨aq,rfl⟩:=aj.ptr;simp only[Tr.sum,Tr.sz]at Z ai;have o:Ext w2 w2.drew.drew:=a7.drew;have ae:decide ((l.ht:Int)+1<((Tr.node rl rv rx rr).ht:Int))=true:=decide_eq_true om;refine dr [(0,0),(0,1),(0,2),(0,3),(0,4),(0,5),(0,6),(0,7),(0,8),(0,10),(0,11),(0,12),(0,13),(1,9),(1,14),(0,15),(0,16),(0,17)] kr ?_;refine ρd ?_;refine dkt 88 ae ?_;refine ρd ?_;refine dld ((ag.ext o).at (i:=5) rfl) ?_;refine ρd ?_;refine dld ((ag.ext o).at (i:=4) rfl) ?_;refine ρd ?_;refine dcl (Ip (aj.ext o)) ?_;rintro u3 w3 ⟨rfl,rfl⟩;refine⟨Ext.refl _,?_⟩;refine ρd ?_;refine dcl (Ip (ak.ext o)) ?_;rintro u3 w3 ⟨rfl,rfl⟩;refine⟨Ext.refl _,?_⟩;refine ρd ?_;refine ρ ?_;refine ci (λJ=>?_) (λJ=>?_)
   .have J:rl.ht<=rr.ht:=by have:=oT J;omega
    have D:Ext w2 w2.drew.drew.drew:=o.drew;have a5:=ag.ext D;refine ρ ?_;refine dr [(0,0),(0,1),(0,2),(0,3),(0,4),(0,5),(0,7),(0,8),(0,9),(0,10),(0,11),(0,12),(0,13),(0,14),(1,6),(1,15),(0,16)] kr ?_;refine ρd ?_;refine Jo (cs:=v.cells++[wt]) (λj u hu=>(hB.ext D).at hu) ?_;refine ρd ?_;refine dld (a5.at (i:=4) rfl) ?_;refine ρd ?_;refine Jo (cs:=rv.cells++[wr]) (Blk.pre (cs:=rv.cells++[wr]) a5) ?_;refine ρd ?_;refine dld (a5.at (i:=5) rfl) ?_;refine ρd ?_;refine dcl (Uk (ad.ext D) (ak.ext D) (a9.ext D) (λk O=>nM (hN k O) (G.trans D).size) (Z.le (by simp only[Tr.sum];omega)) (by simp only[Tr.sz];omega)) ?_;rintro uj w4 ⟨hj,a2⟩;refine⟨a2,?_⟩;have C:=D.trans a2;refine ρd ?_;refine dcl (Uk hj (aj.ext C) (ar.ext C) (λk O=>nM (hN k O) (G.trans C).size) (Z.le (by simp only[Tr.sum];omega)) (by simp only[Tr.sz];omega)) ?_;rintro uk w5 ⟨O,a1⟩
    refine⟨a1,?_⟩;refine ρd ?_;refine ρ ?_;refine Jj ⟨?_,(G.trans C).trans a1⟩;have e:Tr.bal l v x (.node rl rv rx rr)=.node (.node l v x rl) rv rx rr:=by simp only[Tr.bal,if_neg hc,if_pos hd,if_pos J]
    rw[e];exact O
   have J:rr.ht<rl.ht:=by grind
   refine ρ ?_;refine ct ae ?_;cases rl with
   | nil=>simp[Tr.ht]at J
   | node ml mv mx mr=>
    obtain⟨bm,wm,b2,b1,sm,e2,⟨ap,av⟩,ao,b3,ac,ab⟩:=id ak;obtain rfl:aw=some ⟨bm,0,none⟩:=by injection e2
    obtain⟨ay,rfl⟩:=ac.ptr;obtain⟨ax,rfl⟩:=ab.ptr;simp only[Tr.sum,Tr.sz]at Z ai;refine ρ ?_;refine ld ((ag.ext o).at (i:=4) rfl) ?_;refine ρ ?_;have D:Ext w2 w2.drew.drew.drew:=o.drew;have a5:=ag.ext D;have a4:=ap.ext D;refine dr [(0,0),(0,1),(0,2),(0,3),(0,4),(0,5),(0,7),(0,8),(0,9),(0,10),(0,11),(0,12),(0,13),(0,14),(0,15),(0,16),(0,17),(0,18),(0,19),(0,20),(0,21),(0,22),(1,6),(1,23),(1,24),(0,25)] kr ?_;refine ρd ?_;refine Jo (cs:=v.cells++[wt]) (λj u hu=>(hB.ext D).at hu) ?_;refine ρd ?_;refine dld (a4.at (i:=4) rfl) ?_;refine ρd ?_;refine Jo (cs:=mv.cells++[wm]) (Blk.pre (cs:=mv.cells++[wm]) a4) ?_;refine ρd ?_;refine dld (a4.at (i:=5) rfl) ?_;refine ρd ?_;refine Jo (cs:=rv.cells++[wr]) (Blk.pre (cs:=rv.cells++[wr]) a5) ?_;refine ρd ?_;refine dld (a5.at (i:=5) rfl) ?_;refine ρd ?_;refine dcl (Uk (ad.ext D) (ac.ext D) (a9.ext D) (λk O=>nM (hN k O) (G.trans D).size) (Z.le (by simp only[Tr.sum];omega)) (by simp only[Tr.sz];omega)) ?_
    rintro uj w4 ⟨hj,a2⟩;refine⟨a2,?_⟩;have C:=D.trans a2;refine ρd ?_;refine dcl (Uk (ab.ext C) (aj.ext C) (ar.ext C) (λk O=>nM (hN k O) (G.trans C).size) (Z.le (by simp only[Tr.sum];omega)) (by simp only[Tr.sz];omega)) ?_;rintro uk w5 ⟨O,a1⟩;refine⟨a1,?_⟩;have a3:=C.trans a1;refine ρd ?_;refine dcl (Uk (hj.ext a1) O (ao.ext a3) (λk O=>nM (hN k O) (G.trans a3).size) (Z.le (by simp only[Tr.sum];omega)) (by simp only[Tr.sz];omega)) ?_;rintro uo w6 ⟨ho,a8⟩;refine⟨a8,?_⟩;refine ρd ?_;refine ρ ?_;refine Jj ⟨?_,(G.trans a3).trans a8⟩;have e:Tr.bal l v x (.node (.node ml mv mx mr) rv rx rr)=.node (.node l v x ml) mv mx (.node mr rv rx rr):=by simp only[Tr.bal,if_neg hc,if_pos hd,if_neg (Nat.not_le.2 J)]
    rw[e];exact ho
 refine dr [(0,0),(0,1),(0,2),(0,3),(0,4),(0,5),(0,6),(0,7),(0,8),(0,10),(0,11),(0,12),(0,13),(1,9),(1,14),(0,15),(0,16),(0,17)] kr ?_;refine ρd ?_;have ae:decide ((l.ht:Int)+1<(r.ht:Int))=false:=dF om;refine dkf 88 ae ?_;refine ρd ?_;refine ρ ?_;refine cf ae ?_;have o:Ext w2 w2.drew.drew:=a7.drew;refine ρ ?_;refine lds (cs:=v.cells++[wt]) (λj u hu=>(hB.ext o).at hu) ?_;refine ρ ?_;refine cl (Uk (ad.ext o) (aa.ext o) (a9.ext o) (λk O=>nM (hN k O) (G.trans o).size) hb hs) ?_;rintro uj w4 ⟨hj,a2⟩;refine ρ ?_;refine Jj ⟨?_,(G.trans o).trans a2⟩;have e:Tr.bal l v x r=.node l v x r:=by simp only[Tr.bal,if_neg hc,if_neg hd]
 rw[e];exact hj
open Go.RowKit Pl Go.Wk
variable {d:Bool}{x:Nat}{N:Nat->Prop}{p p0:Option Addr}{a b v:V}{wt:Value}{w:World}
theorem neg_lt: neg d (cmpV a b)=if d=true then cmpV b a else cmpV a b:=by
 unfold neg;split
 .exact(cmp_V.anti a b).symm
 rfl
theorem Qvf: Ret Tryz.prog 152 [.agg #[.bool d,.pointer p],a.val,b.val] w λu w'=>u=.int .i64 (neg d (cmpV a b))/\Ext w w':=by
 rw[neg_lt];refine Jz Tryz.func152 Tryz.ntmps152 rfl kr rfl ?_;refine ρ ?_;refine bx ?_;intro w1 b1 O a6 a3;refine ρ ?_;refine bx (cs:=a.cells) ?_;intro w2 b2 G a5 a2;refine ρ ?_;refine bx (cs:=b.cells) ?_;intro w3 b3 o a4 Z;have a1:=(a3.ext G).ext o;have C:=a2.ext o;refine ρ ?_;refine ld (a1.at (i:=0) rfl) ?_;refine ρ ?_;refine ci (λh=>?_) (λh=>?_)
 .refine ρ ?_;refine lds (cs:=b.cells) (λj u J=>Z.at J) ?_;refine ρ ?_;refine lds (cs:=a.cells) (λj u J=>C.at J) ?_;refine ρ ?_;refine cl (Jqt b a _) ?_;rintro u w4 ⟨rfl,D⟩;refine ρ ?_;refine Jj ⟨?_,((O.trans G).trans o).trans D⟩;rw[if_pos h]
 refine ρ ?_;refine lds (cs:=a.cells) (λj u J=>C.at J) ?_;refine ρ ?_;refine lds (cs:=b.cells) (λj u J=>Z.at J) ?_;refine ρ ?_;refine cl (Jqt a b _) ?_;rintro u w4 ⟨rfl,D⟩;refine ρ ?_;refine Jj ⟨?_,((O.trans G).trans o).trans D⟩;rw[if_neg (by rw[h];simp)]
theorem Qbc(l:Tr)(v:V)(x:Nat)(r:Tr): (Tr.bal l v x r).sum=l.sum+x+r.sum:=by
 have:=congrArg tot (Tr.toL_bal l v x r);rw[<-Tr.sum_eq,Jyq,tot,<-Tr.sum_eq,<-Tr.sum_eq]at this;grind
theorem Jkm(d:Bool)(v:V)(x:Nat): ∀ t:Tr,(Tr.put d v x t).sum<=t.sum+x
 | .nil=>by simp[Tr.put,Tr.sum]
 | .node l a y r=>by
  have h1:=Jkm d v x l;have h2:=Jkm d v x r;unfold Tr.put;split
  .rw[Qbc,Tr.sum];omega
  split
  .rw[Qbc,Tr.sum];omega
  rw[Tr.sum,Tr.sum];omega
theorem Qnh: ∀(t:Tr) (p:Value) (w:World),TrV N w t p->NatX N w wt x->(∀ k,N k->k<w.heap.size)->Nb (t.sum+x)->t.sz+1<=1000000 ->
  Ret Tryz.prog 147 [.agg #[.bool d,.pointer p0],p,.agg (v.cells++[wt]).toArray] w λu w'=>TrV N w' (Tr.put d v x t) u/\Ext w w':=by
 intro t;induction t with
 | nil=>
  intro p w hp hw hN hb hs;obtain rfl:p=.pointer none:=hp;refine Jz Tryz.func147 Tryz.ntmps147 rfl kr rfl ?_;refine ρ ?_;refine bx ?_;intro w1 b1 a9 ai ae;refine ρ ?_;refine bx (cs:=v.cells++[wt]) ?_;intro w2 b2 a7 ah ab;have hx:=a9.trans a7;refine ρ ?_;refine pnl ?_;refine ρ ?_;refine lds (cs:=v.cells++[wt]) (λj u O=>ab.at O) ?_;refine ρ ?_;refine cl (Uk (l:=.nil) (r:=.nil) (show TrV N w2 .nil (.pointer none) from rfl) (show TrV N w2 .nil (.pointer none) from rfl) (hw.ext hx) (λk hk=>nM (hN k hk) hx.size) (hb.le (by simp[Tr.sum])) (by simp[Tr.sz])) ?_;rintro u w3 ⟨O,J⟩;refine ρ ?_;exact Jj ⟨O,hx.trans J⟩
 | node l a y r ihl ihr=>
  intro p w hp hw hN hb hs;obtain⟨bn,wn,pl,pr,sn,rfl,⟨a8,aj⟩,ac,ak,hl,hr⟩:=id hp;obtain⟨ql,rfl⟩:=hl.ptr;obtain⟨qr,rfl⟩:=hr.ptr;simp only[Tr.sum]at hb;simp only[Tr.sz]at hs;refine Jz Tryz.func147 Tryz.ntmps147 rfl kr rfl ?_;refine ρ ?_;refine bx ?_;intro w1 b1 a9 ai ae;refine ρ ?_;refine bx (cs:=v.cells++[wt]) ?_;intro w2 b2 a7 ah ab;have hx:=a9.trans a7;refine ρ ?_;refine pnl ?_;refine ρ ?_;have a6:Ext w2 w2.drew:=(Ext.refl w2).drew;have ad:=a8.ext (hx.trans a6);have a5:=(ae.ext a7).ext a6;have a1:=ab.ext a6;refine dr [(0,0),(0,1),(0,2),(0,3),(0,4),(0,5),(0,6),(0,7),(1,8),(0,9)] kr ?_;refine ρd ?_;refine Jo (cs:=[.bool d,.pointer p0]) (λj u O=>a5.at O) ?_;refine ρd ?_;refine Jo (cs:=v.cells) (Blk.pre (cs:=v.cells) a1) ?_;refine ρd ?_;refine Jo (cs:=a.cells) (Blk.pre (cs:=a.cells) ad) ?_;refine ρd ?_;refine dcl (Qvf (a:=v) (b:=a)) ?_;rintro u w3 ⟨rfl,J⟩
  refine⟨J,?_⟩;refine ρd ?_;refine ρ ?_;have a3:=(hx.trans a6).trans J;refine ci (λhc=>?_) (λhc=>?_)
  .have hc:=oT hc;have C:Ext w3 w3.drew:=(Ext.refl w3).drew;have o:=a3.trans C;have D:=a8.ext o;refine ρ ?_;refine dr [(0,0),(0,1),(0,2),(0,3),(0,4),(0,5),(0,7),(0,8),(0,9),(0,10),(0,11),(0,12),(0,13),(0,14),(1,6),(1,15),(0,16)] kr ?_;refine ρd ?_;refine Jo (cs:=[.bool d,.pointer p0]) (λj u O=>((a5.ext J).ext C).at O) ?_;refine ρd ?_;refine dld (D.at (i:=4) rfl) ?_;refine ρd ?_;refine Jo (cs:=v.cells++[wt]) (λj u O=>((a1.ext J).ext C).at O) ?_;refine ρd ?_;refine Jo (cs:=a.cells++[wn]) (Blk.pre (cs:=a.cells++[wn]) D) ?_;refine ρd ?_;refine dld (D.at (i:=5) rfl) ?_;refine ρd ?_;refine dcl (ihl _ _ (hl.ext o) (hw.ext o) (λk hk=>nM (hN k hk) o.size) (hb.le om) om) ?_;rintro u w4 ⟨a4,G⟩;refine⟨G,?_⟩;have ag:=Tr.put_sz d v x l;have af:=Jkm d v x l;refine ρd ?_;refine dcl (Qyz a4 (hr.ext (o.trans G)) (ac.ext (o.trans G)) (λk hk=>nM (hN k hk) (o.trans G).size) (hb.le (by simp only[Tr.sum];omega)) (by simp only[Tr.sz];omega)) ?_
   rintro u w5 ⟨aa,a2⟩;refine⟨a2,?_⟩;refine ρd ?_;refine ρ ?_;refine Jj ⟨?_,(o.trans G).trans a2⟩;rw[Tr.put,if_pos hc];exact aa
  have hc:=oF hc;refine ρ ?_;refine ci (λZ=>?_) (λZ=>?_)
  .have Z:=oT Z;have C:Ext w3 w3.drew:=(Ext.refl w3).drew;have o:=a3.trans C;have D:=a8.ext o;refine ρ ?_;refine dr [(0,0),(0,1),(0,2),(0,3),(0,4),(0,5),(0,6),(0,7),(0,8),(0,9),(0,10),(0,11),(0,12),(0,13),(1,14),(1,15),(0,16)] kr ?_;refine ρd ?_;refine dld (D.at (i:=4) rfl) ?_;refine ρd ?_;refine Jo (cs:=a.cells++[wn]) (Blk.pre (cs:=a.cells++[wn]) D) ?_;refine ρd ?_;refine Jo (cs:=[.bool d,.pointer p0]) (λj u O=>((a5.ext J).ext C).at O) ?_;refine ρd ?_;refine dld (D.at (i:=5) rfl) ?_;refine ρd ?_;refine Jo (cs:=v.cells++[wt]) (λj u O=>((a1.ext J).ext C).at O) ?_;refine ρd ?_;refine dcl (ihr _ _ (hr.ext o) (hw.ext o) (λk hk=>nM (hN k hk) o.size) (hb.le om) om) ?_;rintro u w4 ⟨a4,G⟩;refine⟨G,?_⟩;have ag:=Tr.put_sz d v x r;have af:=Jkm d v x r;refine ρd ?_;refine dcl (Qyz (hl.ext (o.trans G)) a4 (ac.ext (o.trans G)) (λk hk=>nM (hN k hk) (o.trans G).size) (hb.le (by simp only[Tr.sum];omega)) (by simp only[Tr.sz];omega)) ?_
   rintro u w5 ⟨aa,a2⟩;refine⟨a2,?_⟩;refine ρd ?_;refine ρ ?_;refine Jj ⟨?_,(o.trans G).trans a2⟩;rw[Tr.put,if_neg hc,if_pos Z];exact aa
  have Z:=oF Z;have C:Ext w3 w3.drew:=(Ext.refl w3).drew;have o:=a3.trans C;have D:=a8.ext o;refine ρ ?_;refine dr [(0,0),(0,1),(0,2),(0,3),(0,4),(0,5),(0,6),(0,7),(0,8),(1,9),(0,10)] kr ?_;refine ρd ?_;refine dld (D.at (i:=4) rfl) ?_;refine ρd ?_;refine Jo (cs:=v.cells++[wt]) (λj u O=>((a1.ext J).ext C).at O) ?_;refine ρd ?_;refine dld (D.at (i:=5) rfl) ?_;refine ρd ?_;refine dcl (Uk (hl.ext o) (hr.ext o) (hw.ext o) (λk hk=>nM (hN k hk) o.size) (hb.le (by simp only[Tr.sum];omega)) (by simp only[Tr.sz];omega)) ?_;rintro u w4 ⟨a4,G⟩;refine⟨G,?_⟩;refine ρd ?_;refine ρ ?_;refine Jj ⟨?_,o.trans G⟩;rw[Tr.put,if_neg hc,if_neg Z];exact a4
theorem Gg: Qm Tryz.prog 91=some (.agg #[.bool false,.pointer none]):=kr
theorem Xwz(d:Bool)(p:Option Addr)(w:World): (Instr.build 91 #[(0,.bool d),(1,.pointer p)]).run Tryz.prog w=.ok (.agg #[.bool d,.pointer p]) w:=kr
theorem Xww(d:Bool)(w:World): (Instr.build 91 #[(0,.bool d)]).run Tryz.prog w=.ok (.agg #[.bool d,.pointer none]) w:=kr
theorem Xvn(v:V)(wt:Value)(A:Option Addr)(n c:Nat)(h:wt=.slice A n c)(w:World): (Instr.build 197 #[(0,v.val),(1,wt)]).run Tryz.prog w=.ok (.agg (v.cells++[wt]).toArray) w:=by subst h;kernel_rfl
theorem Qrm: ∀ u∈[Value.bool d,.pointer p],u.oneCell'=true:=λu o=>by
 simp only[List.mem_cons,List.not_mem_nil,or_false]at o;rcases o with rfl|rfl<;>rfl
theorem Qsd: Ret Tryz.prog 111 [.bool d] w λu w'=>u=.agg #[.bool d,.pointer none]/\Ext w w':=by
 refine Jz Tryz.func111 Tryz.ntmps111 rfl kr rfl ?_;refine ρ ?_;refine alc Gg ?_;intro w1 b C J O;refine ρ ?_;refine bld (Xww d _) ?_;refine ρ ?_;refine stW O ?_;intro Z D G o;refine ρ ?_;exact Jqh D ⟨rfl,o w C J⟩
theorem Jrv{p:Value}{t:Tr}(h:TrV N w t p)(hv:Xk v=true)(hw:NatV w wt x)(hN:∀ k,N k->k<w.heap.size)(h0:x≠0)(hn:Nb (t.sum+x))(hs:t.sz+1<=1000000):
  Ret Tryz.prog 112 [.agg #[.bool d,p],v.val,wt] w λu w'=>∃ q,u=.tuple #[.agg #[.bool d,q],.int .i64 0]/\TrV N w' (Tr.put d v x t) q/\Ext w w':=by
 obtain⟨q,rfl⟩:=h.ptr;refine Jz Tryz.func112 Tryz.ntmps112 rfl kr rfl ?_;refine ρ ?_;refine bx ?_;intro w1 b1 a5 aw ap;refine ρ ?_;refine bx (cs:=v.cells) ?_;intro w2 b2 O av ao;refine ρ ?_;refine alc Gg ?_;intro w3 b3 a4 ab ae;have C:=(a5.trans O).trans a4;have ag:=(ap.ext O).ext a4;have a1:=ao.ext a4;refine ρ ?_;refine lds (cs:=v.cells) (λj u hu=>a1.at hu) ?_;refine ρ ?_;refine cl (Jrd v _) ?_;rintro u w4 ⟨rfl,J⟩;rw[hv];refine ρ ?_;refine cl (Jkx (hw.ext (C.trans J)) (hn.le om).len) ?_;rintro wn w5 ⟨a9,am,a6⟩;have a8:=(C.trans J).trans a6;obtain⟨A,c,rfl,hc,hm,au⟩:=id a9;have aq:0<(Jq x).length:=by
  rcases Nat.eq_zero_or_pos (Jq x).length with h1|h1
  .have:=List.eq_nil_of_length_eq_zero h1;have e:=Yw x;rw[this]at e;exact absurd e.symm h0
  exact h1
 refine ρ ?_;refine cf ?_ ?_
 .exact Jnc om
 refine ρ ?_;refine drN (λ_=>False) 10 [(0,0),(0,1),(0,2),(0,3),(0,4),(0,5),(0,6),(0,7),(1,8),(0,9),(2,10),(2,11)] kr ?_;have a2:Ext w5 w5.drew:=(Ext.refl w5).drew;have o:=(J.trans a6).trans a2;have G:=ag.ext o;have af:=a1.ext o;have ad:=ae.ext o;have Z:=a8.trans a2;refine ρn ?_;refine nld (Jl (G.at (i:=0) rfl) (λe=>e)) ?_;refine ρn ?_;refine Xl (cs:=[.bool d,.pointer q]) (λw' hg j u hu=>(Jv G hg (λe=>e)).at hu) ?_;refine ρn ?_;refine nld (Jl (G.at (i:=1) rfl) (λe=>e)) ?_;refine ρn ?_;refine Xl (cs:=v.cells) (λw' hg j u hu=>(Jv af hg (λe=>e)).at hu) ?_;refine ρn ?_;refine Ig (Xvn v _ A _ c rfl) ?_;refine ρn ?_;refine nop ?_;have aa:b3<w3.heap.size:=ae.lt;have ar:=C.size;have ac:∀ k,(N k∨k=b3)->k<w3.heap.size:=λk D=>D.elim (λh=>nM (hN k h) C.size) (λe=>by rw[e];exact aa);have hh:TrV (λk=>N k∨k=b3) w5.drew t (.pointer q):=(h.old (N':=λk=>N k∨k=b3) λk D=>D.imp id λe=>by rw[e];exact nL (a5.trans O).size ab).ext Z
 have ai:NatX (λk=>N k∨k=b3) w5.drew (.slice A (Jq x).length c) x:=am.x (a9.ext a2) λk D=>nM (ac k D) J.size;refine cl (Qnh t _ _ hh ai (λk D=>nM (ac k D) o.size) hn hs) ?_;rintro u w6 ⟨hu,a3⟩;obtain⟨q2,rfl⟩:=hu.ptr;refine ρ ?_;refine Jm (GrN.ext a3) ?_;refine ρn ?_;refine Ig (Xwz d q2) ?_;refine ρn ?_;refine Xh ?_;refine stW (ad.ext a3) ?_;intro w7 an ak ah;refine ρ ?_;refine Ug ?_;refine Xh ?_;refine ρ ?_;have a7:Ext w w7:=ah w (Z.trans a3) (nL (a5.trans O).size ab);have aj:=(hu.gr (GrN.by ak (λk D=>.inr (by injection D with D;exact D.symm)))).old (N':=N) λk D=>.inl (.inl D);exact Zh an ⟨_,rfl,aj,a7⟩
open Go.RowKit Pl Go.Wk
variable {d:Bool}{t:Tr}
theorem Jrc{N:Nat->Prop}{J:Tr->World->Prop}{D:World->Prop}{fid:FuncId}{cap:Array Value}{p:Value}{w:World}(hp:TrV N w t p)(hj:J t w)(hht:t.ht<=1000000)(hx:∀ s w w',J s w->Ext w w'->J s w')(hnil:∀ w,J .nil w->D w)(hcall:∀ l v x r u w,TrV N w (.node l v x r) u->J (.node l v x r) w->Ret Tryz.prog fid ((#[]:Array Value).toList++[u]++cap.toList) w λz w'=>∃ c,z=.int .i64 c/\GrN N w w'/\(c<0->J l w')/\(0<c->J r w')/\(c=0->D w')):
  Ret Tryz.prog 150 [.agg #[.bool d,p],.func (.func fid) #[] cap] w λz w'=>(∃ k:Nat,z=.int .i64 (k:Int)/\k<=t.ht)/\D w'/\GrN N w w':=by
 obtain⟨q,rfl⟩:=hp.ptr;refine Jz Tryz.func150 Tryz.ntmps150 rfl kr rfl ?_;refine ρ ?_;refine bx ?_;intro w1 b O hb hB;refine ρ ?_;refine ld (hB.at (i:=1) rfl) ?_;refine ρ ?_;refine Xm (fun (k:Nat) (s:Tr) (q:Option Addr)=>[(1,.func (.func fid) #[] cap),(5,.int .i64 (k:Int)),(6,.pointer q)])
  (λk s q w'=>k+s.ht<=t.ht/\TrV N w' s (.pointer q)/\J s w'/\GrN N w w') (λ_ s _=>s.sz) 0 t q sB
  ⟨om,hp.ext O,hx _ _ _ hj O,GrN.ext O⟩ ?_
 rintro k s q2 w2 ⟨hk,hs,a2,a3⟩;refine ρ ?_;cases s with
 | nil=>
  obtain rfl:q2=none:=by have:Value.pointer q2=.pointer none:=hs;injection this
  refine pnn ?_;refine ρ ?_;refine Jj ⟨⟨k,rfl,om⟩,hnil _ a2,a3⟩
 | node l v x r=>
  obtain⟨bn,wn,pl,pr,sn,e,⟨a4,a1⟩,a9,aa,hl,hr⟩:=id hs;obtain rfl:q2=some ⟨bn,0,none⟩:=by injection e
  obtain⟨ql,rfl⟩:=hl.ptr;obtain⟨qr,rfl⟩:=hr.ptr;have a8:l.ht+1<=(Tr.node l v x r).ht:=by simp only[Tr.ht];omega
  have a7:r.ht+1<=(Tr.node l v x r).ht:=by simp only[Tr.ht];omega
  have a6:l.sz<(Tr.node l v x r).sz:=by simp only[Tr.sz];omega
  have a5:r.sz<(Tr.node l v x r).sz:=by simp only[Tr.sz];omega
  refine pnn ?_;refine ρ ?_;refine clv (hcall l v x r _ w2 hs a2) ?_;rintro z w3 ⟨c,rfl,C,k1,k2,k3⟩;have hg:=a3.trans C;have G:=Jv a4 C a1;refine ρ ?_;refine ci (λZ=>?_) (λZ=>?_)
  .have Z:=oT Z;refine ρ ?_;refine ld (G.at (i:=4) rfl) ?_;refine ρ ?_;exact Qp (k+1) l ql sO ⟨om,hl.gr C,k1 Z,hg⟩ om
  have Z:=oF Z;refine ρ ?_;refine ci (λo=>?_) (λo=>?_)
  .have o:=oT o;refine ρ ?_;refine ld (G.at (i:=5) rfl) ?_;refine ρ ?_;exact Qp (k+1) r qr sO ⟨om,hr.gr C,k2 o,hg⟩ om
  have o:=oF o;refine ρ ?_;refine Jj ⟨⟨k+1,rfl,om⟩,k3 om,hg⟩
structure BefB(bT bV bS bF:Nat)(d:Bool)(q:Option Addr)(v:V)(w:World)(sv:Value)(f:Bool): Prop where
 tb:Blk w bT 91 [.bool d,.pointer q]
 vb:Blk w bV 118 v.cells
 sb:Blk w bS 31 [sv]
 fb:Blk w bF 4 [.bool f]
theorem BefB.ext{bT bV bS bF:Nat}{d:Bool}{q:Option Addr}{v:V}{w w':World}{sv:Value}{f:Bool}(h:BefB bT bV bS bF d q v w sv f)(hx:Ext w w'): BefB bT bV bS bF d q v w' sv f :=
 ⟨h.tb.ext hx,h.vb.ext hx,h.sb.ext hx,h.fb.ext hx⟩
def BefJ(bT bV bS bF:Nat)(d:Bool)(q:Option Addr)(v:V)(t:Tr)(s:Tr)(w:World): Prop :=
 ∃ sv m,BefB bT bV bS bF d q v w sv false/\NatX (λk=>k=bS∨k=bF) w sv m/\m+Tr.befT d v s=Tr.befT d v t/\Tr.hasT d v s=Tr.hasT d v t/\m+s.sum<=t.sum
def BefD(bT bV bS bF:Nat)(d:Bool)(q:Option Addr)(v:V)(t:Tr)(w:World): Prop :=
 ∃ sv,BefB bT bV bS bF d q v w sv (Tr.hasT d v t)/\NatX (λk=>k=bS∨k=bF) w sv (Tr.befT d v t)
theorem Xyd{bT bV bS bF:Nat}{q:Option Addr}{v:V}(hne:bT≠bS/\bT≠bF/\bV≠bS/\bV≠bF/\bS≠bF)(hb:Nb t.sum):
  ∀ l a x r u w,TrV (λk=>k=bS∨k=bF) w (.node l a x r) u->BefJ bT bV bS bF d q v t (.node l a x r) w ->
  Ret Tryz.prog 151 ((#[]:Array Value).toList++[u]++(#[.pointer (some ⟨bT,0,none⟩),.pointer (some ⟨bV,0,none⟩),.pointer (some ⟨bS,0,none⟩),.pointer (some ⟨bF,0,none⟩)]:Array Value).toList) w λz w'=>∃ c,z=.int .i64 c/\GrN (λk=>k=bS∨k=bF) w w'/\(c<0->BefJ bT bV bS bF d q v t l w')/\(0<c->BefJ bT bV bS bF d q v t r w')/\(c=0->BefD bT bV bS bF d q v t w'):=by
 obtain⟨n1,n2,n3,n4,n5⟩:=hne;rintro l a x r u w hs ⟨sv,m,hB,hm,e1,e2,e3⟩;obtain⟨bn,wn,pl,pr,sn,rfl,⟨ae,ak⟩,ax,bb,hl,hr⟩:=id hs;obtain⟨ql,rfl⟩:=hl.ptr;obtain⟨qr,rfl⟩:=hr.ptr;simp only[Tr.sum]at e3;refine Jz Tryz.func151 Tryz.ntmps151 rfl kr rfl ?_;refine ρ ?_;have ad:Ext w w.drew:=(Ext.refl w).drew;have av:=hB.ext ad;have aq:=ae.ext ad;refine dr [(0,0),(0,1),(0,2),(0,3),(0,4),(0,5),(0,6),(1,7),(0,8)] kr ?_;refine ρd ?_;refine Jo (cs:=[.bool d,.pointer q]) (λj u hu=>av.tb.at hu) ?_;refine ρd ?_;refine Jo (cs:=v.cells) (λj u hu=>av.vb.at hu) ?_;refine ρd ?_;refine Jo (cs:=a.cells) (Blk.pre (cs:=a.cells) aq) ?_;refine ρd ?_;refine dcl (Qvf (a:=v) (b:=a)) ?_;rintro u w1 ⟨rfl,ah⟩;refine⟨ah,?_⟩;refine ρd ?_;have O:=ad.trans ah;have aw:=hB.ext O;have b3:=hm.ext O;refine ρ ?_;refine ci (λhc=>?_) (λhc=>?_)
 .have hc:=oT hc;refine ρ ?_;refine Jj ⟨neg d (cmpV v a),rfl,GrN.ext O,λ_=>⟨sv,m,aw,b3,?_,?_,om⟩,λh=>om,λh=>om⟩
  .rw[<-e1,Tr.befT,if_pos hc]
  rw[<-e2,Tr.hasT,if_pos hc]
 have hc:=oF hc;have a9:Ext w1 w1.drew:=(Ext.refl w1).drew;have J:=O.trans a9;have au:=ae.ext J;have D:=aw.ext a9;refine ρ ?_;refine drN (λ_=>False) 10 [(0,0),(0,1),(0,2),(0,3),(0,4),(1,5),(1,6),(2,7)] kr ?_;refine ρn ?_;refine nld (Jl (D.sb.at (i:=0) rfl) (λe=>e)) ?_;refine ρn ?_;refine nld (Jl (au.at (i:=4) rfl) (λe=>e)) ?_;refine ρn ?_;refine nop ?_;refine cl (Jyp (hl.ext J)) ?_;rintro ul w2 ⟨ay,rfl⟩;refine ρ ?_;refine Jm (GrN.refl _ _) ?_;refine ρn ?_;refine nop ?_;refine cl (Jjt (hm.ext J).1 ay.1 (hb.le om).len (hb.le om).len) ?_;rintro us w3 ⟨aj,b4,a2⟩;refine ρ ?_;refine Jm (GrN.ext a2) ?_;refine ρn ?_;refine Xh ?_;obtain⟨A3,c3,rfl,bd,_⟩:=id aj;refine Vb (D.ext a2).sb ?_ rfl;intro w4 b6 a8 ba;refine ρ ?_;have ag:=D.ext a2;have ai:=J.trans a2;have ap:∀ k,(k=bS∨k=bF)->k<w1.drew.heap.size:=λk G=>G.elim (λe=>by rw[e];exact D.sb.lt) (λe=>by rw[e];exact D.fb.lt)
 have b2:NatX (λk=>k=bS∨k=bF) w3 (.slice A3 (Jq (m+l.sum)).length c3) (m+l.sum):=b4.x aj ap;have a3:GrN (λk=>k=bS∨k=bF) w3 w4:=GrN.by a8 λk G=>.inl (by injection G with G;exact G.symm)
 have am:=b2.gr a3;have a5:BefB bT bV bS bF d q v w4 (.slice A3 (Jq (m+l.sum)).length c3) false:=⟨ag.tb.grown a8 (by simpa using n1),ag.vb.grown a8 (by simpa using n3),b6,ag.fb.grown a8 (by simpa using n5.symm)⟩;have Z:GrN (λk=>k=bS∨k=bF) w w4:=(GrN.ext ai).trans a3;refine ci (λC=>?_) (λC=>?_)
 .have C:neg d (cmpV v a)=0:=Xa C;refine ρ ?_;refine Vb a5.fb ?_ rfl;intro w5 b7 a7 a1;refine ρ ?_;have ac:GrN (λk=>k=bS∨k=bF) w4 w5:=GrN.by a7 λk G=>.inr (by injection G with G;exact G.symm)
  refine Jj ⟨0,rfl,Z.trans ac,λh=>om,λh=>om,λ_=>⟨_,⟨a5.tb.grown a7 (by simpa using n2),a5.vb.grown a7 (by simpa using n4),a5.sb.grown a7 (by simpa using n5),?_⟩,?_⟩⟩
  .rw[<-e2,Tr.hasT,if_neg hc,if_pos C];exact b7
  rw[<-e1,Tr.befT,if_neg hc,if_pos C];exact am.gr ac
 have C:neg d (cmpV v a)≠0:=Zq C;have o:Ext w4 w4.drew:=(Ext.refl w4).drew;have a4:=a5.ext o;have ar:=(Jv ae Z ak).ext o;refine ρ ?_;refine drN (λ_=>False) 10 [(0,0),(0,1),(0,2),(0,3),(0,4),(0,5),(1,6),(2,7)] kr ?_;refine ρn ?_;refine nld (Jl (a4.sb.at (i:=0) rfl) (λe=>e)) ?_;refine ρn ?_;refine nld (Jl (ar.at (i:=3) rfl) (λe=>e)) ?_;refine ρn ?_;refine nop ?_;refine cl (Jjt (am.ext o).1 ((ax.gr Z).ext o).1 (hb.le om).len (hb.le om).len) ?_;rintro b8 w5 ⟨aa,ao,a1⟩;refine ρ ?_;refine Jm (GrN.ext a1) ?_;refine ρn ?_;refine Xh ?_;obtain⟨A5,c5,rfl,bc,_⟩:=id aa;refine Vb (a4.ext a1).sb ?_ rfl;intro w6 b5 a6 b9;refine ρ ?_;have af:=a4.ext a1;have b1:NatX (λk=>k=bS∨k=bF) w5 (.slice A5 (Jq (m+l.sum+x)).length c5) (m+l.sum+x):=ao.x aa λk G=>nM (ap k G) (nL a2.size (a3.trans (GrN.ext o)).size);have ab:GrN (λk=>k=bS∨k=bF) w5 w6:=GrN.by a6 λk G=>.inl (by injection G with G;exact G.symm)
 have an:GrN (λk=>k=bS∨k=bF) w w6:=((Z.trans (GrN.ext o)).trans (GrN.ext a1)).trans ab;refine Jj ⟨neg d (cmpV v a),rfl,an,λh=>om,λh=>⟨_,m+l.sum+x,⟨af.tb.grown a6 (by simpa using n1),af.vb.grown a6 (by simpa using n3),b5,af.fb.grown a6 (by simpa using n5.symm)⟩,b1.gr ab,?_,?_,om⟩,λh=>om⟩
 .rw[<-e1,Tr.befT,if_neg hc,if_neg C];omega
 rw[<-e2,Tr.hasT,if_neg hc,if_neg C]
end Go.Proofs.YtbcdghbonlifdaaGreatDoor
namespace Go.Wk
end Go.Wk
namespace Go.Proofs.YtbcdghbonlifdaaGreatDoor
open Go.RowKit Pl Go.Wk
attribute [local irreducible] WC WL QX WD WDB WP WN WG
theorem zNat: Qm Tryz.prog 31=some (.slice none 0 0):=kr
theorem Jnz: Qm Tryz.prog 4=some (.bool false):=kr
theorem Xyb{N:Nat->Prop}{w:World}{d:Bool}{p:Value}{t:Tr}{v:V}(h:TrV N w t p)(hb:Nb t.sum)(hs:t.sz<=1000000):
  Ret Tryz.prog 120 [.agg #[.bool d,p],v.val] w λu w'=>∃ sv,∃ k:Nat,u=.tuple #[sv,.bool (Tr.hasT d v t),.int .i64 (k:Int)]/\k<=t.ht/\NatV w' sv (Tr.befT d v t)/\Ext w w':=by
 obtain⟨q,rfl⟩:=h.ptr;refine Jz Tryz.func120 Tryz.ntmps120 rfl kr rfl ?_;refine ρ ?_;refine bx ?_;intro w1 bT a9 au hT;refine ρ ?_;refine bx (cs:=v.cells) ?_;intro w2 bV a7 ar hV;refine ρ ?_;refine alc zNat ?_;intro w3 Z C av hS;refine ρ ?_;refine alc Jnz ?_;intro w4 bF a8 af hF;refine ρ ?_;refine Vb hF ?_ rfl;intro w5 ai aq ac;have lT:=hT.lt;have lV:=hV.lt;have lS:=hS.lt;have an:=a7.size;have am:=C.size;have ak:=a8.size;have nT:bT≠Z/\bT≠bF/\bV≠Z/\bV≠bF/\Z≠bF:=by grind
 obtain⟨n1,n2,n3,n4,n5⟩:=nT;have o:Ext w3 w5:=ac w3 a8 af;have G:Ext w w5:=((a9.trans a7).trans C).trans o;have ab:=((hT.ext a7).ext C).ext o;have ag:=(hV.ext C).ext o;have ah:=hS.ext o;have ao:=a9.size;have hN:TrV (λk=>k=Z∨k=bF) w5 t (.pointer q):=(h.old (N':=λk=>k=Z∨k=bF) λk hk=>.inr (by grind)).ext G;have ap:=Tr.ht_le t;refine ρ ?_;refine ldW ab ?_;refine ρ ?_;refine cl (Jrc (N:=λk=>k=Z∨k=bF) (J:=BefJ bT bV Z bF d q v t) (D:=BefD bT bV Z bF d q v t) hN ⟨_,0,⟨ab,ag,ah,ai⟩,NatX.nil _,om,rfl,om⟩ om ?_ ?_ (Xyd ⟨n1,n2,n3,n4,n5⟩ hb)) ?_
 .rintro s w w' ⟨sv,m,a1,a2,a3,a4,a5⟩ hx;exact⟨sv,m,a1.ext hx,a2.ext hx,a3,a4,a5⟩
 .rintro w ⟨sv,m,a1,a2,a3,a4,a5⟩;simp only[Tr.befT,Tr.hasT,Nat.add_zero]at a3 a4;refine⟨sv,?_,?_⟩;repeat grind
 rintro z w6 ⟨⟨k,rfl,hk⟩,⟨sv,aj,ad⟩,ae⟩;have aa:Ext w w6:=ae.old G λk hk=>by grind
 have a6:Ext w6 w6.drew:=(Ext.refl w6).drew;have O:=aj.ext a6;refine ρ ?_;refine dr [(0,0),(0,1),(0,2),(0,3),(0,4),(0,5)] kr ?_;refine ρd ?_;refine dld (O.sb.at (i:=0) rfl) ?_;refine ρd ?_;refine dld (O.fb.at (i:=0) rfl) ?_;refine ρd ?_;refine ρ ?_;exact Ge ⟨sv,k,rfl,hk,(ad.ext a6).1,aa.trans a6⟩
structure FndB(bS bK bV bR:Nat)(w:World)(sv kv:Value)(v:V): Prop where
 sb:Blk w bS 31 [sv]
 kb:Blk w bK 31 [kv]
 vb:Blk w bV 118 v.cells
 rb:Blk w bR 118 V0.cells
theorem FndB.ext{bS bK bV bR:Nat}{w w':World}{sv kv:Value}{v:V}(h:FndB bS bK bV bR w sv kv v)(hx:Ext w w'): FndB bS bK bV bR w' sv kv v:=⟨h.sb.ext hx,h.kb.ext hx,h.vb.ext hx,h.rb.ext hx⟩
end Go.Proofs.YtbcdghbonlifdaaGreatDoor
namespace Go.Wk
open Maps
variable {d n ty:Nat}
theorem dmlk{P:Program}{al:AL}{w:World}{Q:Exit->Act->World->Prop}{ops:Array Oper}{drest:List (Nat×Oper)}{pos:String}{aft:Array Edge}{tt:TT}[hT:Tab P tt]{t k e b m:Nat}{kd:TK}{f:Lit->Option Value}{x y:Operand}{key z:Value}{kl:Lit}(K:Keyed P k)(hM:MapS P k w b m f)(hz:Qm P e=some z)(hkey:keyOf P k key=some kl)(kk:WD P n ops Q drest ((d,(f kl).getD z)::al) w)(ht:tk tt t=some kd:=by rfl)(hk:kd.desc=.map k e:=by rfl)(hx:ev al x=some (.map (some b)):=by rfl)(hy:ev al y=some key:=by rfl)(hd:Nat.blt d n=true:=by rfl):
  WD P n ops Q ((0,⟨some d,.lookup t x y false,ty,pos,aft,none⟩)::drest) al w :=
 dy (λw' u a o=>by
  have:=((hM.ext u).look K (Vr hT.ok ht hk rfl) (Jfz hz w') hkey).2;simp[execOp,o.ev hx,o.ev hy,this]) hd kk
end Go.Wk
namespace Go.Proofs.YtbcdghbonlifdaaGreatDoor
open Go.RowKit Pl Go.Wk
attribute [local irreducible] WC WL QX WD WDB WP WN WG
variable {chs l:List (Nat×List Nat)}{cs ta va:List Value}{B0 b c cv f k n:Nat}{T:Nat->Row->Nat}{A VA:Option Addr}{r x:Row}{u vch vx:Value}{w w':World}
theorem Gb(hx:Ext w w'){p:Addr}(h:w.cell? p=some u): w'.cell? p=some u:=by
 have o:p.block<w.heap.size:=by
  rcases Nat.lt_or_ge p.block w.heap.size with h1|h1
  .exact h1
  unfold World.cell? at h;rw[Array.getElem?_eq_none h1]at h;simp at h
 rw[hx.cell o];exact h
theorem KS: Maps.Keyed Tryz.prog 9:=Maps.string_keyed Tryz.underlying9
def FitR(r:Row): Prop:=r.length<=32/\∀ v∈r,Xb v/\v.bytes.length<=24
theorem FitR.len(h:FitR r): (idn r).length<=2880:=by have:=Qkd h.2;have:=h.1;omega
theorem FitR.pm{cs:List Nat}(h:FitR r)(hc:∀ c∈cs,c<r.length)(hl:cs.length<=32): FitR (pmR cs r) :=
 ⟨by rw[Xj];exact hl,λv o=>by
  obtain⟨c,u,rfl⟩:=List.mem_map.1 o;exact h.2 _ (getD_mem' V0 r (hc c u))⟩
theorem Gt(h:FitR r): keyOf Tryz.prog 9 (.string (str (idn r)))=some (.string (idn r)) :=
 WideMaps.keyOf_string_mk Tryz.underlying9 (by have:=h.len;show(idn r).toArray.size<=maxLen;rw[List.size_toArray];unfold maxLen;omega)
def ChG(w:World)(cs:List Value)(p:Nat×List Nat): Prop:=∃ A c,cs=[.int .i64 (p.1:Int),.slice A p.2.length c]/\p.2.length<=c/\p.2.length<=32/\Rd w 1 A p.2.length (Jp (nz p.2))
theorem ChG.ext{w w':World}{cs:List Value}{p:Nat×List Nat}(h:ChG w cs p)(hx:Ext w w'): ChG w' cs p:=by
 obtain⟨A,c,D,C,u,o⟩:=h;exact⟨A,c,D,C,u,o.ext hx⟩
def DnV(AR:Nat->Prop)(T:Row->Nat)(w:World)(x:Value): Prop:=∃ mb m fm,x=.map (some mb)/\m<=1000000/\(MapS Tryz.prog 9 w mb m fm/\¬ AR mb)/\(∀ k:Row,fm (.string (idn k))=if 0<T k then some (.bool true) else none)/\∀ kl,fm kl≠none->∃ k:Row,kl=.string (idn k)
def DnT(AR:Nat->Prop)(T:Row->Nat)(w:World)(x:Value): Prop:=∃ mb m fm,x=.map (some mb)/\m<=1000000/\(MapS Tryz.prog 9 w mb m fm/\¬ AR mb)/\∀ k:Row,(fm (.string (idn k))=none/\T k=0)∨∃ y,fm (.string (idn k))=some y/\0<T k/\NatX AR w y (T k)
theorem DnV.gr{AR:Nat->Prop}{T:Row->Nat}{w w':World}{x:Value}(h:DnV AR T w x)(hg:GrN AR w w'): DnV AR T w' x:=by
 obtain⟨u,m,fm,J,G,⟨D,o⟩,C⟩:=h;exact⟨u,m,fm,J,G,⟨D.gr hg o,o⟩,C⟩
theorem DnT.gr{AR:Nat->Prop}{T:Row->Nat}{w w':World}{x:Value}(h:DnT AR T w x)(hg:GrN AR w w'): DnT AR T w' x:=by
 obtain⟨u,m,fm,J,G,⟨D,o⟩,C⟩:=h;refine⟨u,m,fm,J,G,⟨D.gr hg o,o⟩,λk=>?_⟩;rcases C k with h6|⟨y,h6,h7,h8⟩
 .exact .inl h6
 exact .inr ⟨y,h6,h7,h8.gr hg⟩
def wtL(T:Nat->Row->Nat)(x:Row): List (Nat×List Nat)->Nat
 | []=>1
 | p::l=>T p.1 (pmR p.2 x)*wtL T x l
theorem Jzv(T:Nat->Row->Nat)(x:Row): ∀ l m,wtL T x (l++m)=wtL T x l*wtL T x m
 | [],m=>by rw[List.nil_append,wtL,Nat.one_mul]
 | p::l,m=>by rw[List.cons_append,wtL,wtL,Jzv T x l m,Nat.mul_assoc]
theorem Qcx{p:Nat×List Nat}(hp:p∈l)(h0:T p.1 (pmR p.2 x)=0): wtL T x l=0:=by
 obtain⟨a,b,rfl⟩:=List.append_of_mem hp;rw[Jzv,wtL,h0,Nat.zero_mul,Nat.mul_zero]
theorem Jds{T:Nat->Row->Nat}{x:Row}: ∀ {l:List (Nat×List Nat)},(∀ p∈l,T p.1 (pmR p.2 x)<=4294967296^20)->wtL T x l<=(4294967296^20)^l.length
 | [],_=>by simp[wtL]
 | p::l,h=>by
  rw[wtL,List.length_cons,Nat.pow_succ,Nat.mul_comm];exact Nat.mul_le_mul (Jds λq hq=>h q (List.mem_cons_of_mem _ hq)) (h p mC)
theorem Nb.pow(h:n<=(4294967296^20)^k)(hk:k<=32): Nb n:=by
 refine Nat.lt_of_le_of_lt h ?_;rw[<-Nat.pow_mul];exact Nat.pow_lt_pow_right (by decide) (by rw[Jnh];omega)
theorem Qcr: Qm Tryz.prog 232=some (.agg #[.int .i64 0,.slice none 0 0]):=kr
theorem Qrn{a:Int}: ∀ u∈[Value.int .i64 a,.slice A n c],u.oneCell'=true:=λu o=>by
 simp only[List.mem_cons,List.not_mem_nil,or_false]at o;rcases o with rfl|rfl<;>rfl
theorem Jxt(n:Nat)(h:n<18446744073709551616)(w:World): Ret Tryz.prog 17 [.int .u64 (n:Int)] w λv w'=>NatV w' v n/\Fresh w v/\Ext w w':=by
 refine Jz Tryz.func17 Tryz.ntmps17 rfl kr rfl ?_;refine ρ ?_;refine Ye rfl rfl (by decide) rfl ?_;refine ρ ?_;refine bsl (bsN _ _) ?_;intro D b u G o;rw[Ku,u32hi]at o;have C:Rd D 1 (some ⟨b,0,none⟩) 2 (Nc [UInt32.ofNat n,UInt32.ofNat (n / 4294967296)]):=o.rd rfl;refine ρ ?_;refine cl (Jkb (l:=[UInt32.ofNat n,UInt32.ofNat (n / 4294967296)]) (c:=2) C (nR _) (by simp)) ?_;rintro v J ⟨rfl,rfl⟩;have:=Jyn C (by simp);rw[Qdz n h]at this ⊢;refine ρ ?_;exact Jj ⟨this,λO _ _ e=>by grind,u⟩
theorem Jpw{AR:Nat->Prop}{TA:Option Addr}{ct:Nat}(hTB:TB B0 w)(hB:Blk w b 139 cs)(c1:cs[1]?=some (.int .i64 (f:Int)))(c7:cs[7]?=some (.slice VA n cv))(c8:cs[8]?=some (.slice TA n ct))(hV:Rd w 1 VA n va)(hTa:Rd w 1 TA n ta)(hch:GV 2 ChG w vch chs)(hlen:chs.length<=32)(hn:∀ p∈chs,p.1<n/\∀ c∈p.2,c<x.length)(hx:RowV w vx x)(hfit:FitR x)(hdv:∀ p∈chs,f<=p.1->DnV AR (T p.1) w (va.getD p.1 (.map none)))(hdt:∀ p∈chs,p.1<f->DnT AR (T p.1) w (ta.getD p.1 (.map none)))(hT1:∀ p∈chs,f<=p.1->∀ k,T p.1 k<=1)(hTb:∀ p∈chs,∀ k,T p.1 k<=4294967296^20):
  Ret Tryz.prog 107 [.pointer (some ⟨b,0,none⟩),vch,vx] w λu w'=>NatV w' u (wtL T x chs)/\Fresh w u/\Ext w w':=by
 obtain⟨A,c,cc,rfl,bg,bf,b5,b4⟩:=hch.parts;refine Jz Tryz.func107 Tryz.ntmps107 rfl kr rfl ?_;refine ρ ?_;refine cl (Jxt 1 (by decide) _) ?_;rintro vp w1 ⟨au,b3,aq⟩;refine ρ ?_;refine Jt (fun (i:Nat) (vp:Value)=>[(0,.pointer (some ⟨b,0,none⟩)),(2,vx),(7,vp),(12,.slice A chs.length c),(13,.int .i64 (chs.length:Int)),(14,.int .i64 (i:Int))])
  (λi vp w'=>i<=chs.length/\Ext w w'/\NatV w' vp (wtL T x (chs.take i))/\Fresh w vp) (λi _=>chs.length-i) 0 vp sB
  ⟨Nat.zero_le _,aq,by rw[List.take_zero];exact au,b3⟩ ?_
 rintro i vp w2 ⟨hi,ab,a5,aj⟩;refine ρ ?_;refine ci (λh=>?_) (λh=>?_)
 .have li:i<chs.length:=by have:=oT h;omega
  clear h;obtain⟨ce,be,⟨CA,cC,rfl,b6,a9,am⟩,af⟩:=b4 i li;have G:chs[i]∈chs:=List.getElem_mem li;have ae:wtL T x (chs.take (i+1))=wtL T x (chs.take i)*T chs[i].1 (pmR chs[i].2 x):=by
   rw[List.take_succ_eq_append_getElem li,Jzv,wtL,wtL,Nat.mul_one]
  have aw:wtL T x (chs.take i)<=(4294967296^20)^i:=by
   have:=Jds (T:=T) (x:=x) (l:=chs.take i) λp hp=>hTb p (List.mem_of_mem_take hp) _;grind
  have av:Nb (wtL T x (chs.take i)):=Nb.pow aw om;have ak:Nb (T chs[i].1 (pmR chs[i].2 x)):=Nb.pow (k:=1) (by grind) om;generalize hq:chs[i]=q at *
  obtain⟨ch,C⟩:=q;simp only at b6 a9 am af ae ak;have a3:=hn _ G;simp only at a3;refine ρ ?_;refine ixq 2 i (b5.ext ab) li ?_;refine ρ ?_;have a6:∀ j u,([.int .i64 (ch:Int),.slice CA C.length cC]:List Value)[j]?=some u->w2.cell? ((adr A (i*2)).add j)=some u:=by grind [Gb]
  refine lds (cs:=[.int .i64 (ch:Int),.slice CA C.length cC]) a6 ?_;refine ρ ?_;refine alc Qcr ?_;intro w3 bc ap b7 b9;refine ρ ?_;refine stW b9 ?_;intro w4 J bd ao;have a1:Ext w2 w4:=ao w2 ap b7;have a2:=ab.trans a1;refine ρ ?_;refine ld (J.at (i:=1) rfl) ?_;refine ρ ?_;refine cl (Qqd (cs:=C) (hx.ext a2) (am.ext a2) a3.2 om) ?_;rintro vk w5 ⟨ay,Z⟩;have a8:=a2.trans Z;have a4:FitR (pmR C x):=hfit.pm a3.2 a9;obtain⟨KA,kc,rfl,bb,ba,ax⟩:=id ay;refine ρ ?_;refine cl (Jzb (r:=pmR C x) (hTB.ext a8) ax (λv hv=>(a4.2 v hv).1) (by have:=a4.len;omega) (by have:=a4.1;omega)) ?_;rintro u w6 ⟨rfl,O⟩;have a7:=a8.trans O;have aa:Ext w6 w6.drew:=(Ext.refl w6).drew;have an:=((J.ext Z).ext O).ext aa;have b8:=hB.ext (a7.trans aa);refine ρ ?_;refine dr [(0,0),(0,1),(0,2),(0,3),(0,4),(0,5),(0,6),(0,7)] kr ?_;refine ρd ?_;refine dld (an.at (i:=0) rfl) ?_;refine ρd ?_;refine dld (b8.at (i:=1) c1) ?_
  refine ρd ?_;refine ρ ?_;have D:Ext w6 w6.drew.drew:=aa.drew;have o:=a7.trans D;refine ci (λh=>?_) (λh=>?_)
  .have lf:ch<f:=by have:=oT h;omega
   obtain⟨mb,m,fm,e1,e2,⟨e3,e4⟩,e5⟩:=hdt _ G lf;simp only at e1 e5;have ac:ta[ch]?=some (.map (some mb)):=by grind
   refine ρ ?_;refine dr [(0,0),(0,1),(0,2),(0,3),(0,4),(0,5),(0,6),(0,7),(0,8),(0,9),(0,10),(1,11),(0,12)] kr ?_;refine ρd ?_;refine dld ((hB.ext o).at (i:=8) c8) ?_;refine ρd ?_;refine dld ((((J.ext Z).ext O).ext D).at (i:=0) rfl) ?_;refine ρd ?_;refine dix ch (hTa.ext o) a3.1 ?_;refine ρd ?_;refine dld ((hTa.ext o).cell ac) ?_;refine ρd ?_;refine dmlk KS (e3.ext o) zNat (Gt a4) ?_;have ah:NatV w6.drew.drew ((fm (.string (idn (pmR C x)))).getD (.slice none 0 0)) (T ch (pmR C x)):=by
    rcases e5 (pmR C x) with⟨h6,h7⟩|⟨y,h6,h7,h8⟩
    .rw[h6,h7];exact NatV.nil _
    rw[h6];exact h8.1.ext o
   refine ρd ?_;refine dcl (Jbn (a5.ext ((a1.trans Z).trans O |>.trans D)) ah av.len ak.len) ?_;rintro vr w7 ⟨ar,ai,ag⟩;refine⟨ag,?_⟩;refine ρd ?_;refine ρ ?_;refine Jf (i+1) vr sO ⟨li,o.trans ag,?_,λad m c e=>nL o.size (ai ad m c e)⟩ om;rw[ae];exact ar
  have lf:f<=ch:=by have:=oF h;omega
  obtain⟨mb,m,fm,e1,e2,⟨e3,e4⟩,e5,e6⟩:=hdv _ G lf;simp only at e1 e5;have ac:va[ch]?=some (.map (some mb)):=by grind
  refine ρ ?_;refine dr [(0,0),(0,1),(0,2),(0,3),(0,4),(0,5),(0,6),(0,7),(0,8),(0,9),(0,10)] kr ?_;refine ρd ?_;refine dld ((hB.ext o).at (i:=7) c7) ?_;refine ρd ?_;refine dld ((((J.ext Z).ext O).ext D).at (i:=0) rfl) ?_;refine ρd ?_;refine dix ch (hV.ext o) a3.1 ?_;refine ρd ?_;refine dld ((hV.ext o).cell ac) ?_;refine ρd ?_;refine dmlk KS (e3.ext o) Jnz (Gt a4) ?_;rw[e5];by_cases h0:0<T ch (pmR C x)
  .rw[if_pos h0];have h1:=hT1 _ G lf (pmR C x);simp only at h1;refine ρd ?_;refine ρ ?_;refine Jf (i+1) vp sO ⟨li,o,?_,aj⟩ om;rw[ae,show T ch (pmR C x)=1 by omega,Nat.mul_one];exact a5.ext ((a1.trans Z).trans O |>.trans D)
  rw[if_neg h0];refine ρd ?_;refine ρ ?_;have b2:Fresh w (.slice none 0 0):=λad m c e=>by cases e
  refine Jj ⟨?_,b2,o⟩;grind [Qcx,pmR,NatV.nil]
 have b1:i=chs.length:=by grind
 rw[b1,List.take_length]at a5;refine ρ ?_;exact Jj ⟨a5,aj,ab⟩
open Go.RowKit Pl Go.Wk
def chK(kf:Nat->Nat)(pf:Nat->Int)(v k:Nat): List (Nat×List Nat):=((List.range k).filter λc=>decide (pf c=(v:Int))).map λc=>(c,Qe (bk (kf v ||| 2^v) 32) (kf c))
theorem Jcw(kf:Nat->Nat)(pf:Nat->Int)(v k:Nat): chK kf pf v (k+1)=chK kf pf v k++if pf k=(v:Int) then[(k,Qe (bk (kf v ||| 2^v) 32) (kf k))] else[]:=by
 unfold chK;rw[List.range_succ,List.filter_append,List.map_append];grind
theorem Jzl(kf:Nat->Nat)(pf:Nat->Int)(v k:Nat): (chK kf pf v k).length<=k:=by grind [chK,List.length_map,List.length_filter_le,List.range,List.length_range]
theorem Jmm(vars:List Nat)(s:Nat): (Qe vars s).length<=vars.length:=by
 have:=List.length_filter_le (λi=>s.testBit (vars.getD i 0)) (List.range vars.length);rw[List.length_range]at this;exact this
theorem EC: ElT Tryz.prog 180 232 2 32 (.agg #[.int .i64 0,.slice none 0 0]):=⟨Tryz.underlying180,info_parts kr,rfl,by decide⟩
theorem Xvp(z:Int)(v:Value)(A:Option Addr)(n c:Nat)(h:v=.slice A n c)(w:World): (Instr.build 232 #[(0,.int .i64 z),(1,v)]).run Tryz.prog w=.ok (.agg [.int .i64 z,v].toArray) w:=by subst h;kernel_rfl
theorem Xwm(z:Int)(v:Value)(A:Option Addr)(n c:Nat)(h:v=.slice A n c)(w:World): (Instr.buildSlice 180 1 #[(0,.agg [.int .i64 z,v].toArray)]).run Tryz.prog w=.ok (.slice (some ⟨w.heap.size,0,none⟩) 1 1) (w.alloc (.cells [.int .i64 z,v].toArray 232)):=by subst h;kernel_rfl
theorem Qvx{w:World}{b n v cb:Nat}{cs:List Value}{BA:Option Addr}{vR:Value}{kf:Nat->Nat}{pf:Nat->Int}{R:Nat->List Row}(hB:Blk w b 139 cs)(c5:cs[5]?=some (.slice BA n cb))(c6:cs[6]?=some vR)(hBags:Rd w 3 BA n (Qk n (Qr kf pf)))(hR:GV 3 AtG w vR ((List.range n).map λv=>Yf (kf v ||| 2^v) (R v)))(hn:n<=32)(hv:v<n)(hk:∀ v,v<n->kf v<4294967296):
  Ret Tryz.prog 104 [.pointer (some ⟨b,0,none⟩),.int .i64 (v:Int)] w λu w'=>OwnG 232 2 ChG w' w.heap.size u (chK kf pf v n)/\Ext w w':=by
 obtain⟨RA,rc,an,rfl,ad,ac,a8,ai⟩:=hR.parts;rw[List.length_map,List.length_range]at c6 ad ac a8;obtain⟨re,am,⟨t,rfl,a9⟩,O⟩:=ai v (by simpa using hv);simp only[List.getElem_map,List.getElem_range]at a9;obtain⟨⟨PA,pc,aa,ap,ao,ae⟩,b1,ab⟩:=id a9;obtain⟨t1,t2,t3⟩:=t;simp only[Yf]at aa;subst aa;have a5:(nz (bk (kf v ||| 2^v) 32)).length=(bk (kf v ||| 2^v) 32).length:=Je _;refine Jz Tryz.func104 Tryz.ntmps104 rfl kr rfl ?_;refine ρ ?_;refine ld (hB.at (i:=5) c5) ?_;refine ρ ?_;refine Jt (fun (k:Nat) (vl:Value)=>[(0,.pointer (some ⟨b,0,none⟩)),(1,.int .i64 (v:Int)),(5,vl),(11,.int .i64 (n:Int)),(12,.int .i64 (k:Int))])
  (λk vl w'=>k<=n/\Ext w w'/\OwnG 232 2 ChG w' w.heap.size vl (chK kf pf v k)) (λk _=>n-k) 0 (.slice none 0 0) sB
  ⟨Nat.zero_le _,Ext.refl _,OwnG.nil _ _⟩ ?_
 rintro k vl w1 ⟨au,C,Z⟩;refine ρ ?_;refine ci (λh=>?_) (λh=>?_)
 .have lk:k<n:=by have:=oT h;omega
  clear h;have ak:=hB.ext C;have G:∀ {w'} (hx:Ext w w') j u,(Qr kf pf k)[j]?=some u->w'.cell? ((adr BA (k*3)).add j)=some u:=λhx j u hu=>by
   have hj:j<3:=by grind [Nat.lt_or_ge,List.getElem?_eq_none,Qr]
   rw[Qo];exact(hBags.ext hx).cell ((Vh (sz:=3) (λ_ _=>rfl) lk hj).trans hu)
  refine ρ ?_;refine ld (ak.at (i:=5) c5) ?_;refine ρ ?_;refine ixq 3 k (hBags.ext C) lk ?_;refine ρ ?_;refine ld (G C 2 _ rfl) ?_;refine ρ ?_;refine ci (λh=>?_) (λh=>?_)
  .have hp:pf k=(v:Int):=Xa h;have a1:Ext w1 w1.drew:=(Ext.refl w1).drew;have o:=C.trans a1;have ay:=hB.ext o;obtain⟨LA,lc,b2,ar,a3⟩:=Z.form;refine ρ ?_;refine drN (λk=>w.heap.size<=k) 10 [(0,0),(0,1),(0,2),(0,3),(0,4),(0,5),(0,6),(0,7),(0,8),(0,9),(0,10),(0,11),(0,12),(0,13),(0,14),(0,15),(0,16),(0,17),(1,18),(0,19),(1,20),(1,21),(0,22)] kr ?_;have av:¬ w.heap.size<=b:=by have:=hB.lt;omega
   have D:∀ {p:Addr} {u:Value},w.cell? p=some u->∀ w',GrN (λk=>w.heap.size<=k) w1.drew w'->w'.cell? p=some u:=fun {p u} h w' hg=>
    Gb ((hg.old o λk hk=>hk)) h
   refine ρn ?_;refine nld (D (hB.at (i:=6) c6)) ?_;refine ρn ?_;refine Yr 3 v (a8.ext o) hv ?_;refine ρn ?_;refine nld (D (O 0 _ rfl)) ?_;refine ρn ?_;refine nld (D (hB.at (i:=5) c5)) ?_;refine ρn ?_;refine Yr 3 k (hBags.ext o) lk ?_;refine ρn ?_;refine nld (D (G (Ext.refl w) 1 _ rfl)) ?_;refine ρn ?_;refine nop ?_;rw[a5];refine cl (Qwz (vars:=bk (kf v ||| 2^v) 32) (a5 ▸ ae.ext o) (hk k lk) (λu hu=>(bk_mem.1 hu).1) (Yd _ _)) ?_;rintro uc w2 ⟨a7,a4⟩;refine ρ ?_;refine Jm (GrN.ext a4) ?_;obtain⟨CA,cc,rfl,ah,ag⟩:=Jy a7;refine ρn ?_;refine Ig (Xvp _ _ CA _ cc rfl) ?_;refine ρn ?_;refine nop ?_;refine bsl (Xwm _ _ CA _ cc rfl) ?_;intro w3 b3 a2 aw aj;refine ρ ?_;refine Jm (GrN.ext a2) ?_;refine ρn ?_;refine nop ?_;have J:Ext w1 w3:=(a1.trans a4).trans a2;have hΦ:Off (Xq w.heap.size vl) w3 (λu=>ChG u [.int .i64 (k:Int),.slice CA (Qe (bk (kf v ||| 2^v) 32) (kf k)).length cc] (k,Qe (bk (kf v ||| 2^v) 32) (kf k))):=by
    have h1:=Jxj (Jk a7 a2) (N:=Xq w.heap.size vl) λg eg hN=>by
     have:=(ag g eg).1;rcases hN with h'|h'
     .have:=o.size;omega
     have:=(a3 g h').2;have:=a1.size;omega
    refine h1.imp λu h=>⟨CA,cc,rfl,ah,?_,Rd.own h⟩;grind [Nat.le_trans,Jmm,bk,kf,Yd]
   refine apG EC (Φ:=ChG) (Z.ext J) aj rfl Qrn hΦ (by grind [Jzl,kf]) om (C.trans J).size ?_;intro v4 w4 ax a6 aq;refine ρ ?_;refine Jm (GrN.by a6 λg eg=>(a3 g eg).1) ?_;refine ρn ?_;refine ρ ?_;refine Jf (k+1) v4 sO ⟨lk,Qg (C.trans J) a6 (λg eg=>(a3 g eg).1),?_⟩ om;grind [Jcw]
  have hp:pf k≠(v:Int):=Zq h;refine ρ ?_;refine Jf (k+1) vl sO ⟨lk,C,?_⟩ om;grind [Jcw]
 have af:k=n:=by grind
 rw[af]at Z;refine ρ ?_;exact Jj ⟨Z,C⟩
open Go.RowKit Pl Go.Wk
variable {cols:List Nat}{rows:List Row}{cs ta va:List Value}{b cv n:Nat}{pf:Nat->Int}{BA VA:Option Addr}{k:Row}{W:Row->Nat}{w w' wF:World}
structure FixW(B0 n f:Nat)(kf:Nat->Nat)(pf:Nat->Int)(R:Nat->List Row)(vR:Value)(BA:Option Addr)(wF:World): Prop where
 tb:TB B0 wF
 bags:Rd wF 3 BA n (Qk n (Qr kf pf))
 rels:GV 3 AtG wF vR ((List.range n).map λv=>Yf (kf v ||| 2^v) (R v))
 n32:n<=32
 fn:f<=n
 kb:∀ v,v<n->kf v<4294967296
 pn:∀ c,c<n->pf c≠(c:Int)
 rows:∀ v,v<n->∀ x∈R v,x.length=(bk (kf v ||| 2^v) 32).length/\FitR x
 rlen:∀ v,v<n->(R v).length<=65536
def bCs(n f:Nat)(Dv Pv Av:Value)(BA:Option Addr)(cb:Nat)(vR:Value)(VA:Option Addr)(cv:Nat)(TA:Option Addr)(ct:Nat)(Kv:Value): List Value :=
 [.int .i64 (n:Int),.int .i64 (f:Int),Dv,Pv,Av,.slice BA n cb,vR,.slice VA n cv,.slice TA n ct,Kv]
def ARk(n f:Nat)(VA:Option Addr)(cv:Nat)(TA:Option Addr)(ct:Nat)(Kv:Value)(k:Nat): Prop:=(Value.slice VA n cv).ownBlock=some k∨(Value.slice TA n ct).ownBlock=some k∨Kv.ownBlock=some k
structure BldW(wF:World)(b n:Nat)(cs:List Value)(VA:Option Addr)(cv:Nat)(TA:Option Addr)(ct:Nat)(w:World)(va ta:List Value): Prop where
 ext:Ext wF w
 blk:Blk w b 139 cs
 va:w.ownsRow wF.heap.size 179 1 (.slice VA n cv) n va
 ta:w.ownsRow wF.heap.size 187 1 (.slice TA n ct) n ta
theorem BldW.ext'{TA:Option Addr}{ct:Nat}(h:BldW wF b n cs VA cv TA ct w va ta)(hx:Ext w w'): BldW wF b n cs VA cv TA ct w' va ta :=
 ⟨h.ext.trans hx,h.blk.ext hx,Jk h.va hx,Jk h.ta hx⟩
def Zl(kf:Nat->Nat)(v:Nat): List Nat:=Qe (bk (kf v ||| 2^v) 32) (kf v)
open Classical in
noncomputable def Ud (rows:List Row) (cols:List Nat) (W:Row->Nat) (k:Row):Nat:=if ∃ x∈rows,0<W x/\pmR cols x=k then 1 else 0
theorem redT_pos: 0<Ud rows cols W k↔∃ x∈rows,0<W x/\pmR cols x=k:=by
 unfold Ud;split
 repeat grind
theorem Qjg: Ud rows cols W k<=1:=by
 unfold Ud;split<;>omega
theorem Jnk{a:Atm}(h:AtG w cs a)(hx:Ext w w'): AtG w' cs a:=by
 obtain⟨t,e,o⟩:=h;exact⟨t,e,o.ext hx⟩
theorem Jjw{kf:Nat->Nat}{v:Nat}{p:Nat×List Nat}(h:p∈chK kf pf v n): p.1<n/\pf p.1=(v:Int)/\p.2=Qe (bk (kf v ||| 2^v) 32) (kf p.1):=by
 obtain⟨c,o,rfl⟩:=List.mem_map.1 h;grind
theorem Jhx{v:Value}(h:NatV w v n): ∃ A c,v=.slice A (Jq n).length c/\(0<(Jq n).length↔0<n):=by
 obtain⟨A,c,e,_⟩:=h;grind [Nat.pos_of_ne_zero,Qxq,limbs_pos']
theorem Qml{B0 f v cb ct:Nat}{kf:Nat->Nat}{R:Nat->List Row}{vR Dv Pv Av Kv:Value}{TA:Option Addr}{T:Nat->Row->Nat}{AR:Nat->Prop}(hF:FixW B0 n f kf pf R vR BA wF)(hW:BldW wF b n (bCs n f Dv Pv Av BA cb vR VA cv TA ct Kv) VA cv TA ct w va ta)(hv:v<n)(hdv:∀ c,c<n->pf c=(v:Int)->f<=c->DnV AR (T c) w (va.getD c (.map none)))(hdt:∀ c,c<n->pf c=(v:Int)->c<f->DnT AR (T c) w (ta.getD c (.map none)))(hT1:∀ c,f<=c->∀ k,T c k<=1)(hTb:∀ c k,T c k<=4294967296^20)(hAR:∀ k,ARk n f VA cv TA ct Kv k->AR k)(hARl:∀ k,AR k->k<w.heap.size):
  Ret Tryz.prog 69 [.pointer (some ⟨b,0,none⟩),.int .i64 (v:Int)] w λu w'=>u=.tuple #[]/\∃ mv,BldW wF b n (bCs n f Dv Pv Av BA cb vR VA cv TA ct Kv) VA cv TA ct w' (va.set v mv) ta/\GrN (λk=>(Value.slice VA n cv).ownBlock=some k) w w' /\
   DnV AR (Ud (R v) (Zl kf v) λx=>wtL T x (chK kf pf v n)) w' mv:=by
 obtain⟨bi,hB,a7,c5⟩:=hW;have bo:=hF.n32;refine Jz Tryz.func69 Tryz.ntmps69 rfl kr rfl ?_;refine ρ ?_;refine ld (hB.at (i:=7) rfl) ?_;refine ρ ?_;refine mkm 9 ?_;intro w1 O J cq hM;obtain⟨s1,s2,s3,s4,s5⟩:=Za (Jk a7 J) (q:=v) om (.map (some O));have de:va.length=n:=by have:=a7.1;omega
 refine ρ ?_;refine ix v (Rd.own (Jk a7 J)) om ?_;refine ρ ?_;refine sto (s1.trans (show va[v]?=some (va.getD v (.map none)) by simp[List.getD,List.getElem?_eq_getElem (show v<va.length by omega)])) s2 ?_;refine ρ ?_;obtain⟨w2,bj⟩:∃ w2,w2=w1.setCell (adr VA v) (.map (some O)):=⟨_,rfl⟩;rw[<-bj]at s3 s5 ⊢;clear bj;have ai:∀ g,(Value.slice VA n cv).ownBlock=some g->wF.heap.size<=g/\g<w.heap.size:=(Jy a7).choose_spec.choose_spec.2.2;have bf:∀ g,(Value.slice TA n ct).ownBlock=some g->wF.heap.size<=g/\g<w.heap.size:=(Jy c5).choose_spec.choose_spec.2.2;have d7:=J.size;have da:=hM.lt;have ah:Blk w2 b 139 _:=(hB.ext J).grown s5 ((hB.ext J).ne_own (Jk a7 J) rfl);have aw:w2.ownsRow wF.heap.size 187 1 (.slice TA n ct) n ta:=Zf (Jk c5 J) (Jk a7 J) s5 rfl;have c8:MapS Tryz.prog 9 w2 O 0 (λ_=>none):=hM.kept s5 (λe=>by have:=(ai O e.symm).2;omega);have bz:GrN AR w w2:=(GrN.ext J).trans (GrN.by s5 λk C=>hAR k (.inl C))
 have a2:Ext wF w2:=Qg (bi.trans J) s5 λk C=>(ai k C).1;have bq:wF.heap.size<=O:=nL bi.size cq;have au:=c8.lt;obtain⟨RA,rc,dd,ca,cn,cm,bb,d0⟩:=hF.rels.parts;rw[List.length_map,List.length_range]at ca cn cm bb;obtain⟨re,d8,⟨t,d6,bd⟩,a4⟩:=d0 v (by simpa using hv);subst d6;simp only[List.getElem_map,List.getElem_range]at bd;obtain⟨⟨PA,pc,ce,dg,df,co⟩,cd,cg⟩:=id bd;obtain⟨t1,t2,t3⟩:=t;simp only[Yf]at ce cd;subst ce;subst cd;have bn:(nz (bk (kf v ||| 2^v) 32)).length=(bk (kf v ||| 2^v) 32).length:=Je _;have ap:∀ j u,(Qr kf pf v)[j]?=some u->wF.cell? ((adr BA (v*3)).add j)=some u:=λj u hu=>by
  have hj:j<3:=by
   rcases Nat.lt_or_ge j 3 with h'|h'
   .exact h'
   rw[List.getElem?_eq_none (by simp[Qr];omega)]at hu;cases hu
  rw[Qo];exact hF.bags.cell ((Vh (sz:=3) (λ_ _=>rfl) hv hj).trans hu)
 subst ca;have aj:Ext w2 w2.drew:=(Ext.refl w2).drew;have D:=a2.trans aj;have bc:=ah.ext aj;refine dr [(0,0),(0,1),(0,3),(0,4),(0,5),(0,6),(0,7),(0,8),(0,9),(0,10),(0,11),(0,12),(0,13),(0,14),(0,15),(0,16),(0,17),(0,18),(1,2),(1,19),(0,20),(0,21)] kr ?_;refine ρd ?_;refine dld (bc.at (i:=6) rfl) ?_;refine ρd ?_;refine Vw 3 v (bb.ext D) hv ?_;refine ρd ?_;refine dld (Gb D (a4 0 _ rfl)) ?_;refine ρd ?_;refine dld (bc.at (i:=5) rfl) ?_;refine ρd ?_;refine Vw 3 v (hF.bags.ext D) hv ?_;refine ρd ?_;refine dld (Gb D (ap 1 _ rfl)) ?_;refine ρd ?_;refine dcl (Qvx (R:=R) bc rfl rfl (hF.bags.ext D) (hF.rels.ext D λcs a h=>Jnk h D) bo hv hF.kb) ?_;rintro vl w3 ⟨d2,am⟩;refine⟨am,?_⟩;have bh:=D.trans am;refine ρd ?_;rw[bn];refine dcl (Qwz (vars:=bk (kf v ||| 2^v) 32) (bn ▸ co.ext bh) (hF.kb v hv) (λu hu=>(bk_mem.1 hu).1) (Yd _ _)) ?_;rintro uc w4 ⟨c2,b4⟩
 refine⟨b4,?_⟩;obtain⟨CA,cc,rfl,dk,cy⟩:=Jy c2;refine ρd ?_;refine ρ ?_;have a3:=(aj.trans am).trans b4;have a9:=a2.trans a3;have d5:=ah.ext a3;have b6:∀ j u,([.int .i64 ((bk (kf v ||| 2^v) 32).length:Int),t3]:List Value)[j]?=some u->w4.cell? (((adr RA (v*3)).add 1).add j)=some u:=λj u hu=>by
  have:=a4 (1+j) u (by rw[Nat.add_comm];exact hu);rw[Qo]at this;rw[Qo,Qo,Nat.add_assoc];exact Gb a9 this
 refine ld (d5.at (i:=6) rfl) ?_;refine ρ ?_;refine ixq 3 v (bb.ext a9) hv ?_;refine ρ ?_;refine lds (cs:=[.int .i64 ((bk (kf v ||| 2^v) 32).length:Int),t3]) b6 ?_;refine ρ ?_;refine cl (Jgr (ar:=(bk (kf v ||| 2^v) 32).length) (ls:=R v) ((bd.ext a9).rel)) ?_;rintro ur w5 ⟨b3,an⟩;obtain⟨ps,GA,gc,be,rfl,dj,d9,bm,b5⟩:=an;have Z:(R v).length=ps.length:=by rw[be,List.length_map]
 have aa:=a3.trans b3;have bp:O<w4.heap.size:=nM au a3.size;have b7:b≠O:=λe=>by have h1:=hB.lt;omega
 refine ρ ?_;refine Xm (fun (i:Nat) (m:Nat) (fm:Lit->Option Value)=>[(0,.pointer (some ⟨b,0,none⟩)),(1,.int .i64 (v:Int)),(4,vl),(5,.slice CA (Zl kf v).length cc),(43,.slice GA ps.length gc),(44,.int .i64 (ps.length:Int)),(45,.int .i64 (i:Int))])
  (λi m fm w'=>i<=ps.length/\GrN (λk=>k=O) w5 w'/\MapS Tryz.prog 9 w' O m fm/\m<=i/\(∀ k:Row,fm (.string (idn k))=if 0<Ud ((R v).take i) (Zl kf v) (λx=>wtL T x (chK kf pf v n)) k then some (.bool true) else none)/\∀ kl,fm kl≠none->∃ k:Row,kl=.string (idn k)) (λi _ _=>ps.length-i) 0 0 (λ_=>none) sB
  ⟨Nat.zero_le _,GrN.refl _ _,c8.ext aa,Nat.le_refl _,λk=>?_,λkl h=>absurd rfl h⟩ ?_
 .rw[if_neg];intro h;obtain⟨x,hx,_⟩:=redT_pos.1 h;simp at hx
 rintro i m fm w6 ⟨hi,af,c7,dh,ao,b8⟩;refine ρ ?_;refine ci (λh=>?_) (λh=>?_)
 .have li:i<ps.length:=by have:=oT h;omega
  clear h;obtain⟨x,b1⟩:∃ x,x=(ps.getD i z0).2:=⟨_,rfl⟩;have ch:x∈R v:=by rw[be,b1];exact List.mem_map_of_mem (getD_mem' z0 ps li)
  have ay:(R v).getD i []=x:=by rw[be,b1];simp[List.getD,List.getElem?_eq_getElem li]
  obtain⟨ax,a8⟩:=hF.rows v hv x ch;have o:GrN (λk=>k=O) w2 w6:=(GrN.ext aa).trans af;have a1:Ext wF w6:=o.old a2 λk C=>by rw[C];exact bq
  have d4:=Jv ah o b7;have c4:=Rd.own (Js s3 o λg eg e=>by have:=(ai g eg).2;omega);have cz:=Rd.own (Js aw o λg eg e=>by have:=(bf g eg).2;omega);have d1:GV 2 ChG w6 vl (chK kf pf v n):=((((d2.ext b4).ext b3).gr af λk C=>by rw[C];exact au)).gv (by have:=Jzl kf pf v n;omega);have av:GrN (λk=>k<w4.heap.size) w5 w6:=af.mono λk _ C=>by rw[C];exact bp
  have ac:RowV w6 (ps.getD i z0).1 x:=by rw[b1];exact b5 _ (getD_mem' z0 ps li) w6 av
  have aq:=bm w6 av;have a5:GrN AR w w6:=((bz.mono λk _ C=>(.inl C:AR k∨k=O)).trans (o.mono λk _ C=>.inr C)).mono λk C h=>h.elim id λe=>by omega
  have bl:∀ c,c≠v->(va.set v (.map (some O))).getD c (.map none)=va.getD c (.map none):=λc hc=>by simp[List.getD,List.getElem?_set_ne (Ne.symm hc)]
  have cp:∀ c,c<n->pf c=(v:Int)->c≠v:=λc hc hp e=>hF.pn c hc (by rw[hp,e]);refine ρ ?_;refine ix i aq li ?_;refine ρ ?_;refine ld (aq.cell (show(ps.map (·.1))[i]?=some (ps.getD i z0).1 by simp[List.getD,List.getElem?_eq_getElem li])) ?_
  refine ρ ?_;refine cl (Jpw (T:=T) (AR:=AR) (hF.tb.ext a1) d4 rfl rfl rfl c4 cz d1 (by have:=Jzl kf pf v n;omega) (λp hp=>?_) ac a8 (λp hp ae=>?_) (λp hp ae=>?_) (λp hp ae k=>hT1 _ ae k) (λp hp k=>hTb _ k)) ?_
  .obtain⟨h1,h2,h3⟩:=Jjw hp;refine⟨h1,λc hc=>?_⟩;rw[h3]at hc;rw[ax];exact Jzj hc
  .obtain⟨h1,h2,h3⟩:=Jjw hp;rw[bl _ (cp _ h1 h2)];exact(hdv _ h1 h2 ae).gr a5
  .obtain⟨h1,h2,h3⟩:=Jjw hp;exact(hdt _ h1 h2 ae).gr a5
  rintro vw w7 ⟨cj,_,a6⟩;obtain⟨WA,wc,rfl,ab⟩:=Jhx cj;have c6:=c7.ext a6;have b9:=af.trans (GrN.ext a6);refine ρ ?_;refine ci (λh=>?_) (λh=>?_)
  .have ad:0<wtL T x (chK kf pf v n):=ab.1 (by have:=oT h;omega);have bs:GrN (λk=>k=O) w2 w7:=o.trans (GrN.ext a6);have bg:=a1.trans a6;have G:Ext w7 w7.drew:=(Ext.refl w7).drew;have d3:=(Jv ah bs b7).ext G;have c3:Rd w7.drew 1 VA n (va.set v (.map (some O))):=c4.ext (a6.trans G);have c1:Rd w7.drew 1 CA (Zl kf v).length (Jp (nz (Zl kf v))):=Rd.own (Jk (Js (Jk c2 b3) b9 λg eg e=>by have:=(cy g eg).1;have:=am.size;have:=aj.size;omega) G);have ag:FitR (pmR (Zl kf v) x):=a8.pm (λc hc=>by rw[ax];exact Jzj hc) (nL (Jmm _ _) (Yd _ _));have ck:(va.set v (.map (some O)))[v]?=some (.map (some O)):=by rw[List.getElem?_set_self om]
   refine ρ ?_;refine drN (λ_=>False) 10 [(0,0),(0,1),(0,2),(0,3),(0,4),(0,5),(0,6),(0,7),(0,8),(1,9),(1,10),(2,11)] kr ?_;refine ρn ?_;refine nld (Jl (d3.at (i:=7) rfl) (λe=>e)) ?_;refine ρn ?_;refine nix v c3 hv ?_;refine ρn ?_;refine nld (Jl (c3.cell ck) (λe=>e)) ?_;refine ρn ?_;refine nop ?_;refine cl (Qqd (cs:=Zl kf v) ((ac.ext a6).ext G) c1 (λc hc=>by rw[ax];exact Jzj hc) (by have:=Jmm (bk (kf v ||| 2^v) 32) (kf v);have:=Yd (kf v ||| 2^v) 32;unfold Zl;omega)) ?_;rintro uk w8 ⟨cw,ak⟩;obtain⟨KA,kc,rfl,di,db,cr⟩:=id cw;refine ρ ?_;refine Jm (GrN.ext ak) ?_;refine ρn ?_;refine nop ?_;refine cl (Jzb (r:=pmR (Zl kf v) x) ((hF.tb.ext (bg.trans G)).ext ak) cr (λu hu=>(ag.2 u hu).1) (by have:=ag.len;omega) (by have:=ag.1;omega)) ?_;rintro un w9 ⟨rfl,b2⟩;refine ρ ?_;refine Jm (GrN.ext b2) ?_;refine ρn ?_;refine Xh ?_;refine mup KS (((c6.ext G).ext ak).ext b2) (by unfold maxLen;omega) (Gt ag) ?_
   intro dc c9 bw;refine ρ ?_;refine Qp (i+1) (m+1) (upL fm (.string (idn (pmR (Zl kf v) x))) (some (.bool true))) sO ⟨li,((b9.trans (GrN.ext G)).trans ((GrN.ext ak).trans (GrN.ext b2))).trans (GrN.by bw λk C=>by injection C with C;exact C.symm),c9,om,λk=>?_,λkl br=>?_⟩ om
   .by_cases e:pmR (Zl kf v) x=k
    .rw[<-e,Kq (KS.key (Gt ag)),if_pos];refine redT_pos.2 ⟨x,?_,ad,rfl⟩;rw[Qc [] (by rw[Z];exact li),ay];exact List.mem_append_right _ (List.mem_singleton.2 rfl)
    rw[Uy (λe'=>e (Jck (by injection e'.symm))),ao k];have e2:(0<Ud ((R v).take (i+1)) (Zl kf v) (λx=>wtL T x (chK kf pf v n)) k)↔(0<Ud ((R v).take i) (Zl kf v) (λx=>wtL T x (chK kf pf v n)) k):=by
     rw[redT_pos,redT_pos,Qc [] (by rw[Z];exact li),ay];constructor
     .rintro⟨y,hy,h1,h2⟩;rcases List.mem_append.1 hy with h3|h3
      .exact⟨y,h3,h1,h2⟩
      rw[List.mem_singleton.1 h3]at h2;exact absurd h2 e
     rintro⟨y,hy,h1,h2⟩;exact⟨y,List.mem_append_left _ hy,h1,h2⟩
    simp only[e2]
   by_cases e:kl=.string (idn (pmR (Zl kf v) x))
   .exact⟨_,e⟩
   rw[Uy e]at br;exact b8 kl br
  have ad:¬ 0<wtL T x (chK kf pf v n):=λh'=>by have:=ab.2 h';have:=oF h;omega
  refine ρ ?_;refine Qp (i+1) m fm sO ⟨li,b9,c6,om,λk=>?_,b8⟩ om;rw[ao k];have e:(0<Ud ((R v).take (i+1)) (Zl kf v) (λx=>wtL T x (chK kf pf v n)) k)↔(0<Ud ((R v).take i) (Zl kf v) (λx=>wtL T x (chK kf pf v n)) k):=by
   rw[redT_pos,redT_pos,Qc [] (by rw[Z];exact li),ay];constructor
   .rintro⟨y,hy,h1,h2⟩;rcases List.mem_append.1 hy with h3|h3
    .exact⟨y,h3,h1,h2⟩
    rw[List.mem_singleton.1 h3]at h1;exact absurd h1 ad
   rintro⟨y,hy,h1,h2⟩;exact⟨y,List.mem_append_left _ hy,h1,h2⟩
  simp only[e]
 have cx:i=ps.length:=by have:=oF h;omega
 rw[cx,<-Z,List.take_length]at ao;have o:GrN (λk=>k=O) w2 w6:=(GrN.ext aa).trans af;have a1:Ext wF w6:=o.old a2 λk C=>by rw[C];exact bq
 have ba:GrN (λk=>(Value.slice VA n cv).ownBlock=some k) w w2:=(GrN.ext J).trans (GrN.by s5 λk C=>C);have a5:GrN (λk=>(Value.slice VA n cv).ownBlock=some k) w w6:=((ba.mono λk _ C=>(.inl C:(Value.slice VA n cv).ownBlock=some k∨k=O)).trans (o.mono λk _ C=>.inr C)).mono λk C h=>h.elim id λe=>by omega
 refine ρ ?_;refine Kp ⟨rfl,.map (some O),⟨a1,Jv ah o b7,Js s3 o λg eg e=>(by have:=(ai g eg).2;omega),Js aw o λg eg e=>(by have:=(bf g eg).2;omega)⟩,a5,O,m,fm,rfl,by have:=hF.rlen v hv;omega,⟨c7,?_⟩,ao,b8⟩;intro h';have:=hARl O h';omega
end Go.Proofs.YtbcdghbonlifdaaGreatDoor
namespace Go.Wk
open Go.RowKit
variable {cs xs:List Value}{base c e m n q ty:Nat}{A:Option Addr}{P:Program}{w:World}
theorem Qps{sz:Nat}(ho:w.ownsRow base e sz (.slice A m c) m xs)(hj:q+cs.length<=m*sz)(h0:0<cs.length)(h1:∀ u∈cs,u.oneCell'=true):
  ∃ w',(storeCells (adr A q) cs).run P w=.ok () w'/\w'.ownsRow base e sz (.slice A m c) m (xs.take q++cs++xs.drop (q+cs.length))/\w.grownBy w' (Value.slice A m c).ownBlock:=by
 rcases ho.2 with⟨hn,O⟩|⟨g,cap,cur,hv,hb,hg,hc,hcm,hcs,ht⟩
 .grind
 injection hv with D _ e3
 subst D;subst e3;have G:m*sz<=c*sz:=nO _ hc;have J:adr (some ⟨g,0,none⟩) q=⟨g,q,none⟩:=by simp[adr,Yg]
 rw[J];have o:=run_storeCells_at (P:=P) g q e cs 0 cur w hg om h1;simp only[Nat.add_zero]at o;refine⟨_,o,⟨?_,.inr ⟨g,c,_,rfl,hb,setRow_heap w g cur _ e (0,0) hg,hc,hcm,?_,?_⟩⟩,?_⟩
 .grind
 .grind
 .simp only;have C:(cur.toList.take q++cs).length=q+cs.length:=by grind
  rw[List.take_append,C];have D:(cur.toList.take q++cs).take (m*sz)=cur.toList.take q++cs:=List.take_of_length_le om;rw[D,<-ht,List.take_take,Nat.min_eq_left om,List.drop_take]
 exact Jqg w g (cur.toList.take q++cs++cur.toList.drop (q+cs.length)).toArray
theorem stoG{al:AL}{Q:Exit->Act->World->Prop}{ops:Array Oper}{rest:List Oper}{pos:String}{aft:Array Edge}{tt:TT}[h:Tab P tt]{x y:Operand}{t sz:Nat}{k:TK}(ho:w.ownsRow base e sz (.slice A m c) m xs)(hj:q+cs.length<=m*sz)(h0:0<cs.length)(kk:∀ w1,w1.ownsRow base e sz (.slice A m c) m (xs.take q++cs++xs.drop (q+cs.length))->w.grownBy w1 (Value.slice A m c).ownBlock->WL P n ops Q rest al w1)(h1:∀ u∈cs,u.oneCell'=true)(ht:tk tt t=some k:=by rfl)(hk:k.desc=.invalid:=by rfl)(hs:k.size=cs.length:=by rfl)(hx:ev al x=some (.pointer (some (adr A q))):=by rfl)(hy:ev al y=some (.agg cs.toArray):=by rfl):
  WL P n ops Q (⟨none,.store t x y,ty,pos,aft,none⟩::rest) al w:=by
 obtain⟨w',C,D,G⟩:=Qps (P:=P) ho hj h0 h1;refine Jjd (λa J=>?_) (kk w' D G);have o:=Vs w (Jqx h.ok ht hk w).2;simp[execOp,J.ev hx,J.ev hy,Instr.storeAt,Instr.sureAddr,storeVar,Value.cells,o,hs,C]
end Go.Wk
namespace Go.Proofs.YtbcdghbonlifdaaGreatDoor
open Go.RowKit Pl Go.Wk
attribute [local irreducible] WC WL QX WD WDB WP WN WG
variable {d:Bool}{N:Nat->Prop}{v:Value}{w w':World}
abbrev BkT:= Row×Tr
def BkE(d:Bool)(N:Nat->Prop)(w:World)(cs:List Value)(b:BkT): Prop:=∃ kv q,cs=[kv,.bool d,q]/\RowX w N kv b.1/\TrV N w b.2 q
theorem RowX.gr{r:Row}(h:RowX w N v r)(hg:GrN N w w'): RowX w' N v r:=by
 obtain⟨A,c,G,D,C,u,o⟩:=h;exact⟨A,c,G,D,C,Vc u hg λh0 J e=>o (λO=>by grind [Jh]) J e,o⟩
theorem BkE.gr{d:Bool}{N:Nat->Prop}{w w':World}{cs:List Value}{b:BkT}(h:BkE d N w cs b)(hg:GrN N w w'): BkE d N w' cs b:=by
 obtain⟨kv,q,C,u,o⟩:=h;exact⟨kv,q,C,u.gr hg,o.gr hg⟩
theorem BkE.ext{d:Bool}{N:Nat->Prop}{w w':World}{cs:List Value}{b:BkT}(h:BkE d N w cs b)(hx:Ext w w'): BkE d N w' cs b:=h.gr (GrN.ext hx)
theorem BkE.old{d:Bool}{N N':Nat->Prop}{w:World}{cs:List Value}{b:BkT}(h:BkE d N w cs b)(hs:∀ k,N' k->N k∨w.heap.size<=k): BkE d N' w cs b:=by
 obtain⟨kv,q,C,u,o⟩:=h;exact⟨kv,q,C,u.mono λk D h=>(hs k h).elim id λG=>om,o.old hs⟩
structure OwnB(d:Bool)(base:Nat)(w:World)(v:Value)(ps:List (List Value×BkT)): Prop where
 own:w.ownsRow base 93 3 v ps.length (Ju ps)
 el:∀ p∈ps,BkE d (Xq base v) w p.1 p.2
theorem BkE.len{cs:List Value}{b:BkT}(h:BkE d N w cs b): cs.length=3:=by
 obtain⟨kv,q,rfl,_⟩:=h;rfl
theorem OwnB.nil(d:Bool)(base:Nat)(w:World): OwnB d base w (.slice none 0 0) []:=⟨Zj _ _ _ _,λp hp=>by cases hp⟩
theorem OwnB.form{base:Nat}{ps:List (List Value×BkT)}(h:OwnB d base w v ps): ∃ A c,v=.slice A ps.length c/\ps.length<=c/\∀ g,v.ownBlock=some g->base<=g/\g<w.heap.size:=Jy h.own
theorem OwnB.gr{d:Bool}{base:Nat}{w w':World}{v:Value}{ps:List (List Value×BkT)}(h:OwnB d base w v ps){N:Nat->Prop}(hg:GrN N w w')(hN:∀ k,N k->k<base): OwnB d base w' v ps:=by
 obtain⟨_,_,_,_,u⟩:=h.form;exact⟨Js h.own hg (λg C hn=>by grind),λp hp=>(h.el p hp).gr (hg.mono λk _ o=>.inl (hN k o))⟩
theorem OwnB.ext{d:Bool}{base:Nat}{w w':World}{v:Value}{ps:List (List Value×BkT)}(h:OwnB d base w v ps)(hx:Ext w w'): OwnB d base w' v ps:=h.gr (N:=λ_=>False) (GrN.ext hx) λk e=>e.elim
theorem BkE.one{d:Bool}{N:Nat->Prop}{w:World}{cs:List Value}{b:BkT}(h:BkE d N w cs b): ∀ u∈cs,u.oneCell'=true:=by
 obtain⟨kv,q,rfl,D,C⟩:=h;obtain⟨p,rfl⟩:=C.ptr;intro u o;simp only[List.mem_cons,List.not_mem_nil,or_false]at o;rcases o with rfl|rfl|rfl
 .exact D.v.one
 .rfl
 rfl
theorem EBk: ElT Tryz.prog 87 93 3 40 (.agg #[.slice none 0 0,.bool false,.pointer none]):=⟨Tryz.underlying87,info_parts kr,rfl,by decide⟩
open Go.RowKit Pl Go.Wk
variable {d dir:Bool}{ps:List (List Value×BkT)}{bs i:List (Row×Tr)}{b base m n ty:Nat}{x:Row}{wt:Row->Nat}
theorem apB{al:AL}{w:World}{Q:Exit->Act->World->Prop}{ops:Array Oper}{rest:List Oper}{d:Nat}{pos:String}{aft:Array Edge}{x y:Operand}{v:Value}{cs:List Value}{bt:BkT}(ho:OwnB dir base w v ps)(hb:Blk w b 93 cs)(hΦ:BkE dir (Xq base v) w cs bt)(hm:ps.length<=1000000)(hbase:base<=w.heap.size)(kk:∀ v' w',OwnB dir base w' v' (ps++[(cs,bt)])->w.grownBy w' v.ownBlock->WL Tryz.prog n ops Q rest ((d,v')::al) w')(hx:ev al x=some v:=by rfl)(hy:ev al y=some (.slice (some ⟨b,0,none⟩) 1 1):=by rfl)(hd:Nat.blt d n=true:=by rfl):
  WL Tryz.prog n ops Q (⟨some d,.call { callee:=.builtin .append,args:=#[x,y],argTypes:=#[87,87] },ty,pos,aft,none⟩::rest) al w:=by
 refine apb (m':=1) (news:=cs) EBk ho.own (hb.rd (n:=1) (by rw[hΦ.len])) hΦ.one (by unfold maxLen;omega) om hbase ?_ hx hy hd;intro v' w' C D hn;refine kk v' w' ⟨?_,?_⟩ D
 .rw[List.length_append,List.length_singleton];have e:Ju (ps++[(cs,bt)])=Ju ps++cs:=by simp[Ju]
  rw[e];exact C
 have key:∀ p:List Value×BkT,BkE dir (Xq base v) w p.1 p.2->BkE dir (Xq base v') w' p.1 p.2:=λp u=>by
  have G:BkE dir (λk=>Xq base v k∨Xq base v' k) w p.1 p.2:=u.old λk o=>by
   rcases o with h|h|h
   .exact .inl h
   .exact .inl (.inl h)
   rcases hn k h with h'|h'
   .exact .inl (.inr h')
   exact .inr h'
  exact(G.gr (GrN.by D λk o=>.inl (.inr o))).old λk o=>.inl (.inr o)
 intro p hp;rcases List.mem_append.1 hp with u|u
 .exact key p (ho.el p u)
 rw[List.mem_singleton.1 u];exact key (cs,bt) hΦ
theorem Xxj(hl:∀ p∈ps,p.1.length=3)(kv x1 x2 y1 y2:Value)(b b':BkT):
  (Ju (ps++[([kv,x1,x2],b)])).take (ps.length*3+1)++[y1,y2]++(Ju (ps++[([kv,x1,x2],b)])).drop (ps.length*3+1+2)=Ju (ps++[([kv,y1,y2],b')]):=by
 have e:∀ z:List Value×BkT,Ju (ps++[z])=Ju ps++z.1:=λz=>by simp[Ju]
 have o:=Jlx hl;grind [Ju,kv,List.take_append,List.take_of_length_le,Nat.add_sub_cancel_left,List.drop_of_length_le]
theorem Qhl(h0:wt x≠0)(h1:¬ (bs.getLast?.map (·.1))=some (x.take m)): Pl.stepG d wt m bs x=bs++[(x.take m,Tr.put d (x.getD m V0) (wt x) .nil)]:=by
 rw[Pl.stepG,if_neg h0,if_neg h1]
theorem Qhm{t:Tr}(h0:wt x≠0): Pl.stepG d wt m (i++[(x.take m,t)]) x=i++[(x.take m,Tr.put d (x.getD m V0) (wt x) t)]:=by
 rw[Pl.stepG,if_neg h0,if_pos (by simp)];simp
theorem Qhk(h0:wt x=0): Pl.stepG d wt m bs x=bs:=by rw[Pl.stepG,if_pos h0]
def Vg(d:Bool)(wt:Row->Nat)(m:Nat)(rs:List Row): List BkT:=rs.foldl (Pl.stepG d wt m) []
theorem Jcl(d:Bool)(wt:Row->Nat)(m:Nat)(rs:List Row)(x:Row): Vg d wt m (rs++[x])=Pl.stepG d wt m (Vg d wt m rs) x:=by grind [Vg]
theorem Jwq{rs:List Row}(hs:Lt [] rs)(hl:∀ y∈rs,y.length=m+1): GInv d wt m rs (Vg d wt m rs):=by
 suffices h:∀ k,k<=rs.length->GInv d wt m (rs.take k) (Vg d wt m (rs.take k)) by
  have:=h rs.length (nR _);rw[List.take_length]at this;exact this
 intro k;induction k with
 | zero=>intro _;exact GInv.nil d wt m
 | succ k ih=>
  intro o;have e:=Qc [] (show k<rs.length by omega);rw[e,Jcl];refine(ih om).step ?_ ?_
  .rw[<-e];exact hs.sublist (List.take_sublist _ _)
  repeat grind
def Uo(bs:List BkT)(k:Row): Nat:=match bs.find? λb=>decide (b.1=k) with
 | some b=>b.2.sum
 | none=>0
theorem Jfh(bs:List BkT)(k:Row): Uo bs k=tot (entK bs k):=by
 unfold Uo entK;cases bs.find? λb=>decide (b.1=k) with
 | some b=>exact Tr.sum_eq _
 | none=>rfl
end Go.Proofs.YtbcdghbonlifdaaGreatDoor
namespace Go.Wk
variable {d n t ty:Nat}
theorem dalc'{P:Program}{al:AL}{w:World}{Q:Exit->Act->World->Prop}{ops:Array Oper}{drest:List (Nat×Oper)}{pos:String}{aft:Array Edge}{z:Value}{cs:List Value}(hz:Qm P t=some z)(kk:∀ w1 b,Ext w w1->w.heap.size<=b->Blk w1 b t cs->WD P n ops Q drest ((d,.pointer (some ⟨b,0,none⟩))::al) w1)(hv:z.cells=cs.toArray:=by rfl)(hd:Nat.blt d n=true:=by rfl):
  WD P n ops Q ((1,⟨some d,.alloc t,ty,pos,aft,none⟩)::drest) al w:=by grind [Jqk,alc,Jc,Jqj]
end Go.Wk
namespace Go.Proofs.YtbcdghbonlifdaaGreatDoor
open Go.RowKit Pl Go.Wk
attribute [local irreducible] WC WL QX WD WDB WP WN WG
variable {d:Bool}{S e k m n:Nat}{AR N:Nat->Prop}{Av Pv v vR:Value}{w wF:World}
theorem Qys(kv:Value)(A:Option Addr)(n c:Nat)(d:Bool)(p:Option Addr)(h:kv=.slice A n c)(w:World): (Instr.build 93 #[(0,kv),(1,.agg #[.bool d,.pointer p])]).run Tryz.prog w=.ok (.agg [kv,.bool d,.pointer p].toArray) w:=by subst h;kernel_rfl
theorem Qyk(kv:Value)(A:Option Addr)(n c:Nat)(d:Bool)(p:Option Addr)(h:kv=.slice A n c)(w:World): (Instr.buildSlice 87 1 #[(0,.agg [kv,.bool d,.pointer p].toArray)]).run Tryz.prog w=.ok (.slice (some ⟨w.heap.size,0,none⟩) 1 1) (w.alloc (.cells [kv,.bool d,.pointer p].toArray 93)):=by subst h;kernel_rfl
def DnB(AR:Nat->Prop)(d:Bool)(w:World)(x:Value)(bs:List BkT): Prop:=∃(ps:List (List Value×BkT)) (A:Option Addr) (c:Nat),bs=ps.map (·.2)/\x=.slice A ps.length c/\ps.length<=c/\ps.length<=65536/\Rd w 3 A ps.length (Ju ps)/\(0<ps.length->∀ ad,A=some ad->¬ AR ad.block)/\∀ p∈ps,p.1.length=3/\BkE d AR w p.1 p.2
theorem DnB.gr{AR:Nat->Prop}{d:Bool}{w w':World}{x:Value}{bs:List BkT}(h:DnB AR d w x bs)(hg:GrN AR w w'): DnB AR d w' x bs:=by
 obtain⟨ps,A,c,O,J,G,D,C,u,o⟩:=h;refine⟨ps,A,c,O,J,G,D,Vc C hg λh0 Z e=>u ?_ Z e,u,λp hp=>⟨(o p hp).1,(o p hp).2.gr hg⟩⟩;have:=C.1;omega
theorem Nb.big(hS:S<=4294967296^e)(he:e<=800)(hk:k<=4294967296)(hn:n<=k*S): Nb n:=by
 have o:k*S<=4294967296^(e+1):=by
  rw[Nat.pow_succ,Nat.mul_comm];exact Nat.mul_le_mul hS hk
 exact Nat.lt_of_le_of_lt (nL hn o) (Nat.pow_lt_pow_right (by decide) (by rw[Jnh];omega))
theorem Jgj(x:Row)(h:m<=x.length): (Jh x).take (m*3)=Jh (x.take m):=by grind [Jh,rowC_app',List.take_append_drop,List.take_left',Jgl,List.length_take,Nat.min_eq_left]
theorem Jrt{p:Value}{t:Tr}(h:TrV N w t p)(hn:Nb t.sum): Ret Tryz.prog 113 [.agg #[.bool d,p]] w λu w'=>NatV w' u t.sum/\Fresh w u/\Ext w w':=by
 obtain⟨q,rfl⟩:=h.ptr;refine Jz Tryz.func113 Tryz.ntmps113 rfl kr rfl ?_;refine ρ ?_;refine bx ?_;intro w1 b o hb O;refine ρ ?_;refine ld (O.at (i:=1) rfl) ?_;refine ρ ?_;refine cl (Jyp (h.ext o)) ?_;rintro u w2 ⟨J,rfl⟩;refine ρ ?_;refine cl (Jkx J.1 hn.len) ?_;rintro u3 w3 ⟨D,G,C⟩;refine ρ ?_;exact Jj ⟨D,λZ m c e=>nL o.size (G Z m c e),o.trans C⟩
theorem Jdq: Qm Tryz.prog 93=some (.agg #[.slice none 0 0,.bool false,.pointer none]):=kr
theorem Jbk{p:Option Addr}(h:v.oneCell'=true): ∀ u∈[v,.bool d,.pointer p],u.oneCell'=true:=λu o=>by
 simp only[List.mem_cons,List.not_mem_nil,or_false]at o;rcases o with rfl|rfl|rfl
 .exact h
 .rfl
 rfl
theorem Qgn(bs:List BkT)(b:BkT)(k:Row)(h:b.1 ∉ bs.map (·.1)): Uo (bs++[b]) k=if b.1=k then b.2.sum else Uo bs k:=by grind [Uo,List.find?_eq_none.2,List.mem_map.2]
theorem Qgl{wt:Row->Nat}{rs:List Row}{bs:List BkT}(h:GInv d wt m rs bs){b:BkT}(hb:b∈bs): 0<b.2.sum:=by
 obtain⟨C,u⟩:=h.con b hb;rw[Tr.sum_eq,C,Jcs];exact(Qgj λp hp=>by obtain⟨x,_,_,_,_,o⟩:=entL_mem.1 hp;exact o).2 u
theorem Xqz{B0 f b v cb cv ct ck dc:Nat}{kf:Nat->Nat}{pf:Nat->Int}{R:Nat->List Row}{BA VA TA KA DA:Option Addr}{va ta ba:List Value}{ds:List Bool}{T:Nat->Row->Nat}(hF:FixW B0 n f kf pf R vR BA wF)(hds:ds.length=f)(hD:RdB wF DA ds)(hW:BldW wF b n (bCs n f (.slice DA f dc) Pv Av BA cb vR VA cv TA ct (.slice KA f ck)) VA cv TA ct w va ta)(hBa:w.ownsRow wF.heap.size 87 1 (.slice KA f ck) f ba)(hvf:v<f)(hm:0<(bk (kf v ||| 2^v) 32).length)(hval:∀ x∈R v,Xk (x.getD ((bk (kf v ||| 2^v) 32).length-1) V0)=true)(hlt:Lt [] (R v))(hdv:∀ c,c<n->pf c=(v:Int)->f<=c->DnV AR (T c) w (va.getD c (.map none)))(hdt:∀ c,c<n->pf c=(v:Int)->c<f->DnT AR (T c) w (ta.getD c (.map none)))(hT1:∀ c,f<=c->∀ k,T c k<=1)(hTb:∀ c k,T c k<=4294967296^20)(hAR:∀ k,ARk n f VA cv TA ct (.slice KA f ck) k->AR k)(hARl:∀ k,AR k->k<w.heap.size):
  Ret Tryz.prog 70 [.pointer (some ⟨b,0,none⟩),.int .i64 (v:Int)] w λu w'=>u=.int .i64 0/\∃ mv lv,BldW wF b n (bCs n f (.slice DA f dc) Pv Av BA cb vR VA cv TA ct (.slice KA f ck)) VA cv TA ct w' va (ta.set v mv)/\w'.ownsRow wF.heap.size 87 1 (.slice KA f ck) f (ba.set v lv) /\
   GrN AR w w'/\DnT AR (Uo (Vg (ds.getD v false) (λx=>wtL T x (chK kf pf v n)) ((bk (kf v ||| 2^v) 32).length-1) (R v))) w' mv /\
   DnB AR (ds.getD v false) w' lv (Vg (ds.getD v false) (λx=>wtL T x (chK kf pf v n)) ((bk (kf v ||| 2^v) 32).length-1) (R v)):=by
 obtain⟨ed,hB,fh,aq⟩:=hW;have eu:=hF.n32;have j8:=hF.fn;have hv:v<n:=om
 have hx:Rd wF 1 DA f (ds.map Value.bool):=hds ▸ hD;refine Jz Tryz.func70 Tryz.ntmps70 rfl kr rfl ?_;refine ρ ?_;refine ld (hB.at (i:=8) rfl) ?_;refine ρ ?_;refine mkm 9 ?_;intro w1 mb a3 gu hM;obtain⟨s1,s2,s3,s4,s5⟩:=Za (Jk aq a3) (q:=v) om (.map (some mb));have iy:ta.length=n:=by have:=aq.1;omega
 refine ρ ?_;refine ix v (Rd.own (Jk aq a3)) om ?_;refine ρ ?_;refine sto (s1.trans (show ta[v]?=some (ta.getD v (.map none)) by simp[List.getD,List.getElem?_eq_getElem (show v<ta.length by omega)])) s2 ?_;refine ρ ?_;obtain⟨w2,em⟩:∃ w2,w2=w1.setCell (adr TA v) (.map (some mb)):=⟨_,rfl⟩;rw[<-em]at s3 s5 ⊢;clear em;have gb:∀ g,(Value.slice VA n cv).ownBlock=some g->wF.heap.size<=g/\g<w.heap.size:=(Jy fh).choose_spec.choose_spec.2.2;have d1:∀ g,(Value.slice TA n ct).ownBlock=some g->wF.heap.size<=g/\g<w.heap.size:=(Jy aq).choose_spec.choose_spec.2.2;have e5:∀ g,(Value.slice KA f ck).ownBlock=some g->wF.heap.size<=g/\g<w.heap.size:=(Jy hBa).choose_spec.choose_spec.2.2;have ia:=a3.size;have ii:=hM.lt;have du:Blk w2 b 139 _:=(hB.ext a3).grown s5 ((hB.ext a3).ne_own (Jk aq a3) rfl);have cw:w2.ownsRow wF.heap.size 179 1 (.slice VA n cv) n va:=Zf (Jk fh a3) (Jk aq a3) s5 rfl
 have fw:w2.ownsRow wF.heap.size 87 1 (.slice KA f ck) f ba:=Zf (Jk hBa a3) (Jk aq a3) s5 rfl;have ft:MapS Tryz.prog 9 w2 mb 0 (λ_=>none):=hM.kept s5 (λe=>by have:=(d1 mb e.symm).2;omega);have f8:GrN AR w w2:=(GrN.ext a3).trans (GrN.by s5 λk C=>hAR k (.inr (.inl C)));have ag:Ext wF w2:=Qg (ed.trans a3) s5 λk C=>(d1 k C).1;have gw:wF.heap.size<=mb:=nL ed.size gu;have ih:=ft.lt;obtain⟨RA,rc,ir,g2,gl,gk,fl,hf⟩:=hF.rels.parts;rw[List.length_map,List.length_range]at g2 gl gk fl;obtain⟨re,ib,⟨t,i6,dw⟩,c5⟩:=hf v (by simpa using hv);subst i6;simp only[List.getElem_map,List.getElem_range]at dw;obtain⟨⟨PA,pc,g5,j2,j1,j0⟩,g4,g9⟩:=id dw;obtain⟨t1,t2,t3⟩:=t;simp only[Yf]at g5 g4;subst g5;subst g4;have et:(nz (bk (kf v ||| 2^v) 32)).length=(bk (kf v ||| 2^v) 32).length:=Je _;subst g2;refine cl (Qvx (R:=R) du rfl rfl (hF.bags.ext ag) (hF.rels.ext ag λcs a h=>Jnk h ag) eu hv hF.kb) ?_
 rintro vl w3 ⟨hw,d7⟩;have b8:=ag.trans d7;have i2:=du.ext d7;have db:∀ j u,([.int .i64 ((bk (kf v ||| 2^v) 32).length:Int),t3]:List Value)[j]?=some u->w3.cell? (((adr RA (v*3)).add 1).add j)=some u:=λj u hu=>by
  have:=c5 (1+j) u (by rw[Nat.add_comm];exact hu);rw[Qo]at this;rw[Qo,Qo,Nat.add_assoc];exact Gb b8 this
 refine ρ ?_;refine ld (i2.at (i:=6) rfl) ?_;refine ρ ?_;refine ixq 3 v (fl.ext b8) hv ?_;refine ρ ?_;refine lds (cs:=[.int .i64 ((bk (kf v ||| 2^v) 32).length:Int),t3]) db ?_;refine ρ ?_;refine cl (Jgr (ar:=(bk (kf v ||| 2^v) 32).length) (ls:=R v) ((dw.ext b8).rel)) ?_;rintro ur w5 ⟨eh,c4⟩;obtain⟨ps,GA,gc,dz,rfl,j6,ie,ep,da⟩:=c4;have df:(R v).length=ps.length:=by rw[dz,List.length_map]
 have iz:=hF.rlen v hv;have a1:=d7.trans eh;have dd:=ep.here;have aw:∀ p∈ps,RowV w5 p.1 p.2:=λp hp=>(da p hp).here;have c8:=du.ext a1;have au:=ag.trans a1;have hr:=hw.ext eh;have dq:=ft.ext a1;have eo:∀ c,c≠v->(ta.set v (.map (some mb))).getD c (.map none)=ta.getD c (.map none):=λc hc=>by simp[List.getD,List.getElem?_set_ne (Ne.symm hc)]
 have gt:∀ c,c<n->pf c=(v:Int)->c≠v:=λc hc hp e=>hF.pn c hc (by rw[hp,e]);have cq:GrN AR w w5:=f8.trans (GrN.ext a1);have bl:=cq;obtain⟨d,hd⟩:∃ d,d=ds.getD v false:=⟨_,rfl⟩;obtain⟨m,c6⟩:∃ m,m=(bk (kf v ||| 2^v) 32).length-1:=⟨_,rfl⟩;obtain⟨wt,d8⟩:∃ wt:Row->Nat,wt=λx=>wtL T x (chK kf pf v n):=⟨_,rfl⟩;rw[<-hd,<-c6,<-d8];rw[<-c6]at hval;obtain⟨S,hS⟩:∃ S:Nat,S=(4294967296^20)^32:=⟨_,rfl⟩;obtain⟨e,he,fj⟩:∃ e,e<=800/\S<=4294967296^e:=⟨20*32,om,by rw[hS,<-Nat.pow_mul];exact nR _⟩;have ei:∀ x,wt x<=S:=λx=>by
  rw[d8,hS];refine nL (Jds λp hp=>hTb _ _) (Nat.pow_le_pow_right (Nat.pow_pos (by decide)) ?_);have:=Jzl kf pf v n;omega
 refine ρ ?_;refine Jt (fun (i:Nat) (vb:Value)=>[(0,.pointer (some ⟨b,0,none⟩)),(1,.int .i64 (v:Int)),(5,vl),(6,vb),(34,.slice GA ps.length gc),(35,.int .i64 (ps.length:Int)),(36,.int .i64 (i:Int))])
  (λi vb w'=>i<=ps.length/\Ext w5 w'/\∃ G,OwnB d w5.heap.size w' vb G/\G.map (·.2)=Vg d wt m ((R v).take i)/\G.length<=i/\∀ q∈G,q.2.2.sum<=i*S/\q.2.2.sz<=i) (λi _=>ps.length-i) 0 (.slice none 0 0) sB
  ⟨Nat.zero_le _,Ext.refl _,[],OwnB.nil _ _ _,rfl,Nat.le_refl _,λq hq=>by cases hq⟩ ?_
 clear hS;rintro i vb w6 ⟨hi,D,G,am,ab,gm,b4⟩;obtain⟨LA,lc,rfl,gx,ao⟩:=am.form;refine ρ ?_;refine ci (λh=>?_) (λh=>?_)
 .have li:i<ps.length:=by have:=oT h;omega
  clear h;obtain⟨x,c1⟩:∃ x,x=(ps.getD i z0).2:=⟨_,rfl⟩;have e8:x∈R v:=by rw[dz,c1];exact List.mem_map_of_mem (getD_mem' z0 ps li)
  have gg:(R v).getD i []=x:=by rw[dz,c1];simp[List.getD,List.getElem?_eq_getElem li]
  obtain⟨e9,d2⟩:=hF.rows v hv x e8;have bf:RowV w6 (ps.getD i z0).1 x:=by rw[c1];exact(aw _ (getD_mem' z0 ps li)).ext D
  have ch:=dd.ext D;have b7:=au.trans D;have cm:=cq.trans (GrN.ext D);have ho:GV 2 ChG w6 vl (chK kf pf v n):=(hr.ext D).gv (by have:=Jzl kf pf v n;omega);have c3:=Qc [] (show i<(R v).length by omega);rw[gg]at c3;refine ρ ?_;refine ix i ch li ?_;refine ρ ?_;refine ld (ch.cell (show(ps.map (·.1))[i]?=some (ps.getD i z0).1 by simp[List.getD,List.getElem?_eq_getElem li])) ?_
  refine ρ ?_;refine cl (Jpw (T:=T) (AR:=AR) (hF.tb.ext b7) (c8.ext D) rfl rfl rfl (Rd.own (Jk cw (a1.trans D))) (Rd.own (Jk s3 (a1.trans D))) ho (by have:=Jzl kf pf v n;omega) (λp hp=>?_) bf d2 (λp hp bh=>?_) (λp hp bh=>?_) (λp hp bh k=>hT1 _ bh k) (λp hp k=>hTb _ k)) ?_
  .obtain⟨J,h2,h3⟩:=Jjw hp;refine⟨J,λc hc=>?_⟩;rw[h3]at hc;rw[e9];exact Jzj hc
  .obtain⟨J,h2,h3⟩:=Jjw hp;exact(hdv _ J h2 bh).gr cm
  .obtain⟨J,h2,h3⟩:=Jjw hp;rw[eo _ (gt _ J h2)];exact(hdt _ J h2 bh).gr cm
  rintro vw w7 ⟨d9,f9,b3⟩;have i5:wtL T x (chK kf pf v n)=wt x:=by rw[d8]
  rw[i5]at d9;obtain⟨WA,wc,rfl,bd⟩:=Jhx d9;refine ρ ?_;refine ci (λh=>?_) (λh=>?_)
  .have h0:wt x=0:=by
    have:=Xa h;rcases Nat.eq_zero_or_pos (wt x) with h'|h'
    .exact h'
    have:=bd.2 h';omega
   refine ρ ?_;refine Jf (i+1) _ sO ⟨li,D.trans b3,G,am.ext b3,?_,om,λq hq=>⟨?_,by have:=(b4 q hq).2;omega⟩⟩ om
   .rw[c3,Jcl,Qhk h0];exact ab
   have:=(b4 q hq).1;rw[Nat.succ_mul];omega
  have h0:wt x≠0:=λe=>by(have:=Zq h;have J:¬ 0<(Jq (wt x)).length:=λh'=>by have:=bd.1 h';omega);(omega)
  clear h;obtain⟨XA,xc,g1,iw,i8,gh⟩:=id bf;have j3:x.length=m+1:=by rw[e9,c6];omega
  rw[g1];have dh:RdR w7 XA (x.take m):=by
   have J:=(Rd.ext gh b3).take (m:=m) om;have h2:(Jh x).take (m*3)=Jh (x.take m):=Jgj x om;rw[h2]at J;have h3:(x.take m).length=m:=by rw[List.length_take];omega
   unfold RdR;rw[h3];exact J
  have bj:RowV w7 (.slice XA m xc) (x.take m):=⟨XA,xc,by rw[List.length_take,Nat.min_eq_left om],by rw[List.length_take];omega,by rw[List.length_take];omega,dh⟩;have cg:=D.trans b3;have ak:=am.ext b3;refine ρ ?_;refine slh m ?_;refine ρ ?_;refine Jps (fun (bb:Bool) (_:Unit)=>[(66,.bool bb),(0,.pointer (some ⟨b,0,none⟩)),(1,.int .i64 (v:Int)),(5,vl),(6,.slice LA G.length lc),(8,.slice XA x.length xc),(9,.slice WA (Jq (wt x)).length wc),(10,.slice XA m xc),(34,.slice GA ps.length gc),(35,.int .i64 (ps.length:Int)),(36,.int .i64 (i:Int))])
   (λbb _ w'=>Ext w7 w'/\(bb=true↔¬ (G.getLast?.map (·.2.1))=some (x.take m))) ?_ ?_
  .refine ki 55 (λh=>?_) (λh=>?_)
   .have gn:G=[]:=List.eq_nil_of_length_eq_zero (by have:=Xa h;omega);refine ρ ?_;refine Vk true () sB ⟨Ext.refl _,?_⟩;rw[gn];simp
   have de:G≠[]:=λe=>by have:=Zq h;rw[e]at this;simp at this
   obtain⟨o,z,ez,dx,_⟩:=Jcn de;have af:z∈G:=by rw[ez];simp
   obtain⟨kv,zq,b5,bz,b6⟩:=ak.el z af;have ic:G.length=o.length+1:=by rw[ez];simp
   have gd:(Ju G)[(o.length)*3+0]?=some kv:=by
    rw[Ir (p:=z) (λp hp=>(ak.el p hp).len) (by rw[ez];simp) om,b5];rfl
   have er:=Rd.own ak.own;refine ρ ?_;refine ixq 3 o.length er om ?_;refine ρ ?_;refine ld (by have:=er.cell gd;rw[<-Qo]at this;exact this) ?_;refine ρ ?_;refine cl (Jgg bz.v bj) ?_;rintro u w8 ⟨rfl,d3⟩;refine ρ ?_;refine Vk (!decide (z.2.1=x.take m)) () sB ⟨d3,?_⟩;rw[dx];simp
  rintro bb _ w8 ⟨a6,fc⟩;refine Zw (λs:((List (List Value×BkT))×Value×Option Addr×Tr)×Value=>[(0,.pointer (some ⟨b,0,none⟩)),(1,.int .i64 (v:Int)),(5,vl),(6,s.2),(8,.slice XA x.length xc),(9,.slice WA (Jq (wt x)).length wc),(10,.slice XA m xc),(34,.slice GA ps.length gc),(35,.int .i64 (ps.length:Int)),(36,.int .i64 (i:Int))])
   (λs w'=>Ext w5 w'/\GrN (λk=>Xq w5.heap.size (.slice LA G.length lc) k/\w5.heap.size<=k) w7 w'/\OwnB d w5.heap.size w' s.2 (s.1.1++[([s.1.2.1,.bool d,.pointer s.1.2.2.1],(x.take m,s.1.2.2.2))])/\Vg d wt m ((R v).take (i+1))=s.1.1.map (·.2)++[(x.take m,Tr.put d (x.getD m V0) (wt x) s.1.2.2.2)]/\s.1.1.length<=i/\s.1.2.2.2.sum<=i*S/\s.1.2.2.2.sz<=i/\∀ q∈s.1.1,q.2.2.sum<=i*S/\q.2.2.sz<=i) ?_ ?_
  .have bp:=ak.ext a6;refine ci (λh=>?_) (λh=>?_)
   .have et:=fc.1 h;have a8:=cg.trans a6;have a4:Ext w8 w8.drew:=(Ext.refl w8).drew;have i0:=(c8.ext a8).ext a4;have ec:=(au.trans a8).trans a4;have ha:¬ w5.heap.size<=b:=by have:=c8.lt;omega
    refine ρ ?_;refine drN (λk=>w5.heap.size<=k) 10 [(0,0),(0,1),(0,3),(0,4),(0,5),(0,6),(0,7),(0,8),(0,9),(0,10),(1,2),(1,11),(0,12),(1,13),(1,14),(0,15)] kr ?_;refine ρn ?_;refine nld (Jl (i0.at (i:=2) rfl) ha) ?_;refine ρn ?_;refine nix v (Rd.ext hx ec) om ?_;refine ρn ?_;refine nld (λw' hg=>Gb (au.trans (hg.old (a8.trans a4) λk C=>C)) (RdB.cell hD (show v<ds.length by omega))) ?_;refine ρn ?_;refine nop ?_;refine cl (Jvj ((bj.ext a6).ext a4) (Xq w5.heap.size (.slice LA G.length lc)) λk C=>?_) ?_
    .rcases C with h'|h'
     .exact nM h' (a8.trans a4).size
     exact nM (ao k h').2 ((b3.trans a6).trans a4).size
    rintro kv w9 ⟨f0,c2⟩;obtain⟨an,ae,rfl,_⟩:=id f0;refine ρ ?_;refine Jm (GrN.ext c2) ?_;refine ρn ?_;refine nop ?_;refine cl Qsd ?_;rintro u ga ⟨rfl,a2⟩;refine ρ ?_;refine Jm (GrN.ext a2) ?_;rw[<-hd];refine ρn ?_;refine Ig (Qys _ an _ ae d none rfl) ?_;refine ρn ?_;refine nop ?_;refine bsl (Qyk _ an _ ae d none rfl) ?_;intro bw ja a9 io g0;refine ρ ?_;refine Jm (GrN.ext a9) ?_;refine ρn ?_;refine nop ?_;have av:Ext w8 bw:=((a4.trans c2).trans a2).trans a9;have ex:BkE d (Xq w5.heap.size (.slice LA G.length lc)) bw [.slice an (x.take m).length ae,.bool d,.pointer none] (x.take m,.nil):=⟨_,_,rfl,(f0.ext a2).ext a9,rfl⟩;refine apB (bp.ext av) g0 ex om (a8.trans av).size ?_;intro e2 bs fp ah;refine ρ ?_;refine Jm (GrN.by ah λg eg=>(ao g eg).1) ?_;refine ρn ?_;refine ρ ?_;refine Jb ((G,.slice an (x.take m).length ae,none,.nil),e2) sB ⟨?_,?_,fp,?_,gm,by simp[Tr.sum],by simp[Tr.sz],b4⟩
    .exact Qg (a8.trans av) ah λg eg=>(ao g eg).1
    .exact(GrN.ext (a6.trans av)).trans (GrN.by ah λg eg=>⟨.inr eg,(ao g eg).1⟩)
    rw[c3,Jcl,<-ab];exact Qhl h0 (by rw[List.getLast?_map];simpa [Option.map_map] using et)
   have hl:(G.getLast?.map (·.2.1))=some (x.take m):=Classical.byContradiction λh'=>by rw[fc.2 h']at h;cases h
   have de:G≠[]:=λe=>by rw[e]at hl;cases hl
   obtain⟨o,z,ez,dx,_⟩:=Jcn de;rw[dx]at hl;have e7:z.2.1=x.take m:=by simpa using hl
   have af:z∈G:=by rw[ez];simp
   obtain⟨kv,zq,b5,bz,b6⟩:=bp.el z af;obtain⟨zp,rfl⟩:=b6.ptr;obtain⟨zc,zk,zt⟩:=z;simp only at b5 e7;subst b5;subst e7;have ff:=b4 _ af;refine ρ ?_;refine Jb ((o,kv,zp,zt),.slice LA G.length lc) sB ⟨cg.trans a6,GrN.ext a6,by rw[<-ez];exact bp,?_,?_,ff.1,ff.2,λq hq=>b4 q (by rw[ez];simp[hq])⟩
   .rw[c3,Jcl,<-ab,ez,List.map_append];exact Qhm h0
   have:G.length=o.length+1:=by rw[ez];simp
   simp only;omega
  rintro⟨⟨o,kv,q,t⟩,e2⟩ w9 ⟨bc,f6,aj,f5,h5,gj,gi,f3⟩;simp only at aj f5 h5 gj gi f3;obtain⟨LB,lb,rfl,gy,ax⟩:=aj.form;have ac:(o++[([kv,.bool d,.pointer q],(x.take m,t))]).length=o.length+1:=by simp
  rw[ac]at gy ax ⊢;have ay:=aj.own;rw[ac]at ay;refine ρ ?_;refine ixq 3 o.length (Rd.own ay) om ?_;refine ρ ?_;have Z:Ext w9 w9.drew:=(Ext.refl w9).drew;have b9:=bc.trans Z;have ip:=aj.ext Z;have dm:=Jk ay Z;have gf:RowV w9.drew (.slice XA x.length xc) x:=by
   have:=(aw _ (getD_mem' z0 ps li)).ext b9;rw[<-c1,g1]at this;exact this
  obtain⟨jb,iq,i4,_,_,ca⟩:=id gf;injection i4 with exx1 _ exx2
  subst exx1;subst exx2;have fb:BkE d (Xq w5.heap.size (.slice LB (o.length+1) lb)) w9 [kv,.bool d,.pointer q] (x.take m,t):=by
   have:=aj.el ([kv,.bool d,.pointer q],(x.take m,t)) (by simp);rw[ac]at this;exact this
  obtain⟨iv,q',g8,ex,en⟩:=id fb;simp only[List.cons.injEq,and_true,true_and]at g8;obtain⟨g7,g6⟩:=g8;subst g7;subst g6;have dg:∀ j u,([.bool d,.pointer q]:List Value)[j]?=some u->w9.drew.cell? (((adr LB (o.length*3)).add 1).add j)=some u:=λj u hu=>by
   have j5:j<2:=(List.getElem?_eq_some_iff.1 hu).1;have J:(Ju (o++[([kv,.bool d,.pointer q],(x.take m,t))]))[o.length*3+(1+j)]?=some u:=by
    rw[Ir (p:=([kv,.bool d,.pointer q],(x.take m,t))) (λp hp=>(aj.el p hp).len) (by simp) om,Nat.add_comm 1 j];exact hu
   have:=(Rd.own dm).cell J;rw[Qo,Qo,Nat.add_assoc];exact this
  have ej:NatV w9.drew (.slice WA (Jq (wt x)).length wc) (wt x):=by
   have J:NatX (λk=>Xq w5.heap.size (.slice LA G.length lc) k/\w5.heap.size<=k) w7 (.slice WA (Jq (wt x)).length wc) (wt x):=f9.x d9 λk C=>by
    rcases C.1 with h'|h'
    .have:=D.size;omega
    exact(ao k h').2
   exact(J.gr f6).1.ext Z
  have be:Xk (x.getD m V0)=true:=hval x e8;have cj:Nb (t.sum+wt x):=Nb.big (k:=i+1) fj he om (by have:=ei x;rw[Nat.succ_mul];omega);have e4:t.sz+1<=1000000:=om
  have bi:∀ k,Xq w5.heap.size (.slice LB (o.length+1) lb) k->k<w9.heap.size:=λk C=>by
   rcases C with h'|h'
   .exact nM h' bc.size
   exact(ax k h').2
  refine drH (λi=>Nat.ble 16 i) ?_;refine Zv (fuel':=7) 8 [(0,0),(0,1),(0,2),(0,3),(0,4),(0,5),(0,6),(0,7),(0,8),(0,9),(0,10)] #[true,true,true,true,true,true,true,true,true,true,true,false,false,false,false,false,false,false] kr kr rfl ?_;refine ρd ?_;refine Jo (cs:=[.bool d,.pointer q]) dg ?_;refine ρd ?_;refine Vw 3 m ca om ?_;refine ρd ?_;refine Jo (cs:=(x.getD m V0).cells) (λj u hu=>RdR.cell ca om hu) ?_;refine ρd ?_;refine Xf ?_;refine Jwp 2 (lst 18 16) (fun (y:Nat×Option Addr)=>[(12,.pointer (some ⟨y.1,0,none⟩)),(100,.agg #[.bool d,.pointer y.2]),(101,.int .i64 0),(0,.pointer (some ⟨b,0,none⟩)),(1,.int .i64 (v:Int)),(5,vl),(6,.slice LB (o.length+1) lb),(11,.pointer (some (adr LB (o.length*3)))),(34,.slice GA ps.length gc),(35,.int .i64 (ps.length:Int)),(36,.int .i64 (i:Int))])
   (λy W=>Ext w9.drew W/\Blk W y.1 91 [.bool false,.pointer none]/\w9.drew.heap.size<=y.1/\TrV (λk=>Xq w5.heap.size (.slice LB (o.length+1) lb) k∨k=y.1) W (Tr.put d (x.getD m V0) (wt x) t) (.pointer y.2)) ?_ ?_
  .rintro⟨e0,p2⟩ W ⟨eb,fy,fd,fi⟩;simp only at fy fd fi;refine Zv (fuel':=0) 8 [(2,16),(2,17)] (lst 18 18) kr kr rfl ?_;refine Qj ?_;refine stW fy ?_;intro W2 fx co i9;refine Jc (Qs ?_);refine Qj ?_;refine ρ ?_;refine Qs ?_;refine Kr (Xf ?_);refine Vf kr ?_;refine ρ ?_;have d6:Ext w5 W:=b9.trans eb;have cd:Ext w9 W:=Z.trans eb;have ee:w9.heap.size<=e0:=nL Z.size fd;have ap:GrN (λk=>k=e0) W W2:=GrN.by co λk C=>by injection C with C;exact C.symm
   have fo:W2.ownsRow w5.heap.size 93 3 (.slice LB (o.length+1) lb) (o.length+1) (Ju (o++[([kv,.bool d,.pointer q],(x.take m,t))])):=Js (Jk ay cd) ap λg eg e=>by have:=(ax g eg).2;omega
   refine ρ ?_;refine ldW fx ?_;refine ρ ?_;refine Go.Wk.kv 108 (congrArg (λp=>Value.pointer (some p)) (Qo LB (o.length*3) 1)) ?_;refine stoG (q:=o.length*3+1) (cs:=[.bool d,.pointer p2]) fo (by simp;omega) (by simp) ?_ Qrm;intro W3 cy cn;have di:∀ p∈o,p.1.length=3:=λp hp=>(aj.el p (by simp[hp])).len;have i7:=Xxj di kv (.bool d) (.pointer q) (.bool d) (.pointer p2) (x.take m,t) (x.take m,Tr.put d (x.getD m V0) (wt x) t);rw[show o.length*3+1+([Value.bool d,.pointer p2]:List Value).length=o.length*3+1+2 from rfl,i7]at cy;have d5:Ext w5 W2:=Qg d6 co λk C=>by injection C with C;have:=bc.size;omega
   have d4:Ext w5 W3:=Qg d5 cn λk C=>(ax k C).1;have cp:GrN (λk=>Xq w5.heap.size (.slice LB (o.length+1) lb) k) W2 W3:=GrN.by cn λk C=>.inr C
   have cr:∀ p:List Value×BkT,BkE d (Xq w5.heap.size (.slice LB (o.length+1) lb)) w9 p.1 p.2->BkE d (Xq w5.heap.size (.slice LB (o.length+1) lb)) W3 p.1 p.2:=λp hp=>by
    have J:BkE d (λk=>Xq w5.heap.size (.slice LB (o.length+1) lb) k∨k=e0) w9 p.1 p.2:=hp.old λk C=>C.imp id λe=>by rw[e];exact ee
    exact(((J.ext cd).gr (ap.mono λk _ C=>.inr C)).old λk C=>.inl (.inl C)).gr cp
   refine ρ ?_;refine Jf (i+1) (.slice LB (o.length+1) lb) sO ⟨li,d4,o++[([kv,.bool d,.pointer p2],(x.take m,Tr.put d (x.getD m V0) (wt x) t))],⟨?_,λp hp=>?_⟩,?_,by simp;omega,λp hp=>?_⟩ om
   .have:(o++[([kv,Value.bool d,.pointer p2],(x.take m,Tr.put d (x.getD m V0) (wt x) t))]).length=o.length+1:=by simp
    rw[this];exact cy
   .rcases List.mem_append.1 hp with J|J
    .have:=aj.el p (by simp[J]);rw[ac]at this;exact cr p this
    rw[List.mem_singleton.1 J];obtain⟨iu,q3,e3,f2,_⟩:=cr ([kv,.bool d,.pointer q],(x.take m,t)) fb;simp only[List.cons.injEq,and_true,true_and]at e3;rw[<-e3.1]at f2;exact⟨kv,.pointer p2,rfl,f2,((fi.gr (ap.mono λk _ C=>.inr C)).old λk C=>.inl (.inl C)).gr cp⟩
   .rw[f5];simp
   rcases List.mem_append.1 hp with J|J
   .have:=f3 p J;rw[Nat.succ_mul];omega
   rw[List.mem_singleton.1 J];have h2:=Jkm d (x.getD m V0) (wt x) t;have h3:=Tr.put_sz d (x.getD m V0) (wt x) t;have h4:=ei x;simp only;rw[Nat.succ_mul];omega
  intro rest;refine htwo 11 15 kr rfl rfl rfl ?_ ?_
  .refine ρ ?_;refine cl (Jrv (en.ext Z) be ej (λk C=>nM (bi k C) Z.size) h0 cj e4) ?_;rintro u W ⟨q2,rfl,bg,hy⟩;obtain⟨p2,rfl⟩:=bg.ptr;refine Jc (Jbx hy ?_);refine Zv (fuel':=4) 8 [(0,12),(0,13)] (lst 18 14) kr kr rfl ?_;refine ρd ?_;refine Xf ?_;refine Gv (fuel':=3) 14 kr kr rfl rfl ?_;refine ρp ?_;refine ρd ?_;refine Xf ?_;refine Zv (fuel':=2) 8 [(1,15)] (lst 18 16) kr kr rfl ?_;refine dalc' (cs:=[.bool false,.pointer none]) Gg ?_;intro W2 br b2 ai b1;refine Kr (Xf ?_);exact rest (br,p2) _ _ ⟨hy.trans b2,b1,Nat.le_trans hy.size ai,(bg.old λk C=>C.imp id λe=>by rw[e];exact ai).ext b2⟩ sB
  refine ρ ?_;refine alc Gg ?_;intro W br hy ai b1;refine Jc (Jbx hy ?_);refine Zv (fuel':=3) 8 [(1,11),(0,12),(0,13)] #[true,true,true,true,true,true,true,true,true,true,true,true,true,true,false,true,false,false] kr kr rfl ?_;refine ρd ?_;have hh:∀ k,(Xq w5.heap.size (.slice LB (o.length+1) lb) k∨k=br)->k<W.heap.size:=λk C=>by
   rcases C with h'|h'
   .exact nM (bi k h') (Z.trans hy).size
   rw[h'];exact b1.lt
  refine dcl (Jrv (N:=λk=>Xq w5.heap.size (.slice LB (o.length+1) lb) k∨k=br) (((en.ext Z).old λk C=>C.imp id λe=>by rw[e];exact ai).ext hy) be (ej.ext hy) hh h0 cj e4) ?_;rintro u W2 ⟨q2,rfl,bg,b2⟩;obtain⟨p2,rfl⟩:=bg.ptr;refine⟨b2,?_⟩;refine ρd ?_;refine Xf ?_;refine Gv (fuel':=2) 14 kr kr rfl rfl ?_;refine ρp ?_;refine ρd ?_;refine Xf ?_;refine hlist (listed':=lst 18 16) kr ?_;exact rest (br,p2) _ _ ⟨hy.trans b2,b1.ext b2,ai,bg⟩ sB
 have h7:i=ps.length:=by have:=oF h;omega
 clear h;rw[h7,<-df,List.take_length]at ab;have dt:GInv d wt m (R v) (Vg d wt m (R v)):=Jwq hlt λy hy=>by rw[(hF.rows v hv y hy).1,c6];omega
 have b7:=au.trans D;have il:=(GrN.ext (N:=λk=>k=mb) (a1.trans D));have fr:=dq.ext D;have ig:=fr.lt;have i1:=c8.ext D;have hb:=Jk s3 (a1.trans D);have ew:∀ g,(Value.slice LA G.length lc).ownBlock=some g->¬ g=mb:=λg eg e=>by have:=(ao g eg).1;have:=dq.lt;omega
 have h9:¬ b=mb:=λe=>by have:=hB.lt;omega
 have dn:=dq.lt;have i3:∀ k,(AR k∨k=mb)->k<w6.heap.size:=by
  rintro k (h'|h')
  .have:=hARl k h';have:=(bl.size);have:=D.size;omega
  omega
 refine ρ ?_;refine Xm (fun (j:Nat) (mc:Nat) (fm:Lit->Option Value)=>[(0,.pointer (some ⟨b,0,none⟩)),(1,.int .i64 (v:Int)),(6,.slice LA G.length lc),(110,.slice LA G.length lc),(111,.int .i64 (G.length:Int)),(112,.int .i64 (j:Int))])
  (λj mc fm w'=>j<=G.length/\GrN (λk=>k=mb) w6 w'/\MapS Tryz.prog 9 w' mb mc fm/\mc<=j/\∀ k:Row,(fm (.string (idn k))=none/\Uo ((G.map (·.2)).take j) k=0)∨∃ y,fm (.string (idn k))=some y/\0<Uo ((G.map (·.2)).take j) k/\NatX (λk=>AR k∨k=mb) w' y (Uo ((G.map (·.2)).take j) k)) (λj _ _=>G.length-j) 0 0 (λ_=>none) sB
  ⟨Nat.zero_le _,GrN.refl _ _,fr,Nat.le_refl _,λk=>.inl ⟨rfl,rfl⟩⟩ ?_
 rintro j mc fm w7 ⟨hj,O,fq,j4,dk⟩;have c7:=Jv i1 O h9;have ak:=Js am.own O ew;have fk:=Js hb O λg eg e=>by have:=(d1 g eg).2;omega
 have cc:Ext wF w7:=O.old b7 λk C=>by rw[C];exact gw
 refine ρ ?_;refine ci (λh=>?_) (λh=>?_)
 .have lj:j<G.length:=by have:=oT h;omega
  clear h;obtain⟨z,hz⟩:∃ z,z=G[j]:=⟨_,rfl⟩;have af:z∈G:=by rw[hz];exact List.getElem_mem lj
  have e6:z.2∈Vg d wt m (R v):=by rw[<-ab];exact List.mem_map_of_mem af
  have fa:=(am.el z af).gr (O.mono λk _ C=>.inl (by rw[C];exact dn));obtain⟨kv,zq,b5,bz,b6⟩:=id fa;obtain⟨zp,rfl⟩:=b6.ptr;obtain⟨an,ae,rfl,ik,ij,ey,_⟩:=id bz;have a7:FitR z.2.1:=by
   obtain⟨y,hy,e1,_⟩:=entL_ne.1 (dt.con z.2 e6).2;have:=(hF.rows v hv y hy).2;rw[<-e1];exact⟨by have:=this.1;rw[List.length_take];omega,λu hu=>this.2 u (List.mem_of_mem_take hu)⟩
  have dl:∀ i u,([.slice an z.2.1.length ae,.bool d,.pointer zp]:List Value)[i]?=some u->w7.cell? ((adr LA (j*3)).add i)=some u:=λi u hu=>by
   have h6:i<3:=(List.getElem?_eq_some_iff.1 hu).1;rw[Qo];refine(Rd.own ak).cell ?_;rw[Ir (p:=z) (λp hp=>(am.el p hp).len) (by rw[hz];exact gE lj) h6,b5];exact hu
  refine ρ ?_;refine ixq 3 j (Rd.own ak) lj ?_;refine ρ ?_;refine lds (cs:=[.slice an z.2.1.length ae,.bool d,.pointer zp]) dl ?_;refine ρ ?_;refine alc Jdq ?_;intro w8 j9 d3 fe fz;refine ρ ?_;refine stb (cs':=[.slice an z.2.1.length ae,.bool d,.pointer zp]) fz ?_ (Jbk rfl);intro w9 dv j7 c2;have ef:Ext w7 w9:=c2 w7 d3 fe;have ea:Ext w9 w9.drew:=(Ext.refl w9).drew;have a5:=ef.trans ea;refine ρ ?_;refine drN (λ_=>False) 10 [(0,0),(0,1),(0,2),(0,3),(0,4),(0,5),(0,6),(0,7),(0,8),(0,10),(0,11),(1,9),(1,12),(2,13)] kr ?_;have cx:=Rd.own (Jk fk a5);have bq:=dv.ext ea;refine ρn ?_;refine nld (Jl ((c7.ext a5).at (i:=8) rfl) (λe=>e)) ?_;refine ρn ?_;refine nix v cx hv ?_;refine ρn ?_;refine nld (Jl (cx.cell (show(ta.set v (.map (some mb)))[v]?=some (.map (some mb)) by rw[List.getElem?_set_self om])) (λe=>e)) ?_;refine ρn ?_;refine nld (Jl (bq.at (i:=0) rfl) (λe=>e)) ?_
  refine ρn ?_;refine Xl (cs:=[.bool d,.pointer zp]) (λw' hg j u hu=>Jl (bq.sub (i:=1) (j:=j) (by rw[Nat.add_comm];exact hu)) (λe=>e) w' hg) ?_;refine ρn ?_;refine nop ?_;refine cl (Jzb (r:=z.2.1) (hF.tb.ext (cc.trans a5)) (ey.ext a5) (λu hu=>(a7.2 u hu).1) (by have:=a7.len;omega) (by have:=a7.1;omega)) ?_;rintro un ga ⟨rfl,a2⟩;refine ρ ?_;refine Jm (GrN.ext a2) ?_;refine ρn ?_;refine nop ?_;refine cl (Jrt ((b6.ext a5).ext a2) (Nb.big (k:=i) fj he om (b4 z af).1)) ?_;rintro uy bw ⟨c9,h8,a9⟩;obtain⟨YA,yc,rfl,_⟩:=id c9;have ce:=(a5.trans a2).trans a9;refine ρ ?_;refine Jm (GrN.ext a9) ?_;refine ρn ?_;refine Xh ?_;refine mup KS (fq.ext ce) (by unfold maxLen;omega) (Gt a7) ?_;intro bs fu ah;have bo:GrN (λk=>k=mb) bw bs:=GrN.by ah λk C=>by injection C with C;exact C.symm
  have bn:GrN (λk=>k=mb) w7 bs:=(GrN.ext ce).trans bo;have ge:NatX (λk=>AR k∨k=mb) bs (.slice YA (Jq z.2.2.sum).length yc) z.2.2.sum :=
   (h8.x c9 λk C=>nM (i3 k C) (nL O.size (a5.trans a2).size)).gr (bo.mono λk _ C=>.inr C)
  have g3:(G.map (·.2)).take (j+1)=(G.map (·.2)).take j++[z.2]:=by
   rw[List.take_succ_eq_append_getElem (by rw[List.length_map];exact lj),List.getElem_map,hz]
  have gq:z.2.1 ∉ ((G.map (·.2)).take j).map (·.1):=by
   have J:=dt.lt;rw[<-ab,<-List.take_append_drop (j+1) (G.map (·.2)),g3,List.map_append,List.map_append]at J
   intro hm;have h2:=(List.pairwise_append.1 (List.pairwise_append.1 J).1).2.2 _ hm z.2.1 (by simp);rw[Yj]at h2;omega
  refine ρ ?_;refine Qp (j+1) (mc+1) (upL fm (.string (idn z.2.1)) (some (.slice YA (Jq z.2.2.sum).length yc))) sO ⟨lj,O.trans bn,fu,om,λk=>?_⟩ om;rw[g3,Qgn _ _ _ gq];by_cases e:z.2.1=k
  .rw[if_pos e,<-e,Kq (KS.key (Gt a7))];exact .inr ⟨_,rfl,Qgl dt e6,ge⟩
  rw[if_neg e,Uy (λe'=>e (Jck (by injection e'.symm)))];rcases dk k with J|⟨y,J,h2,h3⟩
  .exact .inl J
  exact .inr ⟨y,J,h2,h3.gr (bn.mono λk _ C=>.inr C)⟩
 have gz:j=G.length:=by have:=oF h;omega
 clear h;have dj:(G.map (·.2)).take j=Vg d wt m (R v):=by rw[ab,gz,List.take_of_length_le];rw[<-ab,List.length_map];exact nR _
 rw[dj]at dk;have aa:=Js (Jk fw (a1.trans D)) O λg eg e=>by have:=(e5 g eg).2;omega
 have fg:=Js (Jk cw (a1.trans D)) O λg eg e=>by have:=(gb g eg).2;omega
 obtain⟨r1,r2,r3,r4,r5⟩:=Za aa (q:=v) om (.slice LA G.length lc);have im:ba.length=f:=by have:=hBa.1;omega
 refine ρ ?_;refine ld (c7.at (i:=9) rfl) ?_;refine ρ ?_;refine ix v (Rd.own aa) hvf ?_;refine ρ ?_;refine sto (r1.trans (show ba[v]?=some (ba.getD v (.slice none 0 0)) by simp[List.getD,List.getElem?_eq_getElem (show v<ba.length by omega)])) r2 ?_;refine ρ ?_;obtain⟨w8,ek⟩:∃ w8,w8=w7.setCell (adr KA v) (.slice LA G.length lc):=⟨_,rfl⟩;rw[<-ek]at r3 r5 ⊢;clear ek;have f4:GrN AR w w7:=(((bl.trans (GrN.ext D)).mono λk _ C=>(.inl C:AR k∨k=mb)).trans (O.mono λk _ C=>.inr C)).mono λk C h=>h.elim id λe=>by omega
 have bm:GrN AR w7 w8:=GrN.by r5 λk C=>hAR k (.inr (.inr C))
 have f7:GrN (λk=>AR k∨k=mb) w6 w8:=(O.mono λk _ C=>.inr C).trans (bm.mono λk _ C=>.inl C);have bp:=Zf ak aa r5 rfl;have cz:¬ AR mb:=by
  intro h';have:=hARl mb h';omega
 have d0:∀ k,(AR k∨k=mb)->k<w5.heap.size:=by
  rintro k (h'|h')
  .have:=hARl k h';have:=(bl.size);omega
  omega
 refine Jj ⟨rfl,.map (some mb),.slice LA G.length lc,⟨Qg cc r5 λk C=>(e5 k C).1,c7.grown r5 (c7.ne_own aa rfl),Zf fg aa r5 rfl,Zf fk aa r5 rfl⟩,r3,f4.trans bm,
  ⟨mb,mc,fm,rfl,om,⟨fq.kept r5 (λe=>cz (hAR mb (.inr (.inr e.symm)))),cz⟩,λk=>?_⟩,
  ⟨G,LA,lc,ab.symm,rfl,gx,om,Rd.own bp,λh0 ad e=>?_,λp hp=>⟨(am.el p hp).len,?_⟩⟩⟩
 .rcases dk k with J|⟨y,J,h2,h3⟩
  .exact .inl J
  exact .inr ⟨y,J,h2,(h3.old λk C=>.inl (.inl C)).gr bm⟩
 .intro hA;have:=(ao ad.block (by rw[e];simp[Value.ownBlock])).1;have:=d0 _ (.inl hA);omega
 have J:BkE d (λk=>AR k∨k=mb) w6 p.1 p.2:=(am.el p hp).old λk C=>.inl (.inl (d0 k C));exact(J.gr f7).old λk C=>.inl (.inl C)
end Go.Proofs.YtbcdghbonlifdaaGreatDoor
namespace Go.Proofs.YtbcdghbonlifdaaGreatDoor
open Pl Go.Wk
variable {k n v:Nat}{g h pl:Nat->Nat}
def Qy: Nat->(Nat->Nat)->Nat
 | 0,_=>0
 | n+1,g=>Qy n g+g n
theorem Jfl(e:∀ c,c<n->g c=h c): Qy n g=Qy n h:=by
 induction n with
 | zero=>rfl
 | succ n ih=>rw[Qy,Qy,ih (λc o=>e c om),e n om]
theorem Jsh(n:Nat)(g h:Nat->Nat): Qy n (λc=>g c+h c)=Qy n g+Qy n h:=by
 induction n with
 | zero=>rfl
 | succ n ih=>rw[Qy,Qy,Qy,ih];omega
theorem Jsd(e:∀ c,c<n->g c=0): Qy n g=0:=by
 induction n with
 | zero=>rfl
 | succ n ih=>rw[Qy,ih (λc o=>e c om),e n om]
theorem Qhc(g:Nat->Nat)(hk:k<n): g k<=Qy n g:=by
 induction n with
 | zero=>omega
 | succ n ih=>
  grind [Qy]
theorem Qhb(x:Nat)(hv:v<n): Qy n (λc=>if c=v then x else 0)=x:=by
 induction n with
 | zero=>omega
 | succ n ih=>
  grind [Qy,Jsd]
theorem pw2(a b s t:Nat)(h:a*s<=b*t): (2^a)^s<=(2^b)^t:=by
 rw[<-Nat.pow_mul,<-Nat.pow_mul];exact Nat.pow_le_pow_right (by decide) h
theorem Jpc{T T':Nat->Row->Nat}{x:Row}: ∀ {l:List (Nat×List Nat)},(∀ p∈l,T p.1=T' p.1)->wtL T x l=wtL T' x l
 | [],_=>rfl
 | p::l,h=>by rw[wtL,wtL,h p mC,Jpc λq hq=>h q (List.mem_cons_of_mem _ hq)]
section
variable (n f:Nat) (kf:Nat->Nat) (pf:Nat->Int) (R:Nat->List Row) (ds:List Bool)
def lastC(v:Nat): Nat:=(bk (kf v ||| 2^v) 32).length-1
noncomputable def Kk(T:Nat->Row->Nat)(v:Nat): Row->Nat :=
 if v<n then(if v<f then Uo (Vg (ds.getD v false) (λx=>wtL T x (chK kf pf v n)) (lastC kf v) (R v)) else Ud (R v) (Zl kf v) λx=>wtL T x (chK kf pf v n)) elseλ_=>0
noncomputable def TF: Nat->Nat->Row->Nat
 | 0=>λ_ _=>0
 | s+1=>λv=>Kk n f kf pf R ds (TF s) v
noncomputable def TV(pl:Nat->Nat)(v:Nat): Row->Nat:=TF n f kf pf R ds (pl v+1) v
variable {n f:Nat} {kf:Nat->Nat} {pf:Nat->Int} {R:Nat->List Row} {ds:List Bool}
theorem Jsj{T T':Nat->Row->Nat}(h:∀ c,c<n->pf c=(v:Int)->T c=T' c): Kk n f kf pf R ds T v=Kk n f kf pf R ds T' v:=by grind [wtL,chK,kf,Jpc,Jjw,Kk]
def ChF(n:Nat)(pf:Nat->Int)(pl:Nat->Nat): Prop:=∀ c v:Nat,c<n->pf c=(v:Int)->v<n/\pl c<pl v
theorem Qcb{pl:Nat->Nat}(hch:ChF n pf pl): ∀(s s' v:Nat),v<n->pl v<s->pl v<s'->TF n f kf pf R ds s v=TF n f kf pf R ds s' v
 | 0,_,_,_,h,_=>by omega
 | s+1,0,_,_,_,h=>by omega
 | s+1,s'+1,v,hv,h1,h2=>Jsj λc hc hp=>by
  have:=(hch c v hc hp).2;exact Qcb hch s s' c hc om om
theorem Qbz(hch:ChF n pf pl)(hv:v<n): TV n f kf pf R ds pl v=Kk n f kf pf R ds (TV n f kf pf R ds pl) v :=
 Jsj λc o hp=>by
  have:=(hch c v o hp).2;exact Qcb hch (pl v) (pl c+1) c o om om
theorem Qbw(hv:¬ v<n)(k:Row): TV n f kf pf R ds pl v k=0:=by
 show Kk n f kf pf R ds _ v k=0;grind [Kk]
theorem Jdk(hch:ChF n pf pl)(hfn:f<=n)(hv:v<f): TV n f kf pf R ds pl v=Uo (Vg (ds.getD v false) (λx=>wtL (TV n f kf pf R ds pl) x (chK kf pf v n)) (lastC kf v) (R v)):=by grind [Qbz,Kk]
theorem Jvs(hch:ChF n pf pl)(hv:v<n)(hf:f<=v): TV n f kf pf R ds pl v=Ud (R v) (Zl kf v) λx=>wtL (TV n f kf pf R ds pl) x (chK kf pf v n):=by grind [Qbz,Kk]
section
variable (n) (pf)
def stF: Nat->Nat->Nat
 | 0=>λ_=>0
 | s+1=>λv=>1+Qy n λc=>if pf c=(v:Int) then stF s c else 0
def stV(pl:Nat->Nat)(v:Nat): Nat:=stF n pf (pl v+1) v
end
theorem Jsn{pl:Nat->Nat}(hch:ChF n pf pl): ∀(s s' v:Nat),v<n->pl v<s->pl v<s'->stF n pf s v=stF n pf s' v
 | 0,_,_,_,h,_=>by omega
 | s+1,0,_,_,_,h=>by omega
 | s+1,s'+1,v,hv,h1,h2=>by
  show 1+_=1+_;congr 1
  refine Jfl λc hc=>?_;split
  .rename_i hp;have:=(hch c v hc hp).2;exact Jsn hch s s' c hc om om
  rfl
theorem Jsm(hch:ChF n pf pl)(hv:v<n): stV n pf pl v=1+Qy n λc=>if pf c=(v:Int) then stV n pf pl c else 0:=by
 show 1+_=1+_;congr 1
 refine Jfl λc o=>?_;split
 .rename_i hp;have:=(hch c v o hp).2;exact Jsn hch (pl v) (pl c+1) c o om om
 rfl
theorem Jsk{pl:Nat->Nat}(hch:ChF n pf pl)(hpf:∀ c,c<n->pf c = -1∨∃ p:Nat,pf c=p/\p<n)(hin:∀ u v,u<n->v<n->pl u=pl v->u=v)(hat:∀ i,i<n->∃ v,v<n/\pl v=i):
  ∀ i,i<=n->Qy n (λc=>if pl c<i/\(pf c = -1∨i<=pl (pf c).toNat) then stV n pf pl c else 0)=i
 | 0,_=>Jsd λc _=>if_neg om
 | i+1,hi=>by
  have ih:=Jsk hch hpf hin hat i om;obtain⟨v,hv,hpv⟩:=hat i om;have e1:Qy n (λc=>(if pl c<i+1/\(pf c = -1∨i+1<=pl (pf c).toNat) then stV n pf pl c else 0)+if pf c=(v:Int) then stV n pf pl c else 0)=Qy n (λc=>(if pl c<i/\(pf c = -1∨i<=pl (pf c).toNat) then stV n pf pl c else 0)+if c=v then stV n pf pl v else 0):=by
   refine Jfl λc hc=>?_;by_cases ec:c=v
   .subst ec;have hne:pf c≠(c:Int):=λe=>by have:=(hch c c hc e).2;omega
    rw[if_neg hne,if_pos rfl,if_neg (show¬ (pl c<i/\_) by omega)];rw[if_pos]
    .omega
    refine⟨om,?_⟩;rcases hpf c hc with h|⟨p,h,_⟩
    .exact .inl h
    have:=(hch c p hc h).2;rw[h];right;simp only[Int.toNat_natCast];omega
   rw[if_neg ec];have hnp:pl c≠i:=by grind
   by_cases ep:pf c=(v:Int)
   .have h1:=(hch c v hc ep).2;grind [Int.toNat_natCast]
   repeat grind
  rw[Jsh,Jsh,Qhb _ hv,ih,Jsm hch hv]at e1;omega
theorem Qhp(hch:ChF n pf pl)(hpf:∀ c,c<n->pf c = -1∨∃ p:Nat,pf c=p/\p<n)(hin:∀ u v,u<n->v<n->pl u=pl v->u=v)(hat:∀ i,i<n->∃ v,v<n/\pl v=i)(hpl:∀ v,v<n->pl v<n)(hv:v<n): stV n pf pl v<=n:=by
 have C:=Jsk hch hpf hin hat (pl v+1) (hpl v hv);have o:=Qhc (n:=n) (λc=>if pl c<pl v+1/\(pf c = -1∨pl v+1<=pl (pf c).toNat) then stV n pf pl c else 0) hv;rw[C]at o;have D:pl v<pl v+1/\(pf v = -1∨pl v+1<=pl (pf v).toNat):=by
  refine⟨om,?_⟩;rcases hpf v hv with h|⟨p,h,_⟩
  .exact .inl h
  have:=(hch v p hv h).2;rw[h];right;simp only[Int.toNat_natCast];omega
 grind
theorem Jpb{T:Nat->Row->Nat}{x:Row}{st:Nat->Nat}{kf:Nat->Nat}{pf:Nat->Int}{v n:Nat}(hT:∀ c,c<n->pf c=(v:Int)->∀ k,T c k<=65536^st c): ∀ k,k<=n->wtL T x (chK kf pf v k)<=65536^Qy k (λc=>if pf c=(v:Int) then st c else 0)
 | 0,_=>nR _
 | k+1,hk=>by
  have ih:=Jpb (T:=T) (x:=x) (kf:=kf) hT k om;rw[Jcw,Jzv,Qy,Nat.pow_add];refine Nat.mul_le_mul ih ?_;split
  .rename_i hp;rw[wtL,wtL,Nat.mul_one];exact hT k om hp _
  exact nR _
theorem Jrx{wt:Row->Nat}{m S:Nat}(h:∀ x,wt x<=S)(k:Row): ∀ rs:List Row,tot (Xx wt m rs k)<=rs.length*S
 | []=>by simp[Xx,tot]
 | x::rs=>by
  have ih:=Jrx (m:=m) h k rs;have e:tot (Xx wt m (x::rs) k)<=wt x+tot (Xx wt m rs k):=by
   unfold Xx;rw[List.filter_cons];split
   .rw[List.map_cons,tot];exact nR _
   omega
  grind [List.length_cons,Nat.succ_mul]
theorem Qbx{pl:Nat->Nat}(hch:ChF n pf pl)(hfn:f<=n)(hlt:∀ v,v<f->Lt [] (R v))(hl:∀ v,v<f->∀ y∈R v,y.length=lastC kf v+1)(hR:∀ v,v<n->(R v).length<=65536):
  ∀(s v:Nat),v<n->pl v<s->∀ k,TV n f kf pf R ds pl v k<=65536^stV n pf pl v
 | 0,_,_,h,_=>by omega
 | s+1,v,hv,hs,k=>by
  have hW:∀ x,wtL (TV n f kf pf R ds pl) x (chK kf pf v n)<=65536^Qy n (λc=>if pf c=(v:Int) then stV n pf pl c else 0):=λx=>
   Jpb (λc hc hp k=>Qbx hch hfn hlt hl hR s c hc (by have:=(hch c v hc hp).2;omega) k) n (nR _)
  rw[Jsm hch hv,Nat.pow_add,Nat.pow_one];by_cases hf:v<f
  .rw[Jdk hch hfn hf,Jfh,(Jwq (hlt v hf) (hl v hf)).entK,Jcs];exact nL (Jrx hW k _) (nO _ (hR v hv))
  rw[Jvs hch hv om];grind [Nat.le_trans,Qjg,Nat.mul_pos,Nat.pow_pos]
theorem Jnq(hch:ChF n pf pl)(c:Nat)(hc:f<=c)(k:Row): TV n f kf pf R ds pl c k<=1:=by
 by_cases h:c<n
 .rw[Jvs hch h hc];exact Qjg
 rw[Qbw h];omega
theorem Xbl(hch:ChF n pf pl)(hfn:f<=n)(hn:n<=32)(hpf:∀ c,c<n->pf c = -1∨∃ p:Nat,pf c=p/\p<n)(hin:∀ u v,u<n->v<n->pl u=pl v->u=v)(hat:∀ i,i<n->∃ v,v<n/\pl v=i)(hpl:∀ v,v<n->pl v<n)(hlt:∀ v,v<f->Lt [] (R v))(hl:∀ v,v<f->∀ y∈R v,y.length=lastC kf v+1)(hR:∀ v,v<n->(R v).length<=65536)(c:Nat)(k:Row): TV n f kf pf R ds pl c k<=4294967296^20:=by
 by_cases h:c<n
 .refine nL (Qbx hch hfn hlt hl hR (pl c+1) c h om k) ?_;have C:=Qhp hch hpf hin hat hpl h;have o:=pw2 16 32 (stV n pf pl c) 20 om;grind
 rw[Qbw h];omega
end
open Pl Go.Wk
variable {c i s t u v:Nat}
structure ElR(n f m:Nat)(es perm:List Nat)(vars:Nat->List Nat)(rs:Nat->List Row)(kf:Nat->Nat)(pf:Nat->Int)(R:Nat->List Row): Prop where
 pm:PermOk n f perm
 n32:n<=32
 lt:∀ i,i<m->∀ v∈vars i,v<n
 len:∀ i,i<m->∀ r∈rs i,r.length=(vars i).length
 el:es.length=m
 eb:∀ i,i<m->∀ u,(es.getD i 0).testBit u=true↔u∈vars i
 ep:∀ e∈es,e<2^n
 bags:Jzr n es (Qu perm f) kf pf
 rows:∀ v,v<n->Jdm n m vars rs (kf v ||| 2^v) (R v)
section
variable {n f m:Nat} {es perm:List Nat} {vars:Nat->List Nat} {rs:Nat->List Row} {kf:Nat->Nat} {pf:Nat->Int} {R:Nat->List Row} {ds:List Bool}
abbrev plO(perm:List Nat)(f:Nat): Nat->Nat:=plc (Qu perm f)
theorem PermOk.plN(h:PermOk n f perm)(hv:v<n): plO perm f v<n:=by
 have:=(Gf h.ond (h.omem.2 hv)).1;rw[h.olen]at this;exact this
theorem PermOk.inj(h:PermOk n f perm)(hu:u<n)(hv:v<n)(e:plO perm f u=plO perm f v): u=v:=by
 rw[<-(Gf h.ond (h.omem.2 hu)).2,<-(Gf h.ond (h.omem.2 hv)).2];show(Qu perm f).getD (plO perm f u) 0=(Qu perm f).getD (plO perm f v) 0;rw[e]
theorem PermOk.hits(h:PermOk n f perm)(hi:i<n): ∃ v,v<n/\plO perm f v=i:=by
 have o:i<(Qu perm f).length:=by rw[h.olen];exact hi
 exact⟨(Qu perm f).getD i 0,h.olt (getD_mem' 0 _ o),Jjp h.ond o⟩
theorem PermOk.plPerm(h:PermOk n f perm)(hi:i<perm.length): plO perm f (perm.getD i 0)=i:=by
 have o:i<(Qu perm f).length:=by simp[Qu];omega
 have e:(Qu perm f).getD i 0=perm.getD i 0:=by simp[Qu,List.getD,List.getElem?_append_left hi]
 rw[<-e];exact Jjp h.ond o
theorem PermOk.plFree(h:PermOk n f perm)(hu:u<f): plO perm f u=perm.length+(f-1-u):=by
 have o:perm.length+(f-1-u)<(Qu perm f).length:=by simp[Qu];omega
 have e:(Qu perm f).getD (perm.length+(f-1-u)) 0=u:=by
  simp only[Qu,List.getD];rw[List.getElem?_append_right om,Nat.add_sub_cancel_left,List.getElem?_reverse (by simp;omega),List.length_range,List.getElem?_range om];simp only[Option.getD_some];omega
 have:=Jjp h.ond o;rw[e]at this;exact this
theorem PermOk.plLow(h:PermOk n f perm)(hu:u<f)(hv:f<=v)(hn:v<n): plO perm f v<plO perm f u:=by
 have C:v∈perm:=by
  have:=h.omem.2 hn;rcases List.mem_append.1 this with o|o
  .exact o
  have:=List.mem_range.1 (List.mem_reverse.1 o);omega
 obtain⟨i,hi,e⟩:=List.getElem_of_mem C;have o:=h.plPerm hi;rw[Qz 0 _ hi,e]at o;rw[o,h.plFree hu];omega
theorem ElR.inv(h:ElR n f m es perm vars rs kf pf R): NbInv [] (nb0 n es):=Jhl h.ep
theorem ElR.kbit(h:ElR n f m es perm vars rs kf pf R)(hv:v<n)(hu:(kf v).testBit u=true): u<n/\plO perm f v<plO perm f u:=by
 obtain⟨_,O,_⟩:=h.bags v hv;rw[O]at hu;have o:u<n:=Jbw (nb:=nb0 n es) (ord:=Qu perm f) (N:=n) (λa b C=>(Jxs h.ep C).2.1) hu;obtain⟨J,G⟩:=Jbv h.inv h.pm.ond (h.pm.omem.2 hv) hu;have D:=(Jlb h.pm.ond (h.pm.omem.2 hv) (h.pm.omem.2 o)).1 J;refine⟨o,?_⟩;rcases Nat.lt_or_ge (plO perm f v) (plO perm f u) with h6|h6
 .exact h6
 exact absurd (h.pm.inj o hv (Nat.le_antisymm h6 D)) G
theorem ElR.kmem(h:ElR n f m es perm vars rs kf pf R)(hv:v<n): u∈bk (kf v) 32↔(kf v).testBit u=true:=by
 rw[bk_mem];have:=h.n32;exact⟨λo=>o.2,λo=>⟨by have:=(h.kbit hv o).1;omega,o⟩⟩
theorem ElR.par(h:ElR n f m es perm vars rs kf pf R)(hv:v<n): (pf v = -1/\∀ u,(kf v).testBit u=false)∨∃ p:Nat,pf v=p/\(kf v).testBit p=true/\∀ u,(kf v).testBit u=true->plO perm f p<=plO perm f u:=by
 obtain⟨_,D,o⟩:=h.bags v hv;rcases o with⟨o,C⟩|⟨p,o,C,h5⟩
 .exact .inl ⟨o,λu=>by rw[D];exact C u⟩
 exact .inr ⟨p,o,by rw[D];exact C,λu G=>h5 u (by rw[<-D];exact G)⟩
theorem ElR.chf(h:ElR n f m es perm vars rs kf pf R): ChF n pf (plO perm f):=λc v u hp=>by
 rcases h.par u with⟨o,_⟩|⟨p,o,h2,_⟩
 .rw[o]at hp;omega
 have e:p=v:=by rw[o]at hp;omega
 subst e;exact h.kbit u h2
theorem ElR.sub(h:ElR n f m es perm vars rs kf pf R)(hc:c<n)(hp:pf c=(v:Int))(hu:(kf c).testBit u=true): (kf v ||| 2^v).testBit u=true:=by
 have C:=(h.chf c v hc hp).1;rw[Nat.testBit_or,Nat.testBit_two_pow,Bool.or_eq_true,decide_eq_true_eq];by_cases e:u=v
 .exact .inr e.symm
 refine .inl ?_;obtain⟨_,G,_⟩:=h.bags c hc;obtain⟨_,D,_⟩:=h.bags v C;rcases h.par hc with⟨J,_⟩|⟨p,J,h2,h3⟩
 .rw[J]at hp;omega
 have ev:p=v:=by rw[J]at hp;omega
 subst ev;rw[D];refine Qtz h.inv h.pm.ond (h.pm.omem.2 hc) (h.pm.omem.2 C) (by rw[<-G];exact h2) (λx O=>?_) (by rw[<-G];exact hu) e;have o:(kf c).testBit x=true:=by rw[G];exact O
 exact(Jlb h.pm.ond (h.pm.omem.2 C) (h.pm.omem.2 (h.kbit hc o).1)).2 (h3 x o)
theorem Xqj(h:∀ u,t.testBit u=true->s.testBit u=true): inS (bk s 32) t=bk t 32:=by
 unfold inS bk;rw[List.filter_filter];refine List.filter_congr λu _=>?_;cases e:t.testBit u with
 | false=>simp
 | true=>simp[h u e]
theorem Jgx(h:∀ u,t.testBit u=true->s.testBit u=true)(z:Row): pmR (Qe (bk s 32) t) (pmR (bk s 32) z)=pmR (bk t 32) z:=by
 have:=Qjx (bk s 32) t z (bk s 32).length (nR _);rw[List.take_length,Xqj h]at this;exact this
theorem ElR.last(h:ElR n f m es perm vars rs kf pf R)(hv:v<f): bk (kf v ||| 2^v) 32=bk (kf v) 32++[v]:=by
 have hn:=h.n32;have G:=h.pm.fn;have o:∀ u,(kf v).testBit u=true->u<v:=λu D=>by
  obtain⟨C,J⟩:=h.kbit om D;rcases Nat.lt_or_ge u f with h3|h3
  .rw[h.pm.plFree hv,h.pm.plFree h3]at J;omega
  have:=h.pm.plLow hv h3 C;omega
 have e:∀ k,bk (kf v ||| 2^v) k=bk (kf v) k++if v<k then[v] else[]:=by
  intro k;induction k with
  | zero=>rfl
  | succ k ih=>
   rw[Gc,Gc,ih,Nat.testBit_or,Nat.testBit_two_pow];by_cases e:v=k
   .subst e;rw[if_neg (Nat.lt_irrefl v),if_pos (Nat.lt_succ_self v)];have:(kf v).testBit v=false:=by
     cases hb:(kf v).testBit v with
     | false=>rfl
     | true=>have:=o v hb;omega
    rw[this];simp
   rw[decide_eq_false e,Bool.or_false];by_cases hb:(kf v).testBit k=true
   .have:=o k hb;rw[if_pos hb,if_neg om,if_neg om,List.append_nil,List.append_nil]
   rw[if_neg hb,List.append_nil,List.append_nil];by_cases C:v<k
   .rw[if_pos C,if_pos om]
   rw[if_neg C,if_neg om]
 rw[e,if_pos om]
theorem ElR.lastC(h:ElR n f m es perm vars rs kf pf R){v:Nat}(hv:v<f): lastC kf v=(bk (kf v) 32).length/\(bk (kf v ||| 2^v) 32).length=(bk (kf v) 32).length+1:=by
 unfold Go.Proofs.YtbcdghbonlifdaaGreatDoor.lastC;rw[h.last hv];simp
theorem ElR.rlt(h:ElR n f m es perm vars rs kf pf R)(hv:v<f): Lt [] (R v):=(h.rows v (by have:=h.pm.fn;omega)).1
theorem ElR.rl(h:ElR n f m es perm vars rs kf pf R)(hv:v<f): ∀ y∈R v,y.length=Go.Proofs.YtbcdghbonlifdaaGreatDoor.lastC kf v+1:=λy o=>by
 obtain⟨z,_,rfl,_⟩:=((h.rows v (by have:=h.pm.fn;omega)).2.1 y).1 o;rw[Xj,(h.lastC hv).2,(h.lastC hv).1]
theorem ElR.big(h:ElR n f m es perm vars rs kf pf R)(c:Nat)(k:Row): TV n f kf pf R ds (plO perm f) c k<=4294967296^20 :=
 Xbl h.chf h.pm.fn h.n32 (λc D=>by
  rcases h.par D with⟨C,_⟩|⟨p,C,h2,_⟩
  .exact .inl C
  exact .inr ⟨p,C,(h.kbit D h2).1⟩) (λu v G o=>h.pm.inj G o) (λi hi=>h.pm.hits hi) (λv o=>h.pm.plN o) (λv o=>h.rlt o) (λv o=>h.rl o) (λv o=>(h.rows v o).2.2) c k
noncomputable def Jzm(n f m:Nat)(perm:List Nat)(vars:Nat->List Nat)(rs:Nat->List Row)(kf:Nat->Nat)(pf:Nat->Int)(R:Nat->List Row)(ds:List Bool): BX V :=
 ⟨V0,n,f,λv=>bk (kf v) 32,pf,plO perm f,(List.range m).map λi=>(vars i,rs i),TV n f kf pf R ds (plO perm f),
  λv k=>entK (Vg (ds.getD v false) (λx=>wtL (TV n f kf pf R ds (plO perm f)) x (chK kf pf v n)) (Go.Proofs.YtbcdghbonlifdaaGreatDoor.lastC kf v) (R v)) k⟩
theorem ElR.W(h:ElR n f m es perm vars rs kf pf R){T:Nat->Row->Nat}{v:Nat}(z:Row): ∀ k,k<=n->wtL T (pmR (bk (kf v ||| 2^v) 32) z) (chK kf pf v k)=Jd k λc=>if pf c=(v:Int) then T c (pmR (bk (kf c) 32) z) else 1
 | 0,_=>rfl
 | k+1,hk=>by
  rw[Jcw,Jzv,h.W z k om,Jd];congr 1
  split
  .rename_i hp;rw[wtL,wtL,Nat.mul_one,Jgx λu hu=>h.sub om hp hu]
  rfl
theorem ElR.bag(h:ElR n f m es perm vars rs kf pf R)(hv:v<n)(z:Row): Ke m vars rs (kf v ||| 2^v) z↔(Jzm n f m perm vars rs kf pf R ds).bag v z:=by
 have key:∀ i j,i<m->j<(vars i).length->((kf v ||| 2^v).testBit ((vars i).getD j 0)=true↔((vars i).getD j 0=v∨(vars i).getD j 0∈bk (kf v) 32)):=λi j hi u=>by
  rw[h.kmem hv,Nat.testBit_or,Nat.testBit_two_pow,Bool.or_eq_true,decide_eq_true_eq];constructor
  .rintro(o|o)
   .exact .inr o
   exact .inl o.symm
  rintro(o|o)
  .exact .inr o.symm
  exact .inl o
 constructor
 .intro G a O;obtain⟨i,hi,rfl⟩:=List.mem_map.1 O;have hi:=List.mem_range.1 hi;obtain⟨r,D,J⟩:=G i hi;exact⟨r,D,λj u C=>J j u ((key i j hi u).2 C)⟩
 intro G i hi;obtain⟨r,D,J⟩:=G (vars i,rs i) (List.mem_map.2 ⟨i,List.mem_range.2 hi,rfl⟩);exact⟨r,D,λj u C=>J j u ((key i j hi u).1 C)⟩
theorem ElR.ok(h:ElR n f m es perm vars rs kf pf R): (Jzm n f m perm vars rs kf pf R ds).Ok:=by
 have a5:=h.pm.fn;have hn:=h.n32;refine⟨a5,λv D=>h.pm.plN D,λu v J D e=>h.pm.inj J D e,λv D u J=>h.kbit D ((h.kmem D).1 J),λv D=>?_,λv D p hp x hx=>?_,λa ha v a2 a1 u Z=>?_,λu v J aa=>?_,λu v J D o=>h.pm.plLow J D o,λa ha=>?_,λv hf D k=>?_,λv D k=>?_⟩
 .rcases h.par D with⟨G,O⟩|⟨p,G,O,h3⟩
  .refine .inl ⟨?_,G⟩;refine List.eq_nil_iff_forall_not_mem.2 λu J=>?_;have:=(h.kmem D).1 J;rw[O u]at this;cases this
  exact .inr ⟨p,G,(h.kmem D).2 O,λu J=>h3 u ((h.kmem D).1 J)⟩
 .have a3:pf v=(p:Int):=hp;have G:=h.sub D a3 ((h.kmem D).1 hx);rw[Nat.testBit_or,Nat.testBit_two_pow,Bool.or_eq_true,decide_eq_true_eq]at G;rcases G with G|G
  .exact .inr ((h.kmem (h.chf v p D a3).1).2 G)
  exact .inl G.symm
 .obtain⟨i,hi,rfl⟩:=List.mem_map.1 ha;have hi:=List.mem_range.1 hi;simp only at a2 a1 Z;by_cases e:u=v
  .exact .inl e
  refine .inr ?_;have o:=h.lt i hi v a2;have a7:=h.lt i hi u Z;have a9:(kf v).testBit u=true:=by
   rw[(h.bags v o).2.1];refine Xjb ?_ e ((Jlb h.pm.ond (h.pm.omem.2 o) (h.pm.omem.2 a7)).2 (a1 u Z));simp only[nb0,Bool.and_eq_true,decide_eq_true_eq,bne_iff_ne,List.any_eq_true];exact⟨⟨o,e⟩,es.getD i 0,getD_mem' 0 es (by rw[h.el];exact hi),(h.eb i hi v).2 a2,(h.eb i hi u).2 Z⟩
  exact(h.kmem o).2 a9
 .have a8:u<f:=J;show plO perm f u<plO perm f v;rw[h.pm.plFree a8,h.pm.plFree om];omega
 .obtain⟨i,hi,rfl⟩:=List.mem_map.1 ha;have hi:=List.mem_range.1 hi;exact⟨h.lt i hi,h.len i hi⟩
 .have a6:f<=v:=hf;have C:v<n:=D;refine⟨Jnq h.chf v a6 k,?_⟩;show 0<TV n f kf pf R ds (plO perm f) v k↔_;rw[Jvs h.chf C a6,redT_pos];constructor
  .rintro⟨x,hx,G,O⟩;obtain⟨z,hz,rfl,hb⟩:=((h.rows v C).2.1 x).1 hx;refine⟨z,hz,(h.bag C z).1 hb,?_,?_⟩
   .rw[<-O];exact(Jgx (λu J=>by rw[Nat.testBit_or,J];rfl) z).symm
   rw[h.W z n (nR _)]at G;exact G
  rintro⟨z,hz,hb,O,G⟩;refine⟨pmR (bk (kf v ||| 2^v) 32) z,((h.rows v C).2.1 _).2 ⟨z,hz,rfl,(h.bag C z).2 hb⟩,?_,?_⟩
  .rw[h.W z n (nR _)];exact G
  rw[<-O];exact Jgx (λu J=>by rw[Nat.testBit_or,J];rfl) z
 have C:v<f:=D;have o:v<n:=om
 have hg:=(Jwq (d:=ds.getD v false) (wt:=λx=>wtL (TV n f kf pf R ds (plO perm f)) x (chK kf pf v n)) (h.rlt C) (h.rl C)).entK k;refine⟨?_,λp=>?_⟩
 .show TV n f kf pf R ds (plO perm f) v k=_;rw[Jdk h.chf a5 C,Jfh];rfl
 show p∈entK _ k↔_;rw[hg,Qwf,entL_mem];have hl:=h.last C;have a4:=(h.lastC C).1;have e1:∀ z:Row,(pmR (bk (kf v ||| 2^v) 32) z).take (Go.Proofs.YtbcdghbonlifdaaGreatDoor.lastC kf v)=pmR (bk (kf v) 32) z:=λz=>by
  rw[hl,a4];unfold pmR;rw[List.map_append,List.take_left' (by simp)]
 have e2:∀ z:Row,(pmR (bk (kf v ||| 2^v) 32) z).getD (Go.Proofs.YtbcdghbonlifdaaGreatDoor.lastC kf v) V0=z.getD v V0:=λz=>by
  rw[hl,a4];unfold pmR;rw[List.map_append];simp only[List.getD];rw[List.getElem?_append_right (by simp)];simp
 constructor
 .rintro⟨x,hx,G,O,h3,h4⟩;obtain⟨z,hz,rfl,hb⟩:=((h.rows v o).2.1 x).1 hx;refine⟨z,hz,(h.bag o z).1 hb,?_,?_,?_,h4⟩
  .rw[<-G,e1];rfl
  .rw[<-O,e2];rfl
  rw[<-h3,h.W z n (nR _)];rfl
 rintro⟨z,hz,hb,G,O,h3,h4⟩;refine⟨pmR (bk (kf v ||| 2^v) 32) z,((h.rows v o).2.1 _).2 ⟨z,hz,rfl,(h.bag o z).2 hb⟩,?_,?_,?_,h4⟩
 .rw[e1,<-G];rfl
 .rw[e2,<-O];rfl
 rw[h.W z n (nR _),h3];rfl
theorem ElR.srt(h:ElR n f m es perm vars rs kf pf R): (Jzm n f m perm vars rs kf pf R ds).ix.Srt ds:=by
 refine⟨rfl,λv u k=>?_⟩;have o:v<f:=u;show Uw _ (entK _ k);rw[(Jwq (h.rlt o) (h.rl o)).entK];exact Xzg (Xxt (h.rlt o) (h.rl o) k)
end
end Go.Proofs.YtbcdghbonlifdaaGreatDoor
