/- Part 29. -/
import Derived.Test.YtebcagekopgdhaaGreatDoorB28
import Derived.Test.YtebcagekopgdhaaGreatDoorSh
import Derived.Lib.AppendStr
import Derived.Lib.ItoaLen
set_option linter.unusedVariables false
set_option maxRecDepth 100000
set_option maxHeartbeats 40000000
namespace Go.Wk
open Go.Lib
theorem aps{P:Program}{tt:TT}[h:Tab P tt]{n:Nat}{al:AL}{w:World}{Q:Exit->Act->World->Prop}{ops:Array Oper}{rest:List Oper}{d ty:Nat}{pos:String}{aft:Array Edge}{t u e base:Nat}{ku:TK}{x y:Operand}{v:Value}{m:Nat}{xs:List Value}{s:ByteArray}(hE:ElT P t e 1 1 (.int .u8 0))(ha:w.ownsRow base e 1 v m xs)(hby:m+s.size<=140737488355328)(hbase:base<=w.heap.size)(kk:∀ v' w',w'.ownsRow base e 1 v' (m+s.size) (xs++strCells s)->w.grownBy w' v.ownBlock->WL P n ops Q rest ((d,v')::al) w')(hu:tk tt u=some ku:=by rfl)(hku:ku.desc=.string:=by rfl)(hx:ev al x=some v:=by rfl)(hy:ev al y=some (.string s):=by rfl)(hd:Nat.blt d n=true:=by rfl):
  WL P n ops Q (⟨some d,.call { callee:=.builtin .append,args:=#[x,y],argTypes:=#[t,u] },ty,pos,aft,none⟩::rest) al w:=by
 obtain ⟨i,hi,Z,G,J⟩:=hE.info;obtain ⟨v',w',o,U,O,k3⟩:=run_append_own_string w base t u ty e i hE.sl (Vw h.ok hu hku rfl) hi Z G J v m xs ha s (by unfold maxLen;omega) hby hbase;refine wop hd (λa C=>?_) (kk v' w' U O);simp [execOp,resolve,invoke,builtin,C.ev hx,C.ev hy,o]
theorem _root_.Go.Wk.Blk.others{w w':World}{g t e:Nat}{cs:List Value}(h:Blk w g t cs)(ho:OthersKept e none w w')(hne:Nat.beq e t=false): Blk w' g t cs :=
 ho g _ h (by simp) (λc u o=>by injection o with _ h2 _;subst h2;simp at hne)
end Go.Wk
namespace Go.Proofs.YtebcagekopgdhaaGreatDoor
open Go.RowKit Pl Go.Wk
attribute [local irreducible] WC WL QX WD WDB WP WN WG
def Kb(v:V): List UInt8:=Lib.itoa v.kind++[44]++(Lib.itoa v.num++[44])++(Lib.itoa (v.str.size:Int)++[44])++v.bytes
def idn(r:Row): List UInt8:=r.flatMap Kb
structure TB(B0:Nat)(w:World): Prop where
 le:B0<=w.heap.size
 tab:Lib.TabBelow Tryz.prog B0 w "internal/strconv.uint64pow10" .u64 Lib.pow10Tab
theorem TB.below{B0 B:Nat}{w w':World}(h:TB B0 w)(hb:Below B w w')(hle:B0<=B): TB B0 w':=⟨nL h.le hb.size,h.tab.on (hb.mono hle)⟩
theorem TB.ext{B0:Nat}{w w':World}(h:TB B0 w)(hx:Ext w w'): TB B0 w':=h.below hx h.le
theorem EU8: ElT Tryz.prog 248 5 1 1 (.int .u8 0):=⟨Tryz.underlying248,info_parts kr,rfl,by decide⟩
theorem Jgc{B0 B:Nat}{w:World}{sv:Value}{l:List UInt8}{i:Int}(hT:TB B0 w)(hB0:B0<=B)(hBw:B<=w.heap.size)(h0:-9223372036854775808<=i)(h1:i<=9223372036854775807)(hlim:l.length+21<=140737488355328)(ho:w.ownsRow B 5 1 sv l.length (Bc l)): Ret Tryz.prog 167 [sv,.int .i64 i,.int .i64 10] w λu w'=>w'.ownsRow B 5 1 u (l++Lib.itoa i).length (Bc (l++Lib.itoa i))/\Below B w w'/\Lib.OthersKept 5 none w w':=by
 refine ⟨⟨_,_,Tryz.func167,rfl,kr⟩,?_⟩;refine (Tryz.strconv_AppendInt_10 B l.length i h0 h1 sv (Bc l) w ho hBw hlim λw' O=>hT.tab w' (O.mono hB0)).mono ?_;rintro e w' ⟨o,rfl,J,G,C⟩;refine ⟨o,rfl,?_,G,C⟩;have U:Bc (l++Lib.itoa i)=Bc l++Lib.byteCells (Lib.itoa i):=by simp [Bc,Lib.byteCells]
 rw [U,List.length_append];exact J
def Va(v:V): Prop:=(-9223372036854775808<=v.kind/\v.kind<=9223372036854775807)/\(-9223372036854775808<=v.num/\v.num<=9223372036854775807)
theorem Jfp(z:Int)(w:World): (Instr.buildSlice 248 1 #[(0,.int .u8 z)]).run Tryz.prog w=.ok (.slice (some ⟨w.heap.size,0,none⟩) 1 1) (w.alloc (.cells [.int .u8 z].toArray 5)):=kr
theorem Jsm{r:Row}{i:Nat}(h:i<r.length): idn (r.take (i+1))=idn (r.take i)++Kb (r.getD i V0):=by
 unfold idn;rw [Qy V0 h,List.flatMap_append];simp only [List.flatMap_cons,List.flatMap_nil,List.append_nil]
theorem Qgt{r:Row}{i:Nat}(h:i<r.length): (idn (r.take i)).length+(Kb (r.getD i V0)).length<=(idn r).length:=by
 have e:idn r=idn (r.take (i+1))++idn (r.drop (i+1)):=by unfold idn;rw [<-List.flatMap_append,List.take_append_drop]
 rw [e,Jsm h,List.length_append,List.length_append];omega
theorem Bc_app(a b:List UInt8): Bc (a++b)=Bc a++Bc b:=by simp [Bc]
theorem Bc_one(l:List UInt8): ∀ u∈Bc l,u.oneCell'=true:=λu o=>by
 obtain ⟨c,_,rfl⟩:=List.mem_map.1 o;rfl
theorem Jgb(l:List UInt8)(c:UInt8): l.length+1=(l++[c]).length:=by simp
theorem Gd{w:World}{base e sz n:Nat}{v:Value}{cs:List Value}(h:w.ownsRow base e sz v n cs): ∀ k,v.ownBlock=some k->base<=k:=λk o=>by
 obtain ⟨A,c,rfl,_,u⟩:=Jv h;exact (u k o).1
theorem Jqs{B0:Nat}{w:World}{A:Option Addr}{c:Nat}{r:Row}(hT:TB B0 w)(hR:RdR w A r)(hfit:∀ v∈r,Va v)(hlim:(idn r).length+64<=140737488355328)(hr:r.length<=1000000):
  Ret Tryz.prog 134 [.slice A r.length c] w λu w'=>u=.string (str (idn r))/\Ext w w':=by
 refine Jz Tryz.func134 Tryz.ntmps134 rfl kr rfl ?_;refine ρ ?_;refine Jt (fun (i:Nat) (vn:Value)=>[(3,vn),(6,.slice A r.length c),(7,.int .i64 (r.length:Int)),(8,.int .i64 (i:Int))])
  (λi vn w'=>i<=r.length/\Ext w w'/\w'.ownsRow w.heap.size 5 1 vn (idn (r.take i)).length (Bc (idn (r.take i)))) (λi _=>r.length-i) 0 (.slice none 0 0) sB
  ⟨Nat.zero_le _,Ext.refl _,Xs _ _ _ _⟩ ?_
 rintro i vn w1 ⟨hi,a5,hn⟩;refine ρ ?_;refine ci (λh=>?_) (λh=>?_)
 .have li:i<r.length:=by have:=oT h;omega
  clear h;have ag:RdR w1 A r:=Rd.ext hR a5;have bp:=Qgt li;have hf:=hfit _ (getD_mem' V0 r li);refine ρ ?_;refine ixq 3 i ag li ?_;refine ρ ?_;refine lds (cs:=(r.getD i V0).cells) (λj u hu=>RdR.cell ag li hu) ?_;refine ρ ?_;refine alc (cs:=V0.cells) Gq ?_;intro w2 b b9 hb ay;refine ρ ?_;refine stb (cs':=(r.getD i V0).cells) ay ?_ (V.one _);intro w3 am br a8;have an:Ext w1 w3:=a8 w1 b9 hb;have ap:=Jk hn an;have U:=a5.trans an;have bt:w.heap.size<=b:=nL a5.size hb;have ba:=Jsm li;generalize r.getD i V0=v at *
  generalize idn (r.take i)=l0 at *
  have bb:=Jxs v;have bq:(Kb v).length=(Lib.itoa v.kind).length+1+((Lib.itoa v.num).length+1)+((Lib.itoa (v.str.size:Int)).length+1)+v.bytes.length:=by simp only [Kb,List.length_append,List.length_cons,List.length_nil]
  clear hn ay a8 ag;refine ρ ?_;refine ld (am.at (i:=0) rfl) ?_;refine ρ ?_;refine cl (Jgc (B:=w.heap.size) (l:=l0) (i:=v.kind) (hT.ext U) hT.le U.size hf.1.1 hf.1.2 (by first|omega|simp only [List.length_append,List.length_cons,List.length_nil];omega) ap) ?_;rintro u4 w4 ⟨ae,ax,bd⟩;have a7:Ext w w4:=Below.trans U ax;have ak:=am.others bd rfl;clear ap am;refine ρ ?_;refine bsl (Jfp _) ?_;intro w5 b5 G bv bg;refine ρ ?_;refine apb (m':=1) (news:=Bc [44]) EU8 (Jk ae G) (bg.rd (n:=1) rfl) (Bc_one _) (by unfold maxLen;first|omega|simp only [List.length_append];omega) (by first|omega|simp only [List.length_append];omega) (a7.trans G).size ?_;intro v6 w6 ad au bo;rw [<-Bc_app,Jgb _ 44]at ad;have O:Ext w w6:=Qv (a7.trans G) au (Gd (Jk ae G));have aj:=(ak.ext G).grown au ((ak.ext G).ne_own (Jk ae G) rfl);clear ak;refine ρ ?_;refine ld (aj.at (i:=1) rfl) ?_
  refine ρ ?_;refine cl (Jgc (B:=w.heap.size) (l:=l0++Lib.itoa v.kind++[44]) (i:=v.num) (hT.ext O) hT.le O.size hf.2.1 hf.2.2 (by first|omega|simp only [List.length_append,List.length_cons,List.length_nil];omega) ad) ?_;rintro u7 w7 ⟨ac,aw,bc⟩;have a6:Ext w w7:=Below.trans O aw;have ai:=aj.others bc rfl;clear ad aj;refine ρ ?_;refine bsl (Jfp _) ?_;intro w8 b8 C bu bf;refine ρ ?_;refine apb (m':=1) (news:=Bc [44]) EU8 (Jk ac C) (bf.rd (n:=1) rfl) (Bc_one _) (by unfold maxLen;first|omega|simp only [List.length_append,List.length_cons,List.length_nil];omega) (by first|omega|simp only [List.length_append,List.length_cons,List.length_nil];omega) (a6.trans C).size ?_;intro v9 w9 ab ar bn;rw [<-Bc_app,Jgb _ 44]at ab;have J:Ext w w9:=Qv (a6.trans C) ar (Gd (Jk ac C));have ah:=(ai.ext C).grown ar ((ai.ext C).ne_own (Jk ac C) rfl);clear ai;refine ρ ?_;refine ld (ah.at (i:=2) rfl) ?_
  refine ρ ?_;refine cl (Jgc (B:=w.heap.size) (l:=l0++Lib.itoa v.kind++[44]++Lib.itoa v.num++[44]) (i:=(v.str.size:Int)) (hT.ext J) hT.le J.size om om (by first|omega|simp only [List.length_append,List.length_cons,List.length_nil];omega) ab) ?_;rintro bm b6 ⟨a3,af,ao⟩;have a1:Ext w b6:=Below.trans J af;have a4:=ah.others ao rfl;clear ab ah;refine ρ ?_;refine bsl (Jfp _) ?_;intro bj bw o bi b2;refine ρ ?_;refine apb (m':=1) (news:=Bc [44]) EU8 (Jk a3 o) (b2.rd (n:=1) rfl) (Bc_one _) (by unfold maxLen;first|omega|simp only [List.length_append,List.length_cons,List.length_nil];omega) (by first|omega|simp only [List.length_append,List.length_cons,List.length_nil];omega) (a1.trans o).size ?_;intro bl b4 a2 a9 bh;rw [<-Bc_app,Jgb _ 44]at a2;have Z:Ext w b4:=Qv (a1.trans o) a9 (Gd (Jk a3 o));have b1:=(a4.ext o).grown a9 ((a4.ext o).ne_own (Jk a3 o) rfl)
  clear a4;refine ρ ?_;refine ld (b1.at (i:=2) rfl) ?_;refine ρ ?_;refine aps (base:=w.heap.size) (s:=v.str) EU8 a2 (by first|omega|simp only [List.length_append,List.length_cons,List.length_nil];omega) Z.size ?_;intro b7 b3 aq av;have aa:Ext w b3:=Qv Z av (Gd a2);refine ρ ?_;refine Jg (i+1) b7 sO ⟨li,aa,?_⟩ om;rw [ba];have e1:l0++Kb v=l0++Lib.itoa v.kind++[44]++Lib.itoa v.num++[44]++Lib.itoa (v.str.size:Int)++[44]++v.bytes:=by simp only [Kb,List.append_assoc]
  rw [e1,Bc_app,List.length_append,<-bb];exact aq
 have be:i=r.length:=by have:=oF h;omega
 rw [be,List.take_length]at hn;obtain ⟨A3,c3,rfl,bs,_⟩:=Jv hn;refine ρ ?_;refine sb (Rd.own hn) ?_;refine ρ ?_;exact Jj ⟨rfl,a5⟩
end Go.Proofs.YtebcagekopgdhaaGreatDoor
namespace Go.Proofs.YtebcagekopgdhaaGreatDoor
open Go.RowKit Pl Go.Wk Go.Lib
def Jzw(l:List UInt8): Nat:=l.foldl (λa c=>10*a+(c.toNat-48)) 0
theorem Jvr{k:Nat}(h:k<10): (UInt8.ofNat (48+k)).toNat=48+k:=by
 rw [UInt8.toNat_ofNat'];omega
theorem Jvs(u:Nat): Jzw (decDigits u)=u:=by
 induction u using Nat.strongRecOn with
 | ind u ih=>
  rw [decDigits];split
  .rename_i h;simp only [Jzw,List.foldl_cons,List.foldl_nil,Jvr h];omega
  .rename_i h;have o:=ih (u / 10) om;unfold Jzw at o ⊢;rw [List.foldl_append,o];simp only [List.foldl_cons,List.foldl_nil,Jvr (show u % 10<10 by omega)];omega
theorem Jfc(u:Nat): ∀ c∈decDigits u,48<=c.toNat/\c.toNat<=57:=by
 induction u using Nat.strongRecOn with
 | ind u ih=>
  rw [decDigits];split
  .rename_i h;intro c o;rw [List.mem_singleton.1 o,Jvr h];omega
  .rename_i h;intro c o;rcases List.mem_append.1 o with o|o
   .exact ih (u / 10) om c o
   .rw [List.mem_singleton.1 o,Jvr (show u % 10<10 by omega)];omega
theorem Jqr(i:Int): ∀ c∈itoa i,c≠44:=by
 intro c o e;subst e;unfold itoa at o;split at o
 .rcases List.mem_cons.1 o with h|h
  .exact absurd h (by decide)
  .have:=Jfc _ _ h;exact absurd this.1 (by decide)
 .have:=Jfc _ _ o;exact absurd this.1 (by decide)
theorem Jdn{i j:Int}(h:itoa i=itoa j): i=j:=by
 have key:∀ (a:Nat) (l:List UInt8),decDigits a≠45::l:=λa l e=>by
  have:=Jfc a 45 (by rw [e];exact mC);exact absurd this.1 (by decide)
 unfold itoa at h;split at h<;>split at h
 .have:=congrArg Jzw (List.cons.inj h).2;rw [Jvs,Jvs]at this;omega
 .exact absurd h.symm (key _ _)
 .exact absurd h (key _ _)
 .have:=congrArg Jzw h;rw [Jvs,Jvs]at this;omega
theorem Jfg{a b x y:List UInt8}(ha:∀ c∈a,c≠44)(hb:∀ c∈b,c≠44)(h:a++44::x=b++44::y): a=b/\x=y:=by
 induction a generalizing b with
 | nil=>cases b with
  | nil=>simpa using h
  | cons c b=>simp only [List.nil_append,List.cons_append,List.cons.injEq]at h;exact absurd h.1.symm (hb c mC)
 | cons d a ih=>cases b with
  | nil=>simp only [List.nil_append,List.cons_append,List.cons.injEq]at h;exact absurd h.1 (ha d mC)
  | cons c b=>
   simp only [List.cons_append,List.cons.injEq]at h;obtain ⟨C,u⟩:=ih (λc o=>ha c (List.mem_cons_of_mem _ o)) (λc o=>hb c (List.mem_cons_of_mem _ o)) h.2;exact ⟨by rw [h.1,C],u⟩
theorem Jzm(v:V)(r:Row): idn (v::r)=itoa v.kind++44::(itoa v.num++44::(itoa (v.str.size:Int)++44::(v.bytes++idn r))):=by
 simp only [idn,List.flatMap_cons,Kb,List.append_assoc,List.cons_append,List.nil_append]
theorem Jvg: ∀ {r s:Row},idn r=idn s->r=s
 | [],[],_=>rfl
 | [],v::s,h=>by
  rw [Jzm]at h;have:=congrArg List.length h;simp [idn]at this
 | v::r,[],h=>by
  rw [Jzm]at h;have:=congrArg List.length h;simp [idn]at this
 | v::r,u::s,h=>by
  rw [Jzm,Jzm]at h;obtain ⟨h1,h⟩:=Jfg (Jqr _) (Jqr _) h;obtain ⟨h2,h⟩:=Jfg (Jqr _) (Jqr _) h;obtain ⟨h3,h⟩:=Jfg (Jqr _) (Jqr _) h;have h3:=Jdn h3;rw [Jxs,Jxs]at h3;obtain ⟨h4,h5⟩:=List.append_inj h om;have:=Jvg h5;subst this;have e:v=u:=by
   obtain ⟨k1,n1,s1⟩:=v;obtain ⟨k2,n2,s2⟩:=u;have a1:k1=k2:=Jdn h1;have a2:n1=n2:=Jdn h2;have a3:s1=s2:=by
    apply ByteArray.ext
    exact Array.toList_inj.1 h4
   rw [a1,a2,a3]
  rw [e]
theorem Jsn: ∀ {r:Row},(∀ v∈r,Va v/\v.bytes.length<=24)->(idn r).length<=r.length*90
 | [],_=>by simp [idn]
 | v::r,h=>by
  have ih:=Jsn (r:=r) λu hu=>h u (List.mem_cons_of_mem _ hu);obtain ⟨⟨h1,h2⟩,h3⟩:=h v mC;have a1:=itoa_length_le _ h1.1 h1.2;have a2:=itoa_length_le _ h2.1 h2.2;have a3:=itoa_length_le (v.str.size:Int) om (by rw [Jxs];omega);rw [Jzm];simp only [List.length_append,List.length_cons];omega
open Go.RowKit Pl Go.Wk
attribute [local irreducible] WC WL QX WD WDB WP WN WG
theorem Jfn(v:V)(w:World): (Instr.buildSlice 37 1 #[(0,v.val)]).run Tryz.prog w=.ok (.slice (some ⟨w.heap.size,0,none⟩) 1 1) (w.alloc (.cells v.cells.toArray 47)):=kr
theorem rowC_app'(a b:Row): Jl (a++b)=Jl a++Jl b:=by simp [Jl]
theorem rowC_one''(v:V): Jl [v]=v.cells:=by simp [Jl]
theorem Qbq{cs:List Nat}{x:Row}{k:Nat}(h:k<cs.length): pmR (cs.take (k+1)) x=pmR (cs.take k) x++[x.getD (cs.getD k 0) V0]:=by
 unfold pmR;rw [Qy 0 h,List.map_append];rfl
theorem Jpf{w:World}{vx:Value}{x:Row}{C:Option Addr}{cc:Nat}{cs:List Nat}(hx:RowV w vx x)(hC:Rd w 1 C cs.length (Js (nz cs)))(hlt:∀ c∈cs,c<x.length)(hl:cs.length<=1000):
  Ret Tryz.prog 135 [vx,.slice C cs.length cc] w λu w'=>RowV w' u (pmR cs x)/\Ext w w':=by
 obtain ⟨A,c,rfl,ab,aa,hR⟩:=hx;refine Jz Tryz.func135 Tryz.ntmps135 rfl kr rfl ?_;refine ρ ?_;refine mk0 EV cs.length om (by unfold maxLen;omega) ?_;intro w0 O a1 a4;refine ρ ?_;refine Jt (fun (k:Nat) (vo:Value)=>[(0,.slice A x.length c),(5,vo),(11,.slice C cs.length cc),(12,.int .i64 (cs.length:Int)),(13,.int .i64 (k:Int))])
  (λk vo w'=>k<=cs.length/\Ext w w'/\Zm w' w.heap.size vo (pmR (cs.take k) x)) (λk _=>cs.length-k) 0 (.slice O 0 cs.length) sB
  ⟨Nat.zero_le _,a1,a4⟩ ?_
 rintro k vo w1 ⟨hk,o,U⟩;refine ρ ?_;refine ci (λh=>?_) (λh=>?_)
 .have lk:k<cs.length:=by have:=oT h;omega
  clear h;have Z:RdR w1 A x:=Rd.ext hR o;have J:=hlt _ (getD_mem' 0 cs lk);refine ρ ?_;refine ix k (hC.ext o) lk ?_;refine ρ ?_;refine ld ((hC.ext o).cell (Xh lk)) ?_;refine ρ ?_;refine ixq 3 (cs.getD k 0) Z J ?_;refine ρ ?_;refine lds (cs:=(x.getD (cs.getD k 0) V0).cells) (λj u hu=>RdR.cell Z J hu) ?_;refine ρ ?_;refine bsl (Jfn _) ?_;intro w2 b G hb hB;have a2:=Qbq (x:=x) lk;have a9:(pmR (cs.take k) x).length=k:=by rw [Qh,List.length_take];omega
  refine ρ ?_;refine apb (m':=1) (news:=(x.getD (cs.getD k 0) V0).cells) EV (Jk U G) (hB.rd (n:=1) rfl) (V.one _) (by unfold maxLen;omega) om (o.trans G).size ?_;intro v3 w3 a3 a6 a8;refine ρ ?_;refine Jg (k+1) v3 sO ⟨lk,Qv (o.trans G) a6 (Gd (Jk U G)),?_⟩ om;rw [Zm,a2,List.length_append,rowC_app',rowC_one''];exact a3
 have a5:k=cs.length:=by have:=oF h;omega
 rw [a5,List.take_length]at U;obtain ⟨A3,c3,rfl,a7,_⟩:=Jv U;refine ρ ?_;refine Jj ⟨⟨A3,c3,rfl,a7,by rw [Qh];omega,Rd.own U⟩,o⟩
theorem Jtz{w:World}{D:Option Addr}{d:Nat}{vars:List Nat}{s:Nat}(hD:Rd w 1 D vars.length (Js (nz vars)))(hs:s<4294967296)(hv:∀ v∈vars,v<32)(hl:vars.length<=32):
  Ret Tryz.prog 131 [.slice D vars.length d,.int .u32 (s:Int)] w λu w'=>Xt w' w.heap.size u (Qg vars s)/\Ext w w':=by
 refine Jz Tryz.func131 Tryz.ntmps131 rfl kr rfl ?_;refine ρ ?_;refine Jt (fun (k:Nat) (vc:Value)=>[(1,.int .u32 (s:Int)),(5,vc),(8,.slice D vars.length d),(9,.int .i64 (vars.length:Int)),(10,.int .i64 (k:Int))])
  (λk vc w'=>k<=vars.length/\Ext w w'/\Xt w' w.heap.size vc (Xl vars s k)) (λk _=>vars.length-k) 0 (.slice none 0 0) sB
  ⟨Nat.zero_le _,Ext.refl _,Xs _ _ _ _⟩ ?_
 rintro k vc w1 ⟨hk,o,G⟩;refine ρ ?_;refine ci (λh=>?_) (λh=>?_)
 .have lk:k<vars.length:=by have:=oT h;omega
  clear h;have a2:(Xl vars s k).length<=k:=by
   have:=List.length_filter_le (λi=>s.testBit (vars.getD i 0)) (List.range k);rw [List.length_range]at this;exact this
  refine ρ ?_;refine ix k (hD.ext o) lk ?_;refine ρ ?_;refine ld ((hD.ext o).cell (Xh lk)) ?_;refine ρ ?_;refine Kz (s:=s) (v:=vars.getD k 0) (by have:=hv _ (getD_mem' 0 vars lk);omega) ?_;refine ρ ?_;refine ci (λh=>?_) (λh=>?_)
  .rw [Ub hs]at h;refine ρ ?_;refine bsl (bs1Int'' _) ?_;intro w2 b C hb hB;refine ρ ?_;refine apI (Jk G C) hB om (o.trans C).size ?_;intro Z w3 J U a1;refine ρ ?_;refine Jg (k+1) Z sO ⟨lk,Qv (o.trans C) U (Gd (Jk G C)),?_⟩ om;rw [Gt,if_pos h];exact J
  .rw [Ub hs]at h;refine ρ ?_;refine Jg (k+1) vc sO ⟨lk,o,?_⟩ om;rw [Gt,if_neg (by rw [h];simp),List.append_nil];exact G
 have O:k=vars.length:=by have:=oF h;omega
 rw [O]at G;refine ρ ?_;exact Jj ⟨G,o⟩
open Go.RowKit Pl Go.Wk
theorem Jhw{l:List UInt32}{k:Nat}(c:UInt32)(h:k<l.length): val (l.set k c)+4294967296^k*(l.getD k 0).toNat=val l+4294967296^k*c.toNat:=by
 induction l generalizing k with
 | nil=>simp at h
 | cons x l ih=>
  cases k with
  | zero=>simp [val];omega
  | succ k=>
   have:=ih (k:=k) (by simpa using h);simp only [List.set_cons_succ,val,List.getD_cons_succ,Nat.pow_succ];have u:4294967296^k*4294967296*(l.getD k 0).toNat=4294967296*(4294967296^k*(l.getD k 0).toNat):=by
    rw [Nat.mul_comm (4294967296^k) 4294967296,Nat.mul_assoc]
   have o:4294967296^k*4294967296*c.toNat=4294967296*(4294967296^k*c.toNat):=by
    rw [Nat.mul_comm (4294967296^k) 4294967296,Nat.mul_assoc]
   rw [u,o];omega
structure MulO(a b:List UInt32)(i:Nat)(os:List UInt32): Prop where
 len:os.length=a.length+b.length
 val:val os=val (a.take i)*val b
 zero:∀ k,i+b.length<=k->os.getD k 0=0
structure MulI(a b:List UInt32)(i j c:Nat)(os:List UInt32): Prop where
 len:os.length=a.length+b.length
 small:c<4294967296
 val:val os+4294967296^(i+j)*c=Pl.val (a.take i)*Pl.val b+4294967296^i*(a.getD i 0).toNat*Pl.val (b.take j)
 zero:∀ k,i+b.length<=k->os.getD k 0=0
theorem Jdt{l:List UInt32}{k m:Nat}(c:UInt32)(h:k≠m): (l.set k c).getD m 0=l.getD m 0:=by
 simp [List.getD,List.getElem?_set_ne h]
theorem Jpx{x y:Nat}(hx:x<4294967296)(hy:y<4294967296): x*y<=18446744065119617025:=by
 have:=Nat.mul_le_mul (show x<=4294967295 by omega) (show y<=4294967295 by omega);omega
theorem MulO.first{a b:List UInt32}: MulO a b 0 (List.replicate (a.length+b.length) 0):=by
 refine ⟨by simp,?_,λk _=>?_⟩
 .have:∀ n,Pl.val (List.replicate n (0:UInt32))=0:=λn=>by
   induction n with
   | zero=>rfl
   | succ n ih=>rw [List.replicate_succ];simp [Pl.val,ih]
  rw [this];simp [Pl.val]
 .simp only [List.getD,List.getElem?_replicate];split<;>rfl
theorem MulO.start{a b:List UInt32}{i:Nat}{os:List UInt32}(h:MulO a b i os): MulI a b i 0 0 os :=
 ⟨h.len,om,by rw [h.val];simp [Pl.val],h.zero⟩
theorem MulI.step{a b:List UInt32}{i j c s:Nat}{os:List UInt32}(h:MulI a b i j c os)(hi:i<a.length)(hj:j<b.length)(hs:s=c+((a.getD i 0).toNat*(b.getD j 0).toNat+(os.getD (i+j) 0).toNat)):
  MulI a b i (j+1) (s / 4294967296) (os.set (i+j) (UInt32.ofNat s))/\s<18446744073709551616:=by
 obtain ⟨h1,h2,h3,h4⟩:=h;have J:(a.getD i 0).toNat<4294967296:=(a.getD i 0).toNat_lt;have G:(b.getD j 0).toNat<4294967296:=(b.getD j 0).toNat_lt;have hz:(os.getD (i+j) 0).toNat<4294967296:=(os.getD (i+j) 0).toNat_lt;have hm:=Jpx J G;have o:s<18446744073709551616:=om
 refine ⟨⟨by rw [List.length_set];exact h1,om,?_,λk O=>by rw [Jdt _ om];exact h4 k O⟩,o⟩;have e:=Jhw (UInt32.ofNat s) (show i+j<os.length by omega);rw [UInt32.toNat_ofNat']at e;rw [Jjj];generalize hX:(a.getD i 0).toNat=X at *
 generalize hY:(b.getD j 0).toNat=Y at *
 generalize hZ:(os.getD (i+j) 0).toNat=Z at *
 generalize Pl.val (os.set (i+j) (UInt32.ofNat s))=V' at *
 generalize Pl.val os=V at *
 generalize Pl.val (b.take j)=W at *
 generalize Pl.val (a.take i)*Pl.val b=U at *
 have C:4294967296^(i+(j+1))*(s / 4294967296)=4294967296^(i+j)*(4294967296*(s / 4294967296)):=by
  rw [show i+(j+1)=(i+j)+1 by omega,Nat.pow_succ,Nat.mul_assoc]
 have u:4294967296^i*X*(W+4294967296^j*Y)=4294967296^i*X*W+4294967296^(i+j)*(X*Y):=by
  rw [Nat.mul_add,Nat.pow_add];congr 1
  simp only [Nat.mul_assoc,Nat.mul_left_comm,Nat.mul_comm]
 have p3:4294967296^(i+j)*(s % 2^32)+4294967296^(i+j)*(4294967296*(s / 4294967296))=4294967296^(i+j)*c+(4294967296^(i+j)*(X*Y)+4294967296^(i+j)*Z):=by
  rw [<-Nat.mul_add,<-Nat.mul_add,<-Nat.mul_add];congr 1
  omega
 rw [C,u];omega
theorem MulI.last{a b:List UInt32}{i c:Nat}{os:List UInt32}(h:MulI a b i b.length c os)(hi:i<a.length): MulO a b (i+1) (os.set (i+b.length) (UInt32.ofNat c)):=by
 obtain ⟨C,J,u,o⟩:=h;refine ⟨by rw [List.length_set];exact C,?_,λk G=>by rw [Jdt _ om];exact o k om⟩;have e:=Jhw (UInt32.ofNat c) (show i+b.length<os.length by omega);rw [o _ (Nat.le_refl _),UInt32.toNat_ofNat',show c % 2^32=c by omega,show (0:UInt32).toNat=0 from rfl,Nat.mul_zero,Nat.add_zero]at e;rw [e,u,List.take_length,Jjj,Nat.add_mul]
theorem Qdp{c x y z:Nat}(hc:c<4294967296)(hx:x<4294967296)(hy:y<4294967296)(hz:z<4294967296):
  IntKind.u64.wrap ((c:Int)+IntKind.u64.wrap (IntKind.u64.wrap (IntKind.u64.wrap (x:Int)*IntKind.u64.wrap (y:Int))+IntKind.u64.wrap (z:Int)))=((c+(x*y+z):Nat):Int):=by
 have o:=Jpx hx hy;have w:∀ n:Nat,n<18446744073709551616->IntKind.u64.wrap (n:Int)=(n:Int):=λn hn=>by rw [IntKind.wrap_u64];omega
 rw [w x om,w y om,w z om,<-Int.natCast_mul,w _ om,<-Int.natCast_add,w _ om,<-Int.natCast_add,w _ om]
theorem Jwx{v u:Value}{n m:Nat}{w:World}(hv:NatV w v n)(hu:NatV w u m)(hln:(Jq n).length<=1000)(hlm:(Jq m).length<=1000): Ret Tryz.prog 15 [v,u] w λr w'=>NatV w' r (n*m)/\Fresh w r/\Ext w w':=by
 refine Jz Tryz.func15 Tryz.ntmps15 rfl kr rfl ?_;refine ρ ?_;refine cl (Ya hv) ?_;rintro v' w' ⟨⟨A,rfl,ha⟩,rfl⟩;refine ρ ?_;refine cl (Ya hu) ?_;rintro u' J ⟨⟨B,rfl,hb⟩,rfl⟩;generalize hL:(Jq n).length=L at *
 generalize hM:(Jq m).length=M at *
 refine ρ ?_;refine mkn EN (L+M) om (by unfold maxLen;omega) ?_;intro w1 O ac a8 hO;have a7:Xn w1 J.heap.size (.slice O (L+M) (L+M)) (List.replicate (L+M) 0):=by
  have e:(madeCells (Value.int .u32 0).cells ((L+M)*1)).toList=Nc (List.replicate (L+M) 0):=by rw [Nat.mul_one,<-Jgg];exact Uj _ _
  rw [e]at a8;rw [Xn,List.length_replicate];exact a8
 refine ρ ?_;refine Jt (fun (i:Nat) (o:List UInt32)=>[(0,.slice A L L),(1,.slice B M M),(5,.slice O (L+M) (L+M)),(20,.int .i64 (L:Int)),(21,.int .i64 (i:Int))])
  (λi o w2=>i<=L/\Ext J w2/\MulO (Jq n) (Jq m) i o/\Xn w2 J.heap.size (.slice O (L+M) (L+M)) o) (λi _=>L-i) 0 (List.replicate (L+M) 0) sB
  ⟨Nat.zero_le _,ac,by rw [<-hL,<-hM];exact MulO.first,a7⟩ ?_
 rintro i o w2 ⟨hi,a6,hI,a5⟩;refine ρ ?_;refine ci (λh=>?_) (λh=>?_)
 .have li:i<L:=by have:=oT h;omega
  clear h;refine ρ ?_;refine Xr (fun (j c:Nat) (o:List UInt32)=>[(0,.slice A L L),(1,.slice B M M),(5,.slice O (L+M) (L+M)),(6,.int .i64 (i:Int)),(7,.int .u64 (c:Int)),(20,.int .i64 (L:Int)),(21,.int .i64 (i:Int)),(25,.int .i64 (M:Int)),(26,.int .i64 (j:Int))])
   (λj c o w3=>j<=M/\Ext J w3/\MulI (Jq n) (Jq m) i j c o/\Xn w3 J.heap.size (.slice O (L+M) (L+M)) o) (λj _ _=>M-j) 0 0 o sB
   ⟨Nat.zero_le _,a6,hI.start,a5⟩ ?_
  clear hI a5;rintro j c o w3 ⟨hj,a1,hI,U⟩;have C:o.length=L+M:=by rw [hI.len,hL,hM]
  refine ρ ?_;refine ci (λh=>?_) (λh=>?_)
  .have lj:j<M:=by have:=oT h;omega
   clear h;have Z:Ext w3 w3.drew:=(Ext.refl w3).drew;have ab:=ha.ext (a1.trans Z);have aa:=hb.ext (a1.trans Z);have G:=Jk U Z;rw [C]at G;have a4:Rd w3.drew 1 O (L+M) (Nc o):=Rd.own G;refine ρ ?_;refine dr [(0,0),(0,1),(0,2),(0,3),(0,4),(0,5),(0,6),(0,7),(0,8),(0,9),(0,10),(0,11),(0,12),(0,13),(0,14),(0,15),(0,16),(0,17),(0,18),(0,19),(0,20),(0,21)] kr ?_;refine ρd ?_;refine dix i ab li ?_;refine ρd ?_;refine dld (ab.cell (Zy (show i<(Jq n).length by omega))) ?_;refine ρd ?_;refine dix j aa lj ?_;refine ρd ?_;refine dld (aa.cell (Zy (show j<(Jq m).length by omega))) ?_;refine ρd ?_;refine dix (i+j) a4 om ?_;refine ρd ?_;refine dld (a4.cell (Zy (show i+j<o.length by omega))) ?_;refine ρd ?_;have hx:((Jq n).getD i 0).toNat<4294967296:=((Jq n).getD i 0).toNat_lt;have hy:((Jq m).getD j 0).toNat<4294967296:=((Jq m).getD j 0).toNat_lt;have hz:(o.getD (i+j) 0).toNat<4294967296:=(o.getD (i+j) 0).toNat_lt
   obtain ⟨a3,ah⟩:=hI.step (s:=c+(((Jq n).getD i 0).toNat*((Jq m).getD j 0).toNat+(o.getD (i+j) 0).toNat)) om om rfl;have a9:=Qdp hI.small hx hy hz;refine ρ ?_;generalize c+(((Jq n).getD i 0).toNat*((Jq m).getD j 0).toNat+(o.getD (i+j) 0).toNat)=s at *
   refine kv 7 (u:=.int .u64 (s:Int)) (congrArg (Value.int .u64) a9) ?_;refine kv 55 (u:=.int .u32 ((UInt32.ofNat s).toNat:Int)) (congrArg (Value.int .u32) ((congrArg IntKind.u32.wrap a9).trans (Yt s))) ?_;obtain ⟨s1,s2,s3,s4,s5⟩:=Zd G (q:=i+j) om (.int .u32 ((UInt32.ofNat s).toNat:Int));refine ρ ?_;refine ix (i+j) a4 om ?_;refine sto (s1.trans (Zy (show i+j<o.length by omega))) s2 ?_;refine ρ ?_;refine Yw rfl rfl (by decide) rfl ?_;refine ρ ?_;refine Qa (j+1) (s / 4294967296) (o.set (i+j) (UInt32.ofNat s)) ?_ ⟨lj,(a1.trans Z).setCell s4 _,a3,?_⟩ om
   .rw [Jbj];exact sB
   .rw [Xn,List.length_set,C,<-Jxl];exact s3
  have af:j=M:=by have:=oF h;omega
  subst af;clear h;have ae:MulI (Jq n) (Jq m) i (Jq m).length c o:=by rw [hM];exact hI
  have hl:=ae.last (show i<(Jq n).length by omega);have G:=U;rw [Xn,C]at G;obtain ⟨s1,s2,s3,s4,s5⟩:=Zd G (q:=i+j) om (.int .u32 ((UInt32.ofNat c).toNat:Int));refine ρ ?_;refine ix (i+j) (Rd.own G) om ?_;rw [Yt];refine sto (s1.trans (Zy (show i+j<o.length by omega))) s2 ?_;refine ρ ?_;rw [hM]at hl;refine Jg (i+1) (o.set (i+j) (UInt32.ofNat c)) sO ⟨li,a1.setCell s4 _,hl,?_⟩ om;rw [Xn,List.length_set,C,<-Jxl];exact s3
 have ag:i=L:=by have:=oF h;omega
 have C:o.length=L+M:=by rw [hI.len,hL,hM]
 have a2:=hI.val;rw [ag,List.take_of_length_le om,Zb,Zb]at a2;have U:=a5;rw [Xn,C]at U;have hr:=Rd.own U;refine ρ ?_;rw [<-C]at hr ⊢;refine cl (Kt hr (Nat.le_refl _) om) ?_;rintro t w4 ⟨rfl,rfl⟩;have:=Jjl hr om;rw [a2]at this ⊢;refine ρ ?_;exact Jj ⟨this,λad _ _ e=>hO ad (by injection e),a6⟩
open Go.RowKit Pl Go.Wk
theorem Qfj{n:Nat}(h0:n≠0)(h:n<4294967296): Jq n=[UInt32.ofNat n]:=by
 rw [Jvb h0,show n / 4294967296=0 by omega,limbs_0]
theorem Qjn{A:Option Addr}{n c:Nat}{cs:List Value}{w:World}(hr:Rd w 1 A n cs)(h1:∀ u∈cs,u.oneCell'=true)(hb:n*4<=140737488355328):
  Ret Tryz.prog 89 [.slice A n c] w λv w'=>w'.ownsRow w.heap.size 110 1 v n cs/\Ext w w':=by
 refine Jz Tryz.func89 Tryz.ntmps89 rfl kr rfl ?_;refine ρ ?_;refine Iq ?_;refine ρ ?_;refine ci (λh=>?_) (λh=>?_)
 .have Z:A=none:=by simpa using h
  subst Z;have hn:n=0:=by
   rcases Nat.eq_zero_or_pos n with h0|h0
   .exact h0
   .obtain ⟨ad,h2,_⟩:=hr.isome h0 om;cases h2
  subst hn;have O:cs=[]:=List.eq_nil_of_length_eq_zero (by rw [hr.len]);subst O;refine ρ ?_;exact Jj ⟨Xs _ _ _ _,Ext.refl w⟩
 .refine ρ ?_;refine bsl Qqd ?_;intro w1 b o U J;refine ρ ?_;refine apo o EN (J.own (n:=0) U rfl (Nat.zero_le _)) (hr.ext o) h1 (by unfold maxLen;omega) om ?_;intro v2 w2 C G _ _;refine ρ ?_;rw [Nat.zero_add,List.nil_append]at C;exact Jj ⟨C,G⟩
theorem Jhx{l:List UInt32}{k:Nat}(h:k<l.length): val (l.drop k)=(l.getD k 0).toNat+4294967296*val (l.drop (k+1)):=by
 rw [List.drop_eq_getElem_cons h];simp [val,List.getD,List.getElem?_eq_getElem h]
structure DivI(l:List UInt32)(d k r:Nat)(os:List UInt32): Prop where
 len:os.length=l.length
 lt:r<d
 old:∀ j,j<k->os.getD j 0=l.getD j 0
 val:val (l.drop k)=Pl.val (os.drop k)*d+r
theorem DivI.step{l os:List UInt32}{d k r s:Nat}(h:DivI l d (k+1) r os)(hk:k<l.length)(hd:d<4294967296)(hs:s=r*4294967296+(l.getD k 0).toNat): DivI l d k (s % d) (os.set k (UInt32.ofNat (s / d)))/\s<18446744073709551616:=by
 obtain ⟨u,h2,G,C⟩:=h;have U:(l.getD k 0).toNat<4294967296:=(l.getD k 0).toNat_lt;have o:s<4294967296*d:=by rw [hs];omega
 have Z:s / d<4294967296:=Nat.div_lt_of_lt_mul (by rw [Nat.mul_comm];exact o);refine ⟨⟨by rw [List.length_set];exact u,Nat.mod_lt _ om,λj hj=>by rw [Jdt _ om];exact G j om,?_⟩,om⟩;rw [Jhx hk,Jhx (l:=os.set k (UInt32.ofNat (s / d))) (k:=k) (by rw [List.length_set];omega),C];have O:(os.set k (UInt32.ofNat (s / d))).getD k 0=UInt32.ofNat (s / d):=by simp [List.getD,u,hk]
 have J:(os.set k (UInt32.ofNat (s / d))).drop (k+1)=os.drop (k+1):=List.drop_set_of_lt om;rw [O,J,UInt32.toNat_ofNat',Nat.mod_eq_of_lt (show s / d<2^32 by omega)];have:=Nat.div_add_mod s d;generalize Pl.val (os.drop (k+1))=V at *
 rw [Nat.mul_add,Nat.add_mul,<-Nat.mul_assoc];have e3:s / d*d=d*(s / d):=Nat.mul_comm _ _;omega
theorem Qld{r x:Nat}(hr:r<4294967296)(hx:x<4294967296): bits .or .u64 (IntKind.u64.wrap ((r:Int)*2^min (32:Int).toNat IntKind.u64.bits)) (IntKind.u64.wrap (x:Int))=((r*4294967296+x:Nat):Int):=by
 have C:(2:Int)^min (32:Int).toNat IntKind.u64.bits=4294967296:=by decide
 have u:IntKind.u64.wrap ((r:Int)*4294967296)=((r*4294967296:Nat):Int):=by rw [IntKind.wrap_u64];omega
 have o:IntKind.u64.wrap (x:Int)=(x:Int):=by rw [IntKind.wrap_u64];omega
 rw [C,u,o,u64_or_nat _ _ om om,nat_join 32 (r*4294967296) x (by simp) om]
theorem Qlf{A:Option Addr}{L c d base:Nat}{l:List UInt32}{w:World}(hL:l.length=L)(hLm:L<=1100)(ho:w.ownsRow base 110 1 (.slice A L c) L (Nc l))(h0:0<d)(hd:d<4294967296):
  Ret Tryz.prog 90 [.slice A L c,.int .u32 (d:Int)] w λr w'=>r=.int .u32 ((val l % d:Nat):Int)/\(∃ os:List UInt32,os.length=L/\val os=val l / d/\w'.ownsRow base 110 1 (.slice A L c) L (Nc os))/\w.grownBy w' (Value.slice A L c).ownBlock:=by
 refine Jz Tryz.func90 Tryz.ntmps90 rfl kr rfl ?_;refine ρ ?_;refine Xr (fun (k r:Nat) (os:List UInt32)=>[(0,.slice A L c),(1,.int .u32 (d:Int)),(5,.int .u64 (r:Int)),(6,.int .i64 ((k:Int)-1))])
  (λk r os w1=>k<=L/\DivI l d k r os/\w1.ownsRow base 110 1 (.slice A L c) L (Nc os)/\w.grownBy w1 (Value.slice A L c).ownBlock) (λk _ _=>k) L 0 l sB
  ⟨Nat.le_refl _,⟨rfl,h0,λ_ _=>rfl,by rw [List.drop_of_length_le om];simp [val]⟩,ho,Zk (Ext.refl w) _⟩ ?_
 rintro k r os w1 ⟨hk,U,G,O⟩;have a1:os.length=L:=by rw [U.len,hL]
 refine ρ ?_;refine ci (λh=>?_) (λh=>?_)
 .obtain ⟨k,rfl⟩:∃ j,k=j+1:=⟨k-1,by have:=oT h;omega⟩;clear h;obtain ⟨s,hs⟩:∃ s,s=r*4294967296+(l.getD k 0).toNat:=⟨_,rfl⟩;obtain ⟨o,a3⟩:=U.step om hd hs;have hx:(l.getD k 0).toNat<4294967296:=(l.getD k 0).toNat_lt;have a4:=U.lt;have C:Rd w1 1 A L (Nc os):=Rd.own G;have J:=U.old k om;refine ρ ?_;refine wshl rfl rfl (by decide) rfl ?_;refine ρ ?_;refine ix k C om ?_;refine ρ ?_;refine ld (C.cell (Zy (show k<os.length by omega))) ?_;rw [J];refine ρ ?_;have Z:bits .or .u64 (IntKind.u64.wrap ((r:Int)*2^min (32:Int).toNat IntKind.u64.bits)) (IntKind.u64.wrap ((l.getD k 0).toNat:Int))=(s:Int):=by rw [hs];exact Qld om hx
  refine kv 5 (u:=.int .u64 (s:Int)) (congrArg (Value.int .u64) Z) ?_;refine kv 24 (u:=.int .u64 (s:Int)) (congrArg (Value.int .u64) Z) ?_;have ed:IntKind.u64.wrap (d:Int)=(d:Int):=by rw [IntKind.wrap_u64];omega
  refine kv 26 (u:=.int .u64 (d:Int)) (congrArg (Value.int .u64) ed) ?_;refine wquo rfl rfl om rfl ?_;have hq:s / d<=s:=Nat.div_le_self _ _;have e2:IntKind.u32.wrap (IntKind.u64.wrap ((s:Int).tdiv d))=((UInt32.ofNat (s / d)).toNat:Int):=by
   have:(s:Int).tdiv d=((s / d:Nat):Int):=rfl;rw [this];generalize s / d=q at *
   rw [Gz om,Yt]
  obtain ⟨s1,s2,s3,s4,s5⟩:=Zd G (q:=k) om (.int .u32 ((UInt32.ofNat (s / d)).toNat:Int));refine ρ ?_;refine ix k C om ?_;rw [e2];refine sto (s1.trans (Zy (show k<os.length by omega))) s2 ?_;refine ρ ?_;refine kv 32 (u:=.int .u64 (d:Int)) (congrArg (Value.int .u64) ed) ?_;refine wrem rfl rfl om rfl ?_;refine ρ ?_;refine Qa k (s % d) (os.set k (UInt32.ofNat (s / d))) ?_ ⟨om,o,?_,Zx O s5⟩ om
  .have e3:(s:Int).tmod d=((s % d:Nat):Int):=rfl;rw [e3];exact sO
  .rw [<-Jxl];exact s3
 .have a2:k=0:=by have:=oF h;omega
  subst a2;obtain ⟨i1,i2,_,i4⟩:=U;rw [List.drop_zero,List.drop_zero]at i4;have hm:r=val l % d:=by rw [i4,Nat.add_comm,Nat.add_mul_mod_self_right,Nat.mod_eq_of_lt i2]
  have hv:val os=val l / d:=by
   rw [i4,Nat.add_comm,Nat.add_mul_div_right _ _ h0,Nat.div_eq_of_lt i2,Nat.zero_add]
  refine ρ ?_;refine Jj ⟨?_,⟨os,a1,hv,G⟩,O⟩;rw [Yt,UInt32.toNat_ofNat',Nat.mod_eq_of_lt (show r<2^32 by omega),hm]
theorem Qdm{v u:Value}{n m:Nat}{w:World}(hv:NatV w v n)(hu:NatV w u m)(hn:(Jq n).length<=1000)(h0:0<m)(hm:m<4294967296):
  Ret Tryz.prog 49 [v,u] w λr w'=>(∃ x y,r=.tuple #[x,y,.int .i64 0]/\NatV w' x (n / m)/\NatV w' y (n % m))/\Ext w w':=by
 have J:Jq m=[UInt32.ofNat m]:=Qfj om hm;refine Jz Tryz.func49 Tryz.ntmps49 rfl kr rfl ?_;refine ρ ?_;refine cl (Ya hv) ?_;rintro v' w' ⟨⟨A,rfl,ha⟩,rfl⟩;refine ρ ?_;refine cl (Ya hu) ?_;rintro u' a2 ⟨⟨B,rfl,hb⟩,rfl⟩;rw [J]at hb ⊢;refine ρ ?_;refine cl (Jqh (n:=n) (m:=m) ⟨A,_,rfl,Nat.le_refl _,om,ha⟩ ⟨B,1,by rw [J],by rw [J];simp,by rw [J];simp,by rw [J];exact hb⟩) ?_;rintro t w' ⟨rfl,o⟩;refine ρ ?_;refine ci (λh=>?_) (λh=>?_)
 .have Z:n<m:=by
   have:=oT h;unfold Yl at this;rcases Nat.lt_or_ge n m with h1|h1
   .exact h1
   .rw [if_neg om]at this;split at this<;>omega
  refine ρ ?_;refine cl (Qmm (ha.ext o) (Jgh _) om) ?_;rintro v' w1 ⟨⟨A',c',rfl,hc,hr⟩,hx⟩;refine ρ ?_;refine Ux ⟨⟨.slice none 0 0,_,rfl,?_,?_⟩,o.trans hx⟩
  .rw [Nat.div_eq_of_lt Z];exact NatV.nil _
  .rw [Nat.mod_eq_of_lt Z];exact ⟨A',c',rfl,hc,om,hr⟩
 refine ρ ?_;refine cl (Qjn (ha.ext o) (Jgh _) om) ?_;rintro q w1 ⟨ho,U⟩;obtain ⟨A',c',rfl,hc,hf⟩:=Jv ho;have a1:=(hb.ext o).ext U;refine ρ ?_;refine ix 0 a1 (by simp) ?_;refine ρ ?_;refine ld (a1.cell (Zy (l:=[UInt32.ofNat m]) (k:=0) (by simp))) ?_;have em:(([UInt32.ofNat m].getD 0 0).toNat:Int)=(m:Int):=by
  show ((UInt32.ofNat m).toNat:Int)=m;rw [UInt32.toNat_ofNat',Nat.mod_eq_of_lt (show m<2^32 by omega)]
 rw [em];refine ρ ?_;refine cl (Qlf rfl om ho h0 hm) ?_;rintro r w2 ⟨rfl,⟨os,a4,C,a5⟩,a6⟩;rw [Zb]at C ⊢;have a3:Ext a2 w2:=Qv (o.trans U) a6 (λk e=>nL o.size (hf k e).1);have G:=Rd.own a5;rw [<-a4]at G hc ⊢;refine ρ ?_;refine cl (Kt G hc om) ?_;rintro t w3 ⟨rfl,rfl⟩;have:=Jjl G om;rw [C]at this ⊢;have hr:n % m<m:=Nat.mod_lt _ h0;refine ρ ?_;rw [Gz om];refine cl (Qdl (n % m) om _) ?_;rintro y w4 ⟨hy,O⟩;refine ρ ?_;exact Ux ⟨⟨_,y,rfl,this.ext O,hy⟩,a3.trans O⟩
end Go.Proofs.YtebcagekopgdhaaGreatDoor
