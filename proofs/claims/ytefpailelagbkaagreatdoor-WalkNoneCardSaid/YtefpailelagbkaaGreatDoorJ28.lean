/- Part 28 of the proof: Idn, IdP, Pck, Mul, Div. -/
import Derived.Test.YtefpailelagbkaaGreatDoorJ27
import Derived.Test.YtefpailelagbkaaGreatDoorSh
import Derived.Lib.AppendStr
import Derived.Lib.ItoaLen
set_option linter.unusedVariables false
set_option maxRecDepth 100000
set_option maxHeartbeats 40000000
namespace Go.Wk
open Go.Lib
theorem aps{P:Program}{tt:TT}[h:Tab P tt]{n:Nat}{al:AL}{w:World}{Q:Exit->Act->World->Prop}{ops:Array Oper}{rest:List Oper}{d ty:Nat}{pos:String}{aft:Array Edge}{t u e base:Nat}{ku:TK}{x y:Operand}{v:Value}{m:Nat}{xs:List Value}{s:ByteArray}(hE:ElT P t e 1 1 (.int .u8 0))(ha:w.ownsRow base e 1 v m xs)(hby:m+s.size<=140737488355328)(hbase:base<=w.heap.size)(kk:∀ v' w',w'.ownsRow base e 1 v' (m+s.size) (xs++strCells s)->w.grownBy w' v.ownBlock->WL P n ops Q rest ((d,v')::al) w')(hu:tk tt u=some ku:=by rfl)(hku:ku.desc=.string:=by rfl)(hx:ev al x=some v:=by rfl)(hy:ev al y=some (.string s):=by rfl)(hd:Nat.blt d n=true:=by rfl):
  WL P n ops Q (⟨some d,.call { callee:=.builtin .append,args:=#[x,y],argTypes:=#[t,u] },ty,pos,aft,none⟩::rest) al w:=by
 obtain ⟨i,hi,O,C,D⟩:=hE.info;obtain ⟨v',w',j,J,G,U⟩:=run_append_own_string w base t u ty e i hE.sl (Jcf h.ok hu hku rfl) hi O C D v m xs ha s (by unfold maxLen;omega) hby hbase;refine wop hd (λa o=>?_) (kk v' w' J G);simp [execOp,resolve,invoke,builtin,o.ev hx,o.ev hy,j]
theorem _root_.Go.Wk.Blk.others{w w':World}{g t e:Nat}{cs:List Value}(h:Blk w g t cs)(ho:OthersKept e none w w')(hne:Nat.beq e t=false): Blk w' g t cs :=
 ho g _ h (by simp) (λc j i=>by injection i with _ h2 _;subst h2;simp at hne)
end Go.Wk
namespace Go.Proofs.YtefpailelagbkaaGreatDoor
open Go.RowKit Pl Go.Wk
attribute [local irreducible] WC WL QX WD WDB WP WN WG
def Qsk(v:V): List UInt8:=Lib.itoa v.kind++[44]++(Lib.itoa v.num++[44])++(Lib.itoa (v.str.size:Int)++[44])++v.bytes
def idn(r:Row): List UInt8:=r.flatMap Qsk
structure TB(B0:Nat)(w:World): Prop where
 le:B0<=w.heap.size
 tab:Lib.TabBelow Tryz.prog B0 w "internal/strconv.uint64pow10" .u64 Lib.pow10Tab
theorem TB.below{B0 B:Nat}{w w':World}(h:TB B0 w)(hb:Below B w w')(hle:B0<=B): TB B0 w':=⟨nL h.le hb.size,h.tab.on (hb.mono hle)⟩
theorem TB.ext{B0:Nat}{w w':World}(h:TB B0 w)(hx:Ext w w'): TB B0 w':=h.below hx h.le
theorem EU8: ElT Tryz.prog 240 5 1 1 (.int .u8 0):=⟨Tryz.underlying240,info_parts (by kernel_rfl),rfl,by decide⟩
theorem Jfp{B0 B:Nat}{w:World}{sv:Value}{l:List UInt8}{i:Int}(hT:TB B0 w)(hB0:B0<=B)(hBw:B<=w.heap.size)(h0:-9223372036854775808<=i)(h1:i<=9223372036854775807)(hlim:l.length+21<=140737488355328)(ho:w.ownsRow B 5 1 sv l.length (Bc l)): Ret Tryz.prog 158 [sv,.int .i64 i,.int .i64 10] w λu w'=>w'.ownsRow B 5 1 u (l++Lib.itoa i).length (Bc (l++Lib.itoa i))/\Below B w w'/\Lib.OthersKept 5 none w w':=by
 refine ⟨⟨_,_,Tryz.func158,rfl,by kernel_rfl⟩,?_⟩;refine (Tryz.strconv_AppendInt_10 B l.length i h0 h1 sv (Bc l) w ho hBw hlim λw' G=>hT.tab w' (G.mono hB0)).mono ?_;rintro e w' ⟨j,rfl,D,C,o⟩;refine ⟨j,rfl,?_,C,o⟩;have J:Bc (l++Lib.itoa i)=Bc l++Lib.byteCells (Lib.itoa i):=by simp [Bc,Lib.byteCells]
 rw [J,List.length_append];exact D
def Qwt(v:V): Prop:=(-9223372036854775808<=v.kind/\v.kind<=9223372036854775807)/\(-9223372036854775808<=v.num/\v.num<=9223372036854775807)
theorem Qzk(z:Int)(w:World): (Instr.buildSlice 240 1 #[(0,.int .u8 z)]).run Tryz.prog w=.ok (.slice (some ⟨w.heap.size,0,none⟩) 1 1) (w.alloc (.cells [.int .u8 z].toArray 5)):=by kernel_rfl
theorem Qws{r:Row}{i:Nat}(h:i<r.length): idn (r.take (i+1))=idn (r.take i)++Qsk (r.getD i V0):=by
 unfold idn;rw [Jjp V0 h,List.flatMap_append];simp only [List.flatMap_cons,List.flatMap_nil,List.append_nil]
theorem Xws{r:Row}{i:Nat}(h:i<r.length): (idn (r.take i)).length+(Qsk (r.getD i V0)).length<=(idn r).length:=by
 have e:idn r=idn (r.take (i+1))++idn (r.drop (i+1)):=by unfold idn;rw [<-List.flatMap_append,List.take_append_drop]
 rw [e,Qws h,List.length_append,List.length_append];omega
theorem Bc_app(a b:List UInt8): Bc (a++b)=Bc a++Bc b:=by simp [Bc]
theorem Bc_one(l:List UInt8): ∀ u∈Bc l,u.oneCell'=true:=λu i=>by
 obtain ⟨c,_,rfl⟩:=List.mem_map.1 i;rfl
theorem Jsm(l:List UInt8)(c:UInt8): l.length+1=(l++[c]).length:=by simp
theorem Jyx{w:World}{base e sz n:Nat}{v:Value}{cs:List Value}(h:w.ownsRow base e sz v n cs): ∀ k,v.ownBlock=some k->base<=k:=λk i=>by
 obtain ⟨A,c,rfl,_,j⟩:=Jjd h;exact (j k i).1
theorem Jzd{B0:Nat}{w:World}{A:Option Addr}{c:Nat}{r:Row}(hT:TB B0 w)(hR:RdR w A r)(hfit:∀ v∈r,Qwt v)(hlim:(idn r).length+64<=140737488355328)(hr:r.length<=1000000):
  Ret Tryz.prog 128 [.slice A r.length c] w λu w'=>u=.string (str (idn r))/\Ext w w':=by
 refine Jjc Tryz.func128 Tryz.ntmps128 rfl (by kernel_rfl) rfl ?_;refine ρ ?_;refine Jqb (fun (i:Nat) (vn:Value)=>[(3,vn),(6,.slice A r.length c),(7,.int .i64 (r.length:Int)),(8,.int .i64 (i:Int))])
  (λi vn w'=>i<=r.length/\Ext w w'/\w'.ownsRow w.heap.size 5 1 vn (idn (r.take i)).length (Bc (idn (r.take i)))) (λi _=>r.length-i) 0 (.slice none 0 0) sB
  ⟨Nat.zero_le _,Ext.refl _,Jxm _ _ _ _⟩ ?_
 rintro i vn w1 ⟨hi,a4,hn⟩;refine ρ ?_;refine ci (λh=>?_) (λh=>?_)
 ·have li:i<r.length:=by have:=oT h;omega
  clear h;have af:RdR w1 A r:=Rd.ext hR a4;have bn:=Xws li;have hf:=hfit _ (getD_mem' V0 r li);refine ρ ?_;refine ixq 3 i af li ?_;refine ρ ?_;refine lds (cs:=(r.getD i V0).cells) (λj u hu=>RdR.cell af li hu) ?_;refine ρ ?_;refine alc (cs:=V0.cells) Qml ?_;intro w2 b b6 hb ax;refine ρ ?_;refine stb (cs':=(r.getD i V0).cells) ax ?_ (V.one _);intro w3 ak bp a7;have am:Ext w1 w3:=a7 w1 b6 hb;have ao:=Jjb hn am;have O:=a4.trans am;have br:w.heap.size<=b:=nL a4.size hb;have b7:=Qws li;generalize r.getD i V0=v at *
  generalize idn (r.take i)=l0 at *
  have b9:=Jct v;have bo:(Qsk v).length=(Lib.itoa v.kind).length+1+((Lib.itoa v.num).length+1)+((Lib.itoa (v.str.size:Int)).length+1)+v.bytes.length:=by simp only [Qsk,List.length_append,List.length_cons,List.length_nil]
  clear hn ax a7 af;refine ρ ?_;refine ld (ak.at (i:=0) rfl) ?_;refine ρ ?_;refine cl (Jfp (B:=w.heap.size) (l:=l0) (i:=v.kind) (hT.ext O) hT.le O.size hf.1.1 hf.1.2 (by first|omega|simp only [List.length_append,List.length_cons,List.length_nil];omega) ao) ?_;rintro u4 w4 ⟨ad,aw,bb⟩;have a6:Ext w w4:=Below.trans O aw;have aj:=ak.others bb rfl;clear ao ak;refine ρ ?_;refine bsl (Qzk _) ?_;intro w5 b5 D bt be;refine ρ ?_;refine apb (m':=1) (news:=Bc [44]) EU8 (Jjb ad D) (be.rd (n:=1) rfl) (Bc_one _) (by unfold maxLen;first|omega|simp only [List.length_append];omega) (by first|omega|simp only [List.length_append];omega) (a6.trans D).size ?_;intro v6 w6 ac ar bm;rw [<-Bc_app,Jsm _ 44]at ac;have J:Ext w w6:=Jjk (a6.trans D) ar (Jyx (Jjb ad D));have ai:=(aj.ext D).grown ar ((aj.ext D).ne_own (Jjb ad D) rfl);clear aj;refine ρ ?_;refine ld (ai.at (i:=1) rfl) ?_
  refine ρ ?_;refine cl (Jfp (B:=w.heap.size) (l:=l0++Lib.itoa v.kind++[44]) (i:=v.num) (hT.ext J) hT.le J.size hf.2.1 hf.2.2 (by first|omega|simp only [List.length_append,List.length_cons,List.length_nil];omega) ac) ?_;rintro u7 w7 ⟨ab,av,ba⟩;have a5:Ext w w7:=Below.trans J av;have ah:=ai.others ba rfl;clear ac ai;refine ρ ?_;refine bsl (Qzk _) ?_;intro w8 b8 C bs bd;refine ρ ?_;refine apb (m':=1) (news:=Bc [44]) EU8 (Jjb ab C) (bd.rd (n:=1) rfl) (Bc_one _) (by unfold maxLen;first|omega|simp only [List.length_append,List.length_cons,List.length_nil];omega) (by first|omega|simp only [List.length_append,List.length_cons,List.length_nil];omega) (a5.trans C).size ?_;intro v9 w9 aa aq bl;rw [<-Bc_app,Jsm _ 44]at aa;have G:Ext w w9:=Jjk (a5.trans C) aq (Jyx (Jjb ab C));have ag:=(ah.ext C).grown aq ((ah.ext C).ne_own (Jjb ab C) rfl);clear ah;refine ρ ?_;refine ld (ag.at (i:=2) rfl) ?_
  refine ρ ?_;refine cl (Jfp (B:=w.heap.size) (l:=l0++Lib.itoa v.kind++[44]++Lib.itoa v.num++[44]) (i:=(v.str.size:Int)) (hT.ext G) hT.le G.size (by omega) (by omega) (by first|omega|simp only [List.length_append,List.length_cons,List.length_nil];omega) aa) ?_;rintro bj b3 ⟨a2,ae,an⟩;have Z:Ext w b3:=Below.trans G ae;have a3:=ag.others an rfl;clear aa ag;refine ρ ?_;refine bsl (Qzk _) ?_;intro bh bu o bg az;refine ρ ?_;refine apb (m':=1) (news:=Bc [44]) EU8 (Jjb a2 o) (az.rd (n:=1) rfl) (Bc_one _) (by unfold maxLen;first|omega|simp only [List.length_append,List.length_cons,List.length_nil];omega) (by first|omega|simp only [List.length_append,List.length_cons,List.length_nil];omega) (Z.trans o).size ?_;intro bi b2 a1 a8 bf;rw [<-Bc_app,Jsm _ 44]at a1;have U:Ext w b2:=Jjk (Z.trans o) a8 (Jyx (Jjb a2 o));have ay:=(a3.ext o).grown a8 ((a3.ext o).ne_own (Jjb a2 o) rfl)
  clear a3;refine ρ ?_;refine ld (ay.at (i:=2) rfl) ?_;refine ρ ?_;refine aps (base:=w.heap.size) (s:=v.str) EU8 a1 (by first|omega|simp only [List.length_append,List.length_cons,List.length_nil];omega) U.size ?_;intro b4 b1 ap au;have a9:Ext w b1:=Jjk U au (Jyx a1);refine ρ ?_;refine Jjm (i+1) b4 sO ⟨li,a9,?_⟩ (by omega);rw [b7];have e1:l0++Qsk v=l0++Lib.itoa v.kind++[44]++Lib.itoa v.num++[44]++Lib.itoa (v.str.size:Int)++[44]++v.bytes:=by simp only [Qsk,List.append_assoc]
  rw [e1,Bc_app,List.length_append,<-b9];exact ap
 have bc:i=r.length:=by have:=oF h;omega
 rw [bc,List.take_length]at hn;obtain ⟨A3,c3,rfl,bq,_⟩:=Jjd hn;refine ρ ?_;refine sb (Rd.own hn) ?_;refine ρ ?_;exact Jjr ⟨rfl,a4⟩
end Go.Proofs.YtefpailelagbkaaGreatDoor
namespace Go.Proofs.YtefpailelagbkaaGreatDoor
open Go.RowKit Pl Go.Wk Go.Lib
def Xvd(l:List UInt8): Nat:=l.foldl (λa c=>10*a+(c.toNat-48)) 0
theorem Jrx{k:Nat}(h:k<10): (UInt8.ofNat (48+k)).toNat=48+k:=by
 rw [UInt8.toNat_ofNat'];omega
theorem Jvs(u:Nat): Xvd (decDigits u)=u:=by
 induction u using Nat.strongRecOn with
 | ind u ih=>
  rw [decDigits];split
  ·rename_i h;simp only [Xvd,List.foldl_cons,List.foldl_nil,Jrx h];omega
  ·rename_i h;have i:=ih (u / 10) (by omega);unfold Xvd at i ⊢;rw [List.foldl_append,i];simp only [List.foldl_cons,List.foldl_nil,Jrx (show u % 10<10 by omega)];omega
theorem Qzb(u:Nat): ∀ c∈decDigits u,48<=c.toNat/\c.toNat<=57:=by
 induction u using Nat.strongRecOn with
 | ind u ih=>
  rw [decDigits];split
  ·rename_i h;intro c i;rw [List.mem_singleton.1 i,Jrx h];omega
  ·rename_i h;intro c i;rcases List.mem_append.1 i with i|i
   ·exact ih (u / 10) (by omega) c i
   ·rw [List.mem_singleton.1 i,Jrx (show u % 10<10 by omega)];omega
theorem Jbd(i:Int): ∀ c∈itoa i,c≠44:=by
 intro c j e;subst e;unfold itoa at j;split at j
 ·rcases List.mem_cons.1 j with h|h
  ·exact absurd h (by decide)
  ·have:=Qzb _ _ h;exact absurd this.1 (by decide)
 ·have:=Qzb _ _ j;exact absurd this.1 (by decide)
theorem Jrq{i j:Int}(h:itoa i=itoa j): i=j:=by
 have key:∀ (a:Nat) (l:List UInt8),decDigits a≠45::l:=λa l e=>by
  have:=Qzb a 45 (by rw [e];exact mC);exact absurd this.1 (by decide)
 unfold itoa at h;split at h<;>split at h
 ·have:=congrArg Xvd (List.cons.inj h).2;rw [Jvs,Jvs]at this;omega
 ·exact absurd h.symm (key _ _)
 ·exact absurd h (key _ _)
 ·have:=congrArg Xvd h;rw [Jvs,Jvs]at this;omega
theorem Qzd{a b x y:List UInt8}(ha:∀ c∈a,c≠44)(hb:∀ c∈b,c≠44)(h:a++44::x=b++44::y): a=b/\x=y:=by
 induction a generalizing b with
 | nil=>cases b with
  | nil=>simpa using h
  | cons c b=>simp only [List.nil_append,List.cons_append,List.cons.injEq]at h;exact absurd h.1.symm (hb c mC)
 | cons d a ih=>cases b with
  | nil=>simp only [List.nil_append,List.cons_append,List.cons.injEq]at h;exact absurd h.1 (ha d mC)
  | cons c b=>
   simp only [List.cons_append,List.cons.injEq]at h;obtain ⟨o,j⟩:=ih (λc i=>ha c (List.mem_cons_of_mem _ i)) (λc i=>hb c (List.mem_cons_of_mem _ i)) h.2;exact ⟨by rw [h.1,o],j⟩
theorem Jdd(v:V)(r:Row): idn (v::r)=itoa v.kind++44::(itoa v.num++44::(itoa (v.str.size:Int)++44::(v.bytes++idn r))):=by
 simp only [idn,List.flatMap_cons,Qsk,List.append_assoc,List.cons_append,List.nil_append]
theorem Jrt: ∀ {r s:Row},idn r=idn s->r=s
 | [],[],_=>rfl
 | [],v::s,h=>by
  rw [Jdd]at h;have:=congrArg List.length h;simp [idn]at this
 | v::r,[],h=>by
  rw [Jdd]at h;have:=congrArg List.length h;simp [idn]at this
 | v::r,u::s,h=>by
  rw [Jdd,Jdd]at h;obtain ⟨h1,h⟩:=Qzd (Jbd _) (Jbd _) h;obtain ⟨h2,h⟩:=Qzd (Jbd _) (Jbd _) h;obtain ⟨h3,h⟩:=Qzd (Jbd _) (Jbd _) h;have h3:=Jrq h3;rw [Jct,Jct]at h3;obtain ⟨h4,h5⟩:=List.append_inj h (by omega);have:=Jrt h5;subst this;have e:v=u:=by
   obtain ⟨k1,n1,s1⟩:=v;obtain ⟨k2,n2,s2⟩:=u;have a1:k1=k2:=Jrq h1;have a2:n1=n2:=Jrq h2;have a3:s1=s2:=by
    apply ByteArray.ext
    exact Array.toList_inj.1 h4
   rw [a1,a2,a3]
  rw [e]
theorem Qgx: ∀ {r:Row},(∀ v∈r,Qwt v/\v.bytes.length<=24)->(idn r).length<=r.length*90
 | [],_=>by simp [idn]
 | v::r,h=>by
  have ih:=Qgx (r:=r) λu hu=>h u (List.mem_cons_of_mem _ hu);obtain ⟨⟨h1,h2⟩,h3⟩:=h v mC;have a1:=itoa_length_le _ h1.1 h1.2;have a2:=itoa_length_le _ h2.1 h2.2;have a3:=itoa_length_le (v.str.size:Int) (by omega) (by rw [Jct];omega);rw [Jdd];simp only [List.length_append,List.length_cons];omega
open Go.RowKit Pl Go.Wk
attribute [local irreducible] WC WL QX WD WDB WP WN WG
theorem Xqs(v:V)(w:World): (Instr.buildSlice 40 1 #[(0,v.val)]).run Tryz.prog w=.ok (.slice (some ⟨w.heap.size,0,none⟩) 1 1) (w.alloc (.cells v.cells.toArray 71)):=by kernel_rfl
theorem rowC_app'(a b:Row): Jzj (a++b)=Jzj a++Jzj b:=by simp [Jzj]
theorem rowC_one''(v:V): Jzj [v]=v.cells:=by simp [Jzj]
theorem Qnb{cs:List Nat}{x:Row}{k:Nat}(h:k<cs.length): pmR (cs.take (k+1)) x=pmR (cs.take k) x++[x.getD (cs.getD k 0) V0]:=by
 unfold pmR;rw [Jjp 0 h,List.map_append];rfl
theorem Qkv{w:World}{vx:Value}{x:Row}{C:Option Addr}{cc:Nat}{cs:List Nat}(hx:RowV w vx x)(hC:Rd w 1 C cs.length (Jkg (nz cs)))(hlt:∀ c∈cs,c<x.length)(hl:cs.length<=1000):
  Ret Tryz.prog 129 [vx,.slice C cs.length cc] w λu w'=>RowV w' u (pmR cs x)/\Ext w w':=by
 obtain ⟨A,c,rfl,aa,a9,hR⟩:=hx;refine Jjc Tryz.func129 Tryz.ntmps129 rfl (by kernel_rfl) rfl ?_;refine ρ ?_;refine mk0 EV cs.length (by omega) (by unfold maxLen;omega) ?_;intro w0 O Z a3;refine ρ ?_;refine Jqb (fun (k:Nat) (U:Value)=>[(0,.slice A x.length c),(5,U),(11,.slice C cs.length cc),(12,.int .i64 (cs.length:Int)),(13,.int .i64 (k:Int))])
  (λk U w'=>k<=cs.length/\Ext w w'/\Qzv w' w.heap.size U (pmR (cs.take k) x)) (λk _=>cs.length-k) 0 (.slice O 0 cs.length) sB
  ⟨Nat.zero_le _,Z,a3⟩ ?_
 rintro k U w1 ⟨hk,i,G⟩;refine ρ ?_;refine ci (λh=>?_) (λh=>?_)
 ·have lk:k<cs.length:=by have:=oT h;omega
  clear h;have J:RdR w1 A x:=Rd.ext hR i;have D:=hlt _ (getD_mem' 0 cs lk);refine ρ ?_;refine ix k (hC.ext i) lk ?_;refine ρ ?_;refine ld ((hC.ext i).cell (Jzc lk)) ?_;refine ρ ?_;refine ixq 3 (cs.getD k 0) J D ?_;refine ρ ?_;refine lds (cs:=(x.getD (cs.getD k 0) V0).cells) (λj u hu=>RdR.cell J D hu) ?_;refine ρ ?_;refine bsl (Xqs _) ?_;intro w2 b o hb hB;have a1:=Qnb (x:=x) lk;have a8:(pmR (cs.take k) x).length=k:=by rw [Jxb,List.length_take];omega
  refine ρ ?_;refine apb (m':=1) (news:=(x.getD (cs.getD k 0) V0).cells) EV (Jjb G o) (hB.rd (n:=1) rfl) (V.one _) (by unfold maxLen;omega) (by omega) (i.trans o).size ?_;intro v3 w3 a2 a5 a7;refine ρ ?_;refine Jjm (k+1) v3 sO ⟨lk,Jjk (i.trans o) a5 (Jyx (Jjb G o)),?_⟩ (by omega);rw [Qzv,a1,List.length_append,rowC_app',rowC_one''];exact a2
 have a4:k=cs.length:=by have:=oF h;omega
 rw [a4,List.take_length]at G;obtain ⟨A3,c3,rfl,a6,_⟩:=Jjd G;refine ρ ?_;refine Jjr ⟨⟨A3,c3,rfl,a6,by rw [Jxb];omega,Rd.own G⟩,i⟩
theorem Jml{w:World}{D:Option Addr}{d:Nat}{vars:List Nat}{s:Nat}(hD:Rd w 1 D vars.length (Jkg (nz vars)))(hs:s<4294967296)(hv:∀ v∈vars,v<32)(hl:vars.length<=32):
  Ret Tryz.prog 125 [.slice D vars.length d,.int .u32 (s:Int)] w λu w'=>Jnh w' w.heap.size u (Jqx vars s)/\Ext w w':=by
 refine Jjc Tryz.func125 Tryz.ntmps125 rfl (by kernel_rfl) rfl ?_;refine ρ ?_;refine Jqb (fun (k:Nat) (vc:Value)=>[(1,.int .u32 (s:Int)),(5,vc),(8,.slice D vars.length d),(9,.int .i64 (vars.length:Int)),(10,.int .i64 (k:Int))])
  (λk vc w'=>k<=vars.length/\Ext w w'/\Jnh w' w.heap.size vc (Jyb vars s k)) (λk _=>vars.length-k) 0 (.slice none 0 0) sB
  ⟨Nat.zero_le _,Ext.refl _,Jxm _ _ _ _⟩ ?_
 rintro k vc w1 ⟨hk,j,C⟩;refine ρ ?_;refine ci (λh=>?_) (λh=>?_)
 ·have lk:k<vars.length:=by have:=oT h;omega
  clear h;have a1:(Jyb vars s k).length<=k:=by
   have:=List.length_filter_le (λi=>s.testBit (vars.getD i 0)) (List.range k);rw [List.length_range]at this;exact this
  refine ρ ?_;refine ix k (hD.ext j) lk ?_;refine ρ ?_;refine ld ((hD.ext j).cell (Jzc lk)) ?_;refine ρ ?_;refine Qrv (s:=s) (v:=vars.getD k 0) (by have:=hv _ (getD_mem' 0 vars lk);omega) ?_;refine ρ ?_;refine ci (λh=>?_) (λh=>?_)
  ·rw [Jkh hs]at h;refine ρ ?_;refine bsl (bs1Int'' _) ?_;intro w2 b o hb hB;refine ρ ?_;refine apI (Jjb C o) hB (by omega) (j.trans o).size ?_;intro U w3 G O Z;refine ρ ?_;refine Jjm (k+1) U sO ⟨lk,Jjk (j.trans o) O (Jyx (Jjb C o)),?_⟩ (by omega);rw [Jkc,if_pos h];exact G
  ·rw [Jkh hs]at h;refine ρ ?_;refine Jjm (k+1) vc sO ⟨lk,j,?_⟩ (by omega);rw [Jkc,if_neg (by rw [h];simp),List.append_nil];exact C
 have J:k=vars.length:=by have:=oF h;omega
 rw [J]at C;refine ρ ?_;exact Jjr ⟨C,j⟩
open Go.RowKit Pl Go.Wk
theorem Qdl{l:List UInt32}{k:Nat}(c:UInt32)(h:k<l.length): val (l.set k c)+4294967296^k*(l.getD k 0).toNat=val l+4294967296^k*c.toNat:=by
 induction l generalizing k with
 | nil=>simp at h
 | cons x l ih=>
  cases k with
  | zero=>simp [val];omega
  | succ k=>
   have:=ih (k:=k) (by simpa using h);simp only [List.set_cons_succ,val,List.getD_cons_succ,Nat.pow_succ];have j:4294967296^k*4294967296*(l.getD k 0).toNat=4294967296*(4294967296^k*(l.getD k 0).toNat):=by
    rw [Nat.mul_comm (4294967296^k) 4294967296,Nat.mul_assoc]
   have i:4294967296^k*4294967296*c.toNat=4294967296*(4294967296^k*c.toNat):=by
    rw [Nat.mul_comm (4294967296^k) 4294967296,Nat.mul_assoc]
   rw [j,i];omega
structure MulO(a b:List UInt32)(i:Nat)(os:List UInt32): Prop where
 len:os.length=a.length+b.length
 val:val os=val (a.take i)*val b
 zero:∀ k,i+b.length<=k->os.getD k 0=0
structure MulI(a b:List UInt32)(i j c:Nat)(os:List UInt32): Prop where
 len:os.length=a.length+b.length
 small:c<4294967296
 val:val os+4294967296^(i+j)*c=Pl.val (a.take i)*Pl.val b+4294967296^i*(a.getD i 0).toNat*Pl.val (b.take j)
 zero:∀ k,i+b.length<=k->os.getD k 0=0
theorem Jlt{l:List UInt32}{k m:Nat}(c:UInt32)(h:k≠m): (l.set k c).getD m 0=l.getD m 0:=by
 simp [List.getD,List.getElem?_set_ne h]
theorem Qsf{x y:Nat}(hx:x<4294967296)(hy:y<4294967296): x*y<=18446744065119617025:=by
 have:=Nat.mul_le_mul (show x<=4294967295 by omega) (show y<=4294967295 by omega);omega
theorem MulO.first{a b:List UInt32}: MulO a b 0 (List.replicate (a.length+b.length) 0):=by
 refine ⟨by simp,?_,λk _=>?_⟩
 ·have:∀ n,Pl.val (List.replicate n (0:UInt32))=0:=λn=>by
   induction n with
   | zero=>rfl
   | succ n ih=>rw [List.replicate_succ];simp [Pl.val,ih]
  rw [this];simp [Pl.val]
 ·simp only [List.getD,List.getElem?_replicate];split<;>rfl
theorem MulO.start{a b:List UInt32}{i:Nat}{os:List UInt32}(h:MulO a b i os): MulI a b i 0 0 os :=
 ⟨h.len,by omega,by rw [h.val];simp [Pl.val],h.zero⟩
theorem MulI.step{a b:List UInt32}{i j c s:Nat}{os:List UInt32}(h:MulI a b i j c os)(hi:i<a.length)(hj:j<b.length)(hs:s=c+((a.getD i 0).toNat*(b.getD j 0).toNat+(os.getD (i+j) 0).toNat)):
  MulI a b i (j+1) (s / 4294967296) (os.set (i+j) (UInt32.ofNat s))/\s<18446744073709551616:=by
 obtain ⟨h1,h2,h3,O⟩:=h;have G:(a.getD i 0).toNat<4294967296:=(a.getD i 0).toNat_lt;have D:(b.getD j 0).toNat<4294967296:=(b.getD j 0).toNat_lt;have hz:(os.getD (i+j) 0).toNat<4294967296:=(os.getD (i+j) 0).toNat_lt;have hm:=Qsf G D;have o:s<18446744073709551616:=by omega
 refine ⟨⟨by rw [List.length_set];exact h1,by omega,?_,λk J=>by rw [Jlt _ (by omega)];exact O k J⟩,o⟩;have e:=Qdl (UInt32.ofNat s) (show i+j<os.length by omega);rw [UInt32.toNat_ofNat']at e;rw [Jyr];generalize hX:(a.getD i 0).toNat=X at *
 generalize hY:(b.getD j 0).toNat=Y at *
 generalize hZ:(os.getD (i+j) 0).toNat=Z at *
 generalize Pl.val (os.set (i+j) (UInt32.ofNat s))=V' at *
 generalize Pl.val os=V at *
 generalize Pl.val (b.take j)=W at *
 generalize Pl.val (a.take i)*Pl.val b=U at *
 have C:4294967296^(i+(j+1))*(s / 4294967296)=4294967296^(i+j)*(4294967296*(s / 4294967296)):=by
  rw [show i+(j+1)=(i+j)+1 by omega,Nat.pow_succ,Nat.mul_assoc]
 have u:4294967296^i*X*(W+4294967296^j*Y)=4294967296^i*X*W+4294967296^(i+j)*(X*Y):=by
  rw [Nat.mul_add,Nat.pow_add];congr 1
  simp only [Nat.mul_assoc,Nat.mul_left_comm,Nat.mul_comm]
 have p3:4294967296^(i+j)*(s % 2^32)+4294967296^(i+j)*(4294967296*(s / 4294967296))=4294967296^(i+j)*c+(4294967296^(i+j)*(X*Y)+4294967296^(i+j)*Z):=by
  rw [<-Nat.mul_add,<-Nat.mul_add,<-Nat.mul_add];congr 1
  omega
 rw [C,u];omega
theorem MulI.last{a b:List UInt32}{i c:Nat}{os:List UInt32}(h:MulI a b i b.length c os)(hi:i<a.length): MulO a b (i+1) (os.set (i+b.length) (UInt32.ofNat c)):=by
 obtain ⟨u,D,o,j⟩:=h;refine ⟨by rw [List.length_set];exact u,?_,λk C=>by rw [Jlt _ (by omega)];exact j k (by omega)⟩;have e:=Qdl (UInt32.ofNat c) (show i+b.length<os.length by omega);rw [j _ (Nat.le_refl _),UInt32.toNat_ofNat',show c % 2^32=c by omega,show (0:UInt32).toNat=0 from rfl,Nat.mul_zero,Nat.add_zero]at e;rw [e,o,List.take_length,Jyr,Nat.add_mul]
theorem Xqc{c x y z:Nat}(hc:c<4294967296)(hx:x<4294967296)(hy:y<4294967296)(hz:z<4294967296):
  IntKind.u64.wrap ((c:Int)+IntKind.u64.wrap (IntKind.u64.wrap (IntKind.u64.wrap (x:Int)*IntKind.u64.wrap (y:Int))+IntKind.u64.wrap (z:Int)))=((c+(x*y+z):Nat):Int):=by
 have i:=Qsf hx hy;have w:∀ n:Nat,n<18446744073709551616->IntKind.u64.wrap (n:Int)=(n:Int):=λn hn=>by rw [IntKind.wrap_u64];omega
 rw [w x (by omega),w y (by omega),w z (by omega),<-Int.natCast_mul,w _ (by omega),<-Int.natCast_add,w _ (by omega),<-Int.natCast_add,w _ (by omega)]
theorem Jbc{v u:Value}{n m:Nat}{w:World}(hv:NatV w v n)(hu:NatV w u m)(hln:(Jjf n).length<=1000)(hlm:(Jjf m).length<=1000): Ret Tryz.prog 36 [v,u] w λr w'=>NatV w' r (n*m)/\Fresh w r/\Ext w w':=by
 refine Jjc Tryz.func36 Tryz.ntmps36 rfl (by kernel_rfl) rfl ?_;refine ρ ?_;refine cl (Jhf hv) ?_;rintro v' w' ⟨⟨A,rfl,ha⟩,rfl⟩;refine ρ ?_;refine cl (Jhf hu) ?_;rintro u' G ⟨⟨B,rfl,hb⟩,rfl⟩;generalize hL:(Jjf n).length=L at *
 generalize hM:(Jjf m).length=M at *
 refine ρ ?_;refine mkn EN (L+M) (by omega) (by unfold maxLen;omega) ?_;intro w1 O ab a7 hO;have a6:Jgw w1 G.heap.size (.slice O (L+M) (L+M)) (List.replicate (L+M) 0):=by
  have e:(madeCells (Value.int .u32 0).cells ((L+M)*1)).toList=Nc (List.replicate (L+M) 0):=by rw [Nat.mul_one,<-Qzw];exact Jlk _ _
  rw [e]at a7;rw [Jgw,List.length_replicate];exact a7
 refine ρ ?_;refine Jqb (fun (i:Nat) (o:List UInt32)=>[(0,.slice A L L),(1,.slice B M M),(5,.slice O (L+M) (L+M)),(20,.int .i64 (L:Int)),(21,.int .i64 (i:Int))])
  (λi o w2=>i<=L/\Ext G w2/\MulO (Jjf n) (Jjf m) i o/\Jgw w2 G.heap.size (.slice O (L+M) (L+M)) o) (λi _=>L-i) 0 (List.replicate (L+M) 0) sB
  ⟨Nat.zero_le _,ab,by rw [<-hL,<-hM];exact MulO.first,a6⟩ ?_
 rintro i o w2 ⟨hi,a5,hI,a4⟩;refine ρ ?_;refine ci (λh=>?_) (λh=>?_)
 ·have li:i<L:=by have:=oT h;omega
  clear h;refine ρ ?_;refine Jxx (fun (j c:Nat) (o:List UInt32)=>[(0,.slice A L L),(1,.slice B M M),(5,.slice O (L+M) (L+M)),(6,.int .i64 (i:Int)),(7,.int .u64 (c:Int)),(20,.int .i64 (L:Int)),(21,.int .i64 (i:Int)),(25,.int .i64 (M:Int)),(26,.int .i64 (j:Int))])
   (λj c o w3=>j<=M/\Ext G w3/\MulI (Jjf n) (Jjf m) i j c o/\Jgw w3 G.heap.size (.slice O (L+M) (L+M)) o) (λj _ _=>M-j) 0 0 o sB
   ⟨Nat.zero_le _,a5,hI.start,a4⟩ ?_
  clear hI a4;rintro j c o w3 ⟨hj,Z,hI,J⟩;have C:o.length=L+M:=by rw [hI.len,hL,hM]
  refine ρ ?_;refine ci (λh=>?_) (λh=>?_)
  ·have lj:j<M:=by have:=oT h;omega
   clear h;have U:Ext w3 w3.drew:=(Ext.refl w3).drew;have aa:=ha.ext (Z.trans U);have a9:=hb.ext (Z.trans U);have D:=Jjb J U;rw [C]at D;have a3:Rd w3.drew 1 O (L+M) (Nc o):=Rd.own D;refine ρ ?_;refine dr [(0,0),(0,1),(0,2),(0,3),(0,4),(0,5),(0,6),(0,7),(0,8),(0,9),(0,10),(0,11),(0,12),(0,13),(0,14),(0,15),(0,16),(0,17),(0,18),(0,19),(0,20),(0,21)] (by kernel_rfl) ?_;refine ρd ?_;refine dix i aa li ?_;refine ρd ?_;refine dld (aa.cell (Jzh (show i<(Jjf n).length by omega))) ?_;refine ρd ?_;refine dix j a9 lj ?_;refine ρd ?_;refine dld (a9.cell (Jzh (show j<(Jjf m).length by omega))) ?_;refine ρd ?_;refine dix (i+j) a3 (by omega) ?_;refine ρd ?_;refine dld (a3.cell (Jzh (show i+j<o.length by omega))) ?_;refine ρd ?_;have hx:((Jjf n).getD i 0).toNat<4294967296:=((Jjf n).getD i 0).toNat_lt;have hy:((Jjf m).getD j 0).toNat<4294967296:=((Jjf m).getD j 0).toNat_lt;have hz:(o.getD (i+j) 0).toNat<4294967296:=(o.getD (i+j) 0).toNat_lt
   obtain ⟨a2,ag⟩:=hI.step (s:=c+(((Jjf n).getD i 0).toNat*((Jjf m).getD j 0).toNat+(o.getD (i+j) 0).toNat)) (by omega) (by omega) rfl;have a8:=Xqc hI.small hx hy hz;refine ρ ?_;generalize c+(((Jjf n).getD i 0).toNat*((Jjf m).getD j 0).toNat+(o.getD (i+j) 0).toNat)=s at *
   refine kv 7 (u:=.int .u64 (s:Int)) (congrArg (Value.int .u64) a8) ?_;refine kv 55 (u:=.int .u32 ((UInt32.ofNat s).toNat:Int)) (congrArg (Value.int .u32) ((congrArg IntKind.u32.wrap a8).trans (Jhc s))) ?_;obtain ⟨s1,s2,s3,s4,s5⟩:=Jqj D (q:=i+j) (by omega) (.int .u32 ((UInt32.ofNat s).toNat:Int));refine ρ ?_;refine ix (i+j) a3 (by omega) ?_;refine sto (s1.trans (Jzh (show i+j<o.length by omega))) s2 ?_;refine ρ ?_;refine Qcr rfl rfl (by decide) rfl ?_;refine ρ ?_;refine Jqc (j+1) (s / 4294967296) (o.set (i+j) (UInt32.ofNat s)) ?_ ⟨lj,(Z.trans U).setCell s4 _,a2,?_⟩ (by omega)
   ·rw [Xjc];exact sB
   ·rw [Jgw,List.length_set,C,<-Jpl];exact s3
  have ae:j=M:=by have:=oF h;omega
  subst ae;clear h;have ac:MulI (Jjf n) (Jjf m) i (Jjf m).length c o:=by rw [hM];exact hI
  have hl:=ac.last (show i<(Jjf n).length by omega);have D:=J;rw [Jgw,C]at D;obtain ⟨s1,s2,s3,s4,s5⟩:=Jqj D (q:=i+j) (by omega) (.int .u32 ((UInt32.ofNat c).toNat:Int));refine ρ ?_;refine ix (i+j) (Rd.own D) (by omega) ?_;rw [Jhc];refine sto (s1.trans (Jzh (show i+j<o.length by omega))) s2 ?_;refine ρ ?_;rw [hM]at hl;refine Jjm (i+1) (o.set (i+j) (UInt32.ofNat c)) sO ⟨li,Z.setCell s4 _,hl,?_⟩ (by omega);rw [Jgw,List.length_set,C,<-Jpl];exact s3
 have af:i=L:=by have:=oF h;omega
 have C:o.length=L+M:=by rw [hI.len,hL,hM]
 have a1:=hI.val;rw [af,List.take_of_length_le (by omega),Jqh,Jqh]at a1;have J:=a4;rw [Jgw,C]at J;have hr:=Rd.own J;refine ρ ?_;rw [<-C]at hr ⊢;refine cl (Jvj hr (Nat.le_refl _) (by omega)) ?_;rintro t w4 ⟨rfl,rfl⟩;have:=Jds hr (by omega);rw [a1]at this ⊢;refine ρ ?_;exact Jjr ⟨this,λad _ _ e=>hO ad (by injection e),a5⟩
open Go.RowKit Pl Go.Wk
theorem Qgn{n:Nat}(h0:n≠0)(h:n<4294967296): Jjf n=[UInt32.ofNat n]:=by
 rw [Jcw h0,show n / 4294967296=0 by omega,limbs_0]
theorem Qjx{A:Option Addr}{n c:Nat}{cs:List Value}{w:World}(hr:Rd w 1 A n cs)(h1:∀ u∈cs,u.oneCell'=true)(hb:n*4<=140737488355328):
  Ret Tryz.prog 102 [.slice A n c] w λv w'=>w'.ownsRow w.heap.size 117 1 v n cs/\Ext w w':=by
 refine Jjc Tryz.func102 Tryz.ntmps102 rfl (by kernel_rfl) rfl ?_;refine ρ ?_;refine Qrw ?_;refine ρ ?_;refine ci (λh=>?_) (λh=>?_)
 ·have J:A=none:=by simpa using h
  subst J;have hn:n=0:=by
   rcases Nat.eq_zero_or_pos n with h0|h0
   ·exact h0
   ·obtain ⟨ad,O,_⟩:=hr.isome h0 (by omega);cases O
  subst hn;have D:cs=[]:=List.eq_nil_of_length_eq_zero (by rw [hr.len]);subst D;refine ρ ?_;exact Jjr ⟨Jxm _ _ _ _,Ext.refl w⟩
 ·refine ρ ?_;refine bsl Qst ?_;intro Z b i G C;refine ρ ?_;refine apo i EN (C.own (n:=0) G rfl (Nat.zero_le _)) (hr.ext i) h1 (by unfold maxLen;omega) (by omega) ?_;intro v2 U j o _ _;refine ρ ?_;rw [Nat.zero_add,List.nil_append]at j;exact Jjr ⟨j,o⟩
theorem Qkg{l:List UInt32}{k:Nat}(h:k<l.length): val (l.drop k)=(l.getD k 0).toNat+4294967296*val (l.drop (k+1)):=by
 rw [List.drop_eq_getElem_cons h];simp [val,List.getD,List.getElem?_eq_getElem h]
structure DivI(l:List UInt32)(d k r:Nat)(os:List UInt32): Prop where
 len:os.length=l.length
 lt:r<d
 old:∀ j,j<k->os.getD j 0=l.getD j 0
 val:val (l.drop k)=Pl.val (os.drop k)*d+r
theorem DivI.step{l os:List UInt32}{d k r s:Nat}(h:DivI l d (k+1) r os)(hk:k<l.length)(hd:d<4294967296)(hs:s=r*4294967296+(l.getD k 0).toNat): DivI l d k (s % d) (os.set k (UInt32.ofNat (s / d)))/\s<18446744073709551616:=by
 obtain ⟨o,Z,C,u⟩:=h;have J:(l.getD k 0).toNat<4294967296:=(l.getD k 0).toNat_lt;have i:s<4294967296*d:=by rw [hs];omega
 have O:s / d<4294967296:=Nat.div_lt_of_lt_mul (by rw [Nat.mul_comm];exact i);refine ⟨⟨by rw [List.length_set];exact o,Nat.mod_lt _ (by omega),λj U=>by rw [Jlt _ (by omega)];exact C j (by omega),?_⟩,by omega⟩;rw [Qkg hk,Qkg (l:=os.set k (UInt32.ofNat (s / d))) (k:=k) (by rw [List.length_set];omega),u];have G:(os.set k (UInt32.ofNat (s / d))).getD k 0=UInt32.ofNat (s / d):=by simp [List.getD,o,hk]
 have D:(os.set k (UInt32.ofNat (s / d))).drop (k+1)=os.drop (k+1):=List.drop_set_of_lt (by omega);rw [G,D,UInt32.toNat_ofNat',Nat.mod_eq_of_lt (show s / d<2^32 by omega)];have:=Nat.div_add_mod s d;generalize Pl.val (os.drop (k+1))=V at *
 rw [Nat.mul_add,Nat.add_mul,<-Nat.mul_assoc];have e3:s / d*d=d*(s / d):=Nat.mul_comm _ _;omega
theorem Xwz{r x:Nat}(hr:r<4294967296)(hx:x<4294967296): bits .or .u64 (IntKind.u64.wrap ((r:Int)*2^min (32:Int).toNat IntKind.u64.bits)) (IntKind.u64.wrap (x:Int))=((r*4294967296+x:Nat):Int):=by
 have o:(2:Int)^min (32:Int).toNat IntKind.u64.bits=4294967296:=by decide
 have j:IntKind.u64.wrap ((r:Int)*4294967296)=((r*4294967296:Nat):Int):=by rw [IntKind.wrap_u64];omega
 have i:IntKind.u64.wrap (x:Int)=(x:Int):=by rw [IntKind.wrap_u64];omega
 rw [o,j,i,u64_or_nat _ _ (by omega) (by omega),nat_join 32 (r*4294967296) x (by simp) (by omega)]
theorem Qcc{A:Option Addr}{L c d base:Nat}{l:List UInt32}{w:World}(hL:l.length=L)(hLm:L<=1100)(ho:w.ownsRow base 117 1 (.slice A L c) L (Nc l))(h0:0<d)(hd:d<4294967296):
  Ret Tryz.prog 103 [.slice A L c,.int .u32 (d:Int)] w λr w'=>r=.int .u32 ((val l % d:Nat):Int)/\(∃ os:List UInt32,os.length=L/\val os=val l / d/\w'.ownsRow base 117 1 (.slice A L c) L (Nc os))/\w.grownBy w' (Value.slice A L c).ownBlock:=by
 refine Jjc Tryz.func103 Tryz.ntmps103 rfl (by kernel_rfl) rfl ?_;refine ρ ?_;refine Jxx (fun (k r:Nat) (os:List UInt32)=>[(0,.slice A L c),(1,.int .u32 (d:Int)),(5,.int .u64 (r:Int)),(6,.int .i64 ((k:Int)-1))])
  (λk r os U=>k<=L/\DivI l d k r os/\U.ownsRow base 117 1 (.slice A L c) L (Nc os)/\w.grownBy U (Value.slice A L c).ownBlock) (λk _ _=>k) L 0 l sB
  ⟨Nat.le_refl _,⟨rfl,h0,λ_ _=>rfl,by rw [List.drop_of_length_le (by omega)];simp [val]⟩,ho,Jqf (Ext.refl w) _⟩ ?_
 rintro k r os U ⟨hk,J,C,G⟩;have a1:os.length=L:=by rw [J.len,hL]
 refine ρ ?_;refine ci (λh=>?_) (λh=>?_)
 ·obtain ⟨k,rfl⟩:∃ j,k=j+1:=⟨k-1,by have:=oT h;omega⟩;clear h;obtain ⟨s,hs⟩:∃ s,s=r*4294967296+(l.getD k 0).toNat:=⟨_,rfl⟩;obtain ⟨i,a3⟩:=J.step (by omega) hd hs;have hx:(l.getD k 0).toNat<4294967296:=(l.getD k 0).toNat_lt;have a4:=J.lt;have o:Rd U 1 A L (Nc os):=Rd.own C;have D:=J.old k (by omega);refine ρ ?_;refine wshl rfl rfl (by decide) rfl ?_;refine ρ ?_;refine ix k o (by omega) ?_;refine ρ ?_;refine ld (o.cell (Jzh (show k<os.length by omega))) ?_;rw [D];refine ρ ?_;have O:bits .or .u64 (IntKind.u64.wrap ((r:Int)*2^min (32:Int).toNat IntKind.u64.bits)) (IntKind.u64.wrap ((l.getD k 0).toNat:Int))=(s:Int):=by rw [hs];exact Xwz (by omega) hx
  refine kv 5 (u:=.int .u64 (s:Int)) (congrArg (Value.int .u64) O) ?_;refine kv 24 (u:=.int .u64 (s:Int)) (congrArg (Value.int .u64) O) ?_;have ed:IntKind.u64.wrap (d:Int)=(d:Int):=by rw [IntKind.wrap_u64];omega
  refine kv 26 (u:=.int .u64 (d:Int)) (congrArg (Value.int .u64) ed) ?_;refine wquo rfl rfl (by omega) rfl ?_;have hq:s / d<=s:=Nat.div_le_self _ _;have e2:IntKind.u32.wrap (IntKind.u64.wrap ((s:Int).tdiv d))=((UInt32.ofNat (s / d)).toNat:Int):=by
   have:(s:Int).tdiv d=((s / d:Nat):Int):=rfl;rw [this];generalize s / d=q at *
   rw [Xxr (by omega),Jhc]
  obtain ⟨s1,s2,s3,s4,s5⟩:=Jqj C (q:=k) (by omega) (.int .u32 ((UInt32.ofNat (s / d)).toNat:Int));refine ρ ?_;refine ix k o (by omega) ?_;rw [e2];refine sto (s1.trans (Jzh (show k<os.length by omega))) s2 ?_;refine ρ ?_;refine kv 32 (u:=.int .u64 (d:Int)) (congrArg (Value.int .u64) ed) ?_;refine wrem rfl rfl (by omega) rfl ?_;refine ρ ?_;refine Jqc k (s % d) (os.set k (UInt32.ofNat (s / d))) ?_ ⟨by omega,i,?_,Jjt G s5⟩ (by omega)
  ·have e3:(s:Int).tmod d=((s % d:Nat):Int):=rfl;rw [e3];exact sO
  ·rw [<-Jpl];exact s3
 ·have a2:k=0:=by have:=oF h;omega
  subst a2;obtain ⟨i1,i2,_,Z⟩:=J;rw [List.drop_zero,List.drop_zero]at Z;have hm:r=val l % d:=by rw [Z,Nat.add_comm,Nat.add_mul_mod_self_right,Nat.mod_eq_of_lt i2]
  have hv:val os=val l / d:=by
   rw [Z,Nat.add_comm,Nat.add_mul_div_right _ _ h0,Nat.div_eq_of_lt i2,Nat.zero_add]
  refine ρ ?_;refine Jjr ⟨?_,⟨os,a1,hv,C⟩,G⟩;rw [Jhc,UInt32.toNat_ofNat',Nat.mod_eq_of_lt (show r<2^32 by omega),hm]
theorem Qbd{v u:Value}{n m:Nat}{w:World}(hv:NatV w v n)(hu:NatV w u m)(hn:(Jjf n).length<=1000)(h0:0<m)(hm:m<4294967296):
  Ret Tryz.prog 66 [v,u] w λr w'=>(∃ x y,r=.tuple #[x,y,.int .i64 0]/\NatV w' x (n / m)/\NatV w' y (n % m))/\Ext w w':=by
 have C:Jjf m=[UInt32.ofNat m]:=Qgn (by omega) hm;refine Jjc Tryz.func66 Tryz.ntmps66 rfl (by kernel_rfl) rfl ?_;refine ρ ?_;refine cl (Jhf hv) ?_;rintro v' w' ⟨⟨A,rfl,ha⟩,rfl⟩;refine ρ ?_;refine cl (Jhf hu) ?_;rintro u' Z ⟨⟨B,rfl,hb⟩,rfl⟩;rw [C]at hb ⊢;refine ρ ?_;refine cl (Jkw (n:=n) (m:=m) ⟨A,_,rfl,Nat.le_refl _,by omega,ha⟩ ⟨B,1,by rw [C],by rw [C];simp,by rw [C];simp,by rw [C];exact hb⟩) ?_;rintro t w' ⟨rfl,i⟩;refine ρ ?_;refine ci (λh=>?_) (λh=>?_)
 ·have J:n<m:=by
   have:=oT h;unfold Qcv at this;rcases Nat.lt_or_ge n m with h1|h1
   ·exact h1
   ·rw [if_neg (by omega)]at this;split at this<;>omega
  refine ρ ?_;refine cl (Qpn (ha.ext i) (Qmc _) (by omega)) ?_;rintro v' w1 ⟨⟨A',c',rfl,U,hr⟩,hx⟩;refine ρ ?_;refine Qhk ⟨⟨.slice none 0 0,_,rfl,?_,?_⟩,i.trans hx⟩
  ·rw [Nat.div_eq_of_lt J];exact NatV.nil _
  ·rw [Nat.mod_eq_of_lt J];exact ⟨A',c',rfl,U,by omega,hr⟩
 refine ρ ?_;refine cl (Qjx (ha.ext i) (Qmc _) (by omega)) ?_;rintro q w1 ⟨ho,G⟩;obtain ⟨A',c',rfl,U,hf⟩:=Jjd ho;have O:=(hb.ext i).ext G;refine ρ ?_;refine ix 0 O (by simp) ?_;refine ρ ?_;refine ld (O.cell (Jzh (l:=[UInt32.ofNat m]) (k:=0) (by simp))) ?_;have em:(([UInt32.ofNat m].getD 0 0).toNat:Int)=(m:Int):=by
  show ((UInt32.ofNat m).toNat:Int)=m;rw [UInt32.toNat_ofNat',Nat.mod_eq_of_lt (show m<2^32 by omega)]
 rw [em];refine ρ ?_;refine cl (Qcc rfl (by omega) ho h0 hm) ?_;rintro r w2 ⟨rfl,⟨os,a2,j,a3⟩,a4⟩;rw [Jqh]at j ⊢;have a1:Ext Z w2:=Jjk (i.trans G) a4 (λk e=>nL i.size (hf k e).1);have o:=Rd.own a3;rw [<-a2]at o U ⊢;refine ρ ?_;refine cl (Jvj o U (by omega)) ?_;rintro t w3 ⟨rfl,rfl⟩;have:=Jds o (by omega);rw [j]at this ⊢;have hr:n % m<m:=Nat.mod_lt _ h0;refine ρ ?_;rw [Xxr (by omega)];refine cl (Qgk (n % m) (by omega) _) ?_;rintro y w4 ⟨hy,D⟩;refine ρ ?_;exact Qhk ⟨⟨_,y,rfl,this.ext D,hy⟩,a1.trans D⟩
end Go.Proofs.YtefpailelagbkaaGreatDoor
