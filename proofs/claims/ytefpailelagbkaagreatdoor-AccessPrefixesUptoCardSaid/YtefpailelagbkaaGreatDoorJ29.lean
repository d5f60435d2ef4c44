/- Part 29 of the proof: Idn, IdP, Pck, Mul. -/
import Derived.Test.YtefpailelagbkaaGreatDoorJ28
import Derived.Test.YtefpailelagbkaaGreatDoorSh
import Derived.Lib.AppendStr
import Derived.Lib.ItoaLen
set_option linter.unusedVariables false
set_option maxRecDepth 100000
set_option maxHeartbeats 40000000
namespace Go.Wk
open Go.Lib
theorem aps{P:Program}{tt:TT}[h:Tab P tt]{n:Nat}{al:AL}{w:World}{Q:Exit->Act->World->Prop}{ops:Array Oper}{rest:List Oper}{d ty:Nat}{pos:String}{aft:Array Edge}{t u e base:Nat}{ku:TK}{x y:Operand}{v:Value}{m:Nat}{xs:List Value}{s:ByteArray}(hE:ElT P t e 1 1 (.int .u8 0))(ha:w.ownsRow base e 1 v m xs)(hby:m+s.size<=140737488355328)(hbase:base<=w.heap.size)(kk:∀ v' w',w'.ownsRow base e 1 v' (m+s.size) (xs++strCells s)->w.grownBy w' v.ownBlock->WL P n ops Q rest ((d,v')::al) w')(hu:tk tt u=some ku:=by rfl)(hku:ku.desc=.string:=by rfl)(hx:ev al x=some v:=by rfl)(hy:ev al y=some (.string s):=by rfl)(hd:Nat.blt d n=true:=by rfl):
  WL P n ops Q (⟨some d,.call { callee:=.builtin .append,args:=#[x,y],argTypes:=#[t,u] },ty,pos,aft,none⟩::rest) al w:=by
 obtain ⟨i,hi,hz,hsz,hbt⟩:=hE.info;obtain ⟨v',w',hrun,k1,k2,k3⟩:=run_append_own_string w base t u ty e i hE.sl (Jcr h.ok hu hku rfl) hi hz hsz hbt v m xs ha s (by unfold maxLen;omega) hby hbase;refine wop hd (λa ha'=>?_) (kk v' w' k1 k2);simp [execOp,resolve,invoke,builtin,ha'.ev hx,ha'.ev hy,hrun]
theorem _root_.Go.Wk.Blk.others{w w':World}{g t e:Nat}{cs:List Value}(h:Blk w g t cs)(ho:OthersKept e none w w')(hne:Nat.beq e t=false): Blk w' g t cs :=
 ho g _ h (by simp) (λc fz hc=>by injection hc with _ h2 _;subst h2;simp at hne)
end Go.Wk
namespace Go.Proofs.YtefpailelagbkaaGreatDoor
open Go.RowKit Pl Go.Wk
attribute [local irreducible] WC WL QX WD WDB WP WN WG
def Xjr(v:V): List UInt8:=Lib.itoa v.kind++[44]++(Lib.itoa v.num++[44])++(Lib.itoa (v.str.size:Int)++[44])++v.bytes
def idn(r:Row): List UInt8:=r.flatMap Xjr
structure TB(B0:Nat)(w:World): Prop where
 le:B0<=w.heap.size
 tab:Lib.TabBelow Tryz.prog B0 w "internal/strconv.uint64pow10" .u64 Lib.pow10Tab
theorem TB.below{B0 B:Nat}{w w':World}(h:TB B0 w)(hb:Below B w w')(hle:B0<=B): TB B0 w':=⟨Nat.le_trans h.le hb.size,h.tab.on (hb.mono hle)⟩
theorem TB.ext{B0:Nat}{w w':World}(h:TB B0 w)(hx:Ext w w'): TB B0 w':=h.below hx h.le
theorem EU8: ElT Tryz.prog 240 5 1 1 (.int .u8 0):=⟨Tryz.underlying240,info_parts (by kernel_rfl),rfl,by decide⟩
theorem Jgk{B0 B:Nat}{w:World}{sv:Value}{l:List UInt8}{i:Int}(hT:TB B0 w)(hB0:B0<=B)(hBw:B<=w.heap.size)(h0:-9223372036854775808<=i)(h1:i<=9223372036854775807)(hlim:l.length+21<=140737488355328)(ho:w.ownsRow B 5 1 sv l.length (Bc l)): Ret Tryz.prog 158 [sv,.int .i64 i,.int .i64 10] w λu w'=>w'.ownsRow B 5 1 u (l++Lib.itoa i).length (Bc (l++Lib.itoa i))/\Below B w w'/\Lib.OthersKept 5 none w w':=by
 refine ⟨⟨_,_,Tryz.func158,rfl,by kernel_rfl⟩,?_⟩;refine (Tryz.strconv_AppendInt_10 B l.length i h0 h1 sv (Bc l) w ho hBw hlim λw' hb=>hT.tab w' (hb.mono hB0)).mono ?_;rintro e w' ⟨v',rfl,k1,k2,k3⟩;refine ⟨v',rfl,?_,k2,k3⟩;have e1:Bc (l++Lib.itoa i)=Bc l++Lib.byteCells (Lib.itoa i):=by simp [Bc,Lib.byteCells]
 rw [e1,List.length_append];exact k1
def Qwc(v:V): Prop:=(-9223372036854775808<=v.kind/\v.kind<=9223372036854775807)/\(-9223372036854775808<=v.num/\v.num<=9223372036854775807)
theorem Qwq(z:Int)(w:World): (Instr.buildSlice 240 1 #[(0,.int .u8 z)]).run Tryz.prog w=.ok (.slice (some ⟨w.heap.size,0,none⟩) 1 1) (w.alloc (.cells [.int .u8 z].toArray 5)):=by kernel_rfl
theorem Qyz{r:Row}{i:Nat}(h:i<r.length): idn (r.take (i+1))=idn (r.take i)++Xjr (r.getD i V0):=by
 unfold idn;rw [Jjm V0 h,List.flatMap_append];simp only [List.flatMap_cons,List.flatMap_nil,List.append_nil]
theorem Xbn{r:Row}{i:Nat}(h:i<r.length): (idn (r.take i)).length+(Xjr (r.getD i V0)).length<=(idn r).length:=by
 have e:idn r=idn (r.take (i+1))++idn (r.drop (i+1)):=by unfold idn;rw [<-List.flatMap_append,List.take_append_drop]
 rw [e,Qyz h,List.length_append,List.length_append];omega
theorem Bc_app(a b:List UInt8): Bc (a++b)=Bc a++Bc b:=by simp [Bc]
theorem Bc_one(l:List UInt8): ∀ u∈Bc l,u.oneCell'=true:=λu hu=>by
 obtain ⟨c,_,rfl⟩:=List.mem_map.1 hu;rfl
theorem Jtz(l:List UInt8)(c:UInt8): l.length+1=(l++[c]).length:=by simp
theorem Jwd{w:World}{base e sz n:Nat}{v:Value}{cs:List Value}(h:w.ownsRow base e sz v n cs): ∀ k,v.ownBlock=some k->base<=k:=λk hk=>by
 obtain ⟨A,c,rfl,_,h4⟩:=Jjd h;exact (h4 k hk).1
theorem Jzp{B0:Nat}{w:World}{A:Option Addr}{c:Nat}{r:Row}(hT:TB B0 w)(hR:RdR w A r)(hfit:∀ v∈r,Qwc v)(hlim:(idn r).length+64<=140737488355328)(hr:r.length<=1000000):
  Ret Tryz.prog 128 [.slice A r.length c] w λu w'=>u=.string (str (idn r))/\Ext w w':=by
 refine Jjb Tryz.func128 Tryz.ntmps128 rfl (by kernel_rfl) rfl ?_;refine ρ ?_;refine Jjv (fun (i:Nat) (vn:Value)=>[(3,vn),(6,.slice A r.length c),(7,.int .i64 (r.length:Int)),(8,.int .i64 (i:Int))])
  (λi vn w'=>i<=r.length/\Ext w w'/\w'.ownsRow w.heap.size 5 1 vn (idn (r.take i)).length (Bc (idn (r.take i)))) (λi _=>r.length-i) 0 (.slice none 0 0) sB
  ⟨Nat.zero_le _,Ext.refl _,Jxj _ _ _ _⟩ ?_
 rintro i vn w1 ⟨hi,hx1,hn⟩;refine ρ ?_;refine ci (λh=>?_) (λh=>?_)
 ·have li:i<r.length:=by have:=of_decide_eq_true h;omega
  clear h;have hR1:RdR w1 A r:=Rd.ext hR hx1;have hle:=Xbn li;have hf:=hfit _ (getD_mem' V0 r li);refine ρ ?_;refine ixq 3 i hR1 li ?_;refine ρ ?_;refine lds (cs:=(r.getD i V0).cells) (λj u hu=>RdR.cell hR1 li hu) ?_;refine ρ ?_;refine alc (cs:=V0.cells) Qpl ?_;intro w2 b hx2 hb hB2;refine ρ ?_;refine stb (cs':=(r.getD i V0).cells) hB2 ?_ (V.one _);intro w3 hB3 hg3 hx3';have hx3:Ext w1 w3:=hx3' w1 hx2 hb;have hn3:=Jjc hn hx3;have hxw3:=hx1.trans hx3;have hbw:w.heap.size<=b:=Nat.le_trans hx1.size hb;have htk:=Qyz li;generalize r.getD i V0=v at *
  generalize idn (r.take i)=l0 at *
  have hsz:=Jdl v;have hl1:(Xjr v).length=(Lib.itoa v.kind).length+1+((Lib.itoa v.num).length+1)+((Lib.itoa (v.str.size:Int)).length+1)+v.bytes.length:=by simp only [Xjr,List.length_append,List.length_cons,List.length_nil]
  clear hn hB2 hx3' hR1;refine ρ ?_;refine ld (hB3.at (i:=0) rfl) ?_;refine ρ ?_;refine cl (Jgk (B:=w.heap.size) (l:=l0) (i:=v.kind) (hT.ext hxw3) hT.le hxw3.size hf.1.1 hf.1.2 (by first|omega|simp only [List.length_append,List.length_cons,List.length_nil];omega) hn3) ?_;rintro u4 w4 ⟨hn4,hbe4,ho4⟩;have hxw4:Ext w w4:=Below.trans hxw3 hbe4;have hB4:=hB3.others ho4 rfl;clear hn3 hB3;refine ρ ?_;refine bsl (Qwq _) ?_;intro w5 b5 hx5 hb5 hB5;refine ρ ?_;refine apb (m':=1) (news:=Bc [44]) EU8 (Jjc hn4 hx5) (hB5.rd (n:=1) rfl) (Bc_one _) (by unfold maxLen;first|omega|simp only [List.length_append];omega) (by first|omega|simp only [List.length_append];omega) (hxw4.trans hx5).size ?_;intro v6 w6 hn6 hg6 hm6;rw [<-Bc_app,Jtz _ 44]at hn6;have hxw6:Ext w w6:=Jjk (hxw4.trans hx5) hg6 (Jwd (Jjc hn4 hx5));have hB6:=(hB4.ext hx5).grown hg6 ((hB4.ext hx5).ne_own (Jjc hn4 hx5) rfl)
  clear hB4;refine ρ ?_;refine ld (hB6.at (i:=1) rfl) ?_;refine ρ ?_;refine cl (Jgk (B:=w.heap.size) (l:=l0++Lib.itoa v.kind++[44]) (i:=v.num) (hT.ext hxw6) hT.le hxw6.size hf.2.1 hf.2.2 (by first|omega|simp only [List.length_append,List.length_cons,List.length_nil];omega) hn6) ?_;rintro u7 w7 ⟨hn7,hbe7,ho7⟩;have hxw7:Ext w w7:=Below.trans hxw6 hbe7;have hB7:=hB6.others ho7 rfl;clear hn6 hB6;refine ρ ?_;refine bsl (Qwq _) ?_;intro w8 b8 hx8 hb8 hB8;refine ρ ?_;refine apb (m':=1) (news:=Bc [44]) EU8 (Jjc hn7 hx8) (hB8.rd (n:=1) rfl) (Bc_one _) (by unfold maxLen;first|omega|simp only [List.length_append,List.length_cons,List.length_nil];omega) (by first|omega|simp only [List.length_append,List.length_cons,List.length_nil];omega) (hxw7.trans hx8).size ?_;intro v9 w9 hn9 hg9 hm9;rw [<-Bc_app,Jtz _ 44]at hn9;have hxw9:Ext w w9:=Jjk (hxw7.trans hx8) hg9 (Jwd (Jjc hn7 hx8))
  have hB9:=(hB7.ext hx8).grown hg9 ((hB7.ext hx8).ne_own (Jjc hn7 hx8) rfl);clear hB7;refine ρ ?_;refine ld (hB9.at (i:=2) rfl) ?_;refine ρ ?_;refine cl (Jgk (B:=w.heap.size) (l:=l0++Lib.itoa v.kind++[44]++Lib.itoa v.num++[44]) (i:=(v.str.size:Int)) (hT.ext hxw9) hT.le hxw9.size (by omega) (by omega) (by first|omega|simp only [List.length_append,List.length_cons,List.length_nil];omega) hn9) ?_;rintro u10 w10 ⟨hn10,hbe10,ho10⟩;have hxw10:Ext w w10:=Below.trans hxw9 hbe10;have hB10:=hB9.others ho10 rfl;clear hn9 hB9;refine ρ ?_;refine bsl (Qwq _) ?_;intro w11 b11 hx11 hb11 hB11;refine ρ ?_;refine apb (m':=1) (news:=Bc [44]) EU8 (Jjc hn10 hx11) (hB11.rd (n:=1) rfl) (Bc_one _) (by unfold maxLen;first|omega|simp only [List.length_append,List.length_cons,List.length_nil];omega) (by first|omega|simp only [List.length_append,List.length_cons,List.length_nil];omega) (hxw10.trans hx11).size ?_
  intro v12 w12 hn12 hg12 hm12;rw [<-Bc_app,Jtz _ 44]at hn12;have hxw12:Ext w w12:=Jjk (hxw10.trans hx11) hg12 (Jwd (Jjc hn10 hx11));have hB12:=(hB10.ext hx11).grown hg12 ((hB10.ext hx11).ne_own (Jjc hn10 hx11) rfl);clear hB10;refine ρ ?_;refine ld (hB12.at (i:=2) rfl) ?_;refine ρ ?_;refine aps (base:=w.heap.size) (s:=v.str) EU8 hn12 (by first|omega|simp only [List.length_append,List.length_cons,List.length_nil];omega) hxw12.size ?_;intro v13 w13 hn13 hg13;have hxw13:Ext w w13:=Jjk hxw12 hg13 (Jwd hn12);refine ρ ?_;refine Jjj (i+1) v13 sO ⟨li,hxw13,?_⟩ (by omega);rw [htk];have e1:l0++Xjr v=l0++Lib.itoa v.kind++[44]++Lib.itoa v.num++[44]++Lib.itoa (v.str.size:Int)++[44]++v.bytes:=by simp only [Xjr,List.append_assoc]
  rw [e1,Bc_app,List.length_append,<-hsz];exact hn13
 have hi':i=r.length:=by have:=of_decide_eq_false h;omega
 rw [hi',List.take_length]at hn;obtain ⟨A3,c3,rfl,hc3,_⟩:=Jjd hn;refine ρ ?_;refine sb (Rd.own hn) ?_;refine ρ ?_;exact Jjq ⟨rfl,hx1⟩
end Go.Proofs.YtefpailelagbkaaGreatDoor
namespace Go.Proofs.YtefpailelagbkaaGreatDoor
open Go.RowKit Pl Go.Wk Go.Lib
def Xcc(l:List UInt8): Nat:=l.foldl (λa c=>10*a+(c.toNat-48)) 0
theorem Jtm{k:Nat}(h:k<10): (UInt8.ofNat (48+k)).toNat=48+k:=by
 rw [UInt8.toNat_ofNat'];omega
theorem Jyg(u:Nat): Xcc (decDigits u)=u:=by
 induction u using Nat.strongRecOn with
 | ind u ih=>
  rw [decDigits];split
  ·rename_i h;simp only [Xcc,List.foldl_cons,List.foldl_nil,Jtm h];omega
  ·rename_i h;have h1:=ih (u / 10) (by omega);unfold Xcc at h1 ⊢;rw [List.foldl_append,h1];simp only [List.foldl_cons,List.foldl_nil,Jtm (show u % 10<10 by omega)];omega
theorem Qwg(u:Nat): ∀ c∈decDigits u,48<=c.toNat/\c.toNat<=57:=by
 induction u using Nat.strongRecOn with
 | ind u ih=>
  rw [decDigits];split
  ·rename_i h;intro c hc;rw [List.mem_singleton.1 hc,Jtm h];omega
  ·rename_i h;intro c hc;rcases List.mem_append.1 hc with hc|hc
   ·exact ih (u / 10) (by omega) c hc
   ·rw [List.mem_singleton.1 hc,Jtm (show u % 10<10 by omega)];omega
theorem Jbp(i:Int): ∀ c∈itoa i,c≠44:=by
 intro c hc e;subst e;unfold itoa at hc;split at hc
 ·rcases List.mem_cons.1 hc with h|h
  ·exact absurd h (by decide)
  ·have:=Qwg _ _ h;exact absurd this.1 (by decide)
 ·have:=Qwg _ _ hc;exact absurd this.1 (by decide)
theorem Jtd{i j:Int}(h:itoa i=itoa j): i=j:=by
 have key:∀ (a:Nat) (l:List UInt8),decDigits a≠45::l:=λa l e=>by
  have:=Qwg a 45 (by rw [e];exact List.mem_cons_self);exact absurd this.1 (by decide)
 unfold itoa at h;split at h<;>split at h
 ·have:=congrArg Xcc (List.cons.inj h).2;rw [Jyg,Jyg]at this;omega
 ·exact absurd h.symm (key _ _)
 ·exact absurd h (key _ _)
 ·have:=congrArg Xcc h;rw [Jyg,Jyg]at this;omega
theorem Qwj{a b x y:List UInt8}(ha:∀ c∈a,c≠44)(hb:∀ c∈b,c≠44)(h:a++44::x=b++44::y): a=b/\x=y:=by
 induction a generalizing b with
 | nil=>cases b with
  | nil=>simpa using h
  | cons c b=>simp only [List.nil_append,List.cons_append,List.cons.injEq]at h;exact absurd h.1.symm (hb c List.mem_cons_self)
 | cons d a ih=>cases b with
  | nil=>simp only [List.nil_append,List.cons_append,List.cons.injEq]at h;exact absurd h.1 (ha d List.mem_cons_self)
  | cons c b=>
   simp only [List.cons_append,List.cons.injEq]at h;obtain ⟨h1,h2⟩:=ih (λc hc=>ha c (List.mem_cons_of_mem _ hc)) (λc hc=>hb c (List.mem_cons_of_mem _ hc)) h.2;exact ⟨by rw [h.1,h1],h2⟩
theorem Jdw(v:V)(r:Row): idn (v::r)=itoa v.kind++44::(itoa v.num++44::(itoa (v.str.size:Int)++44::(v.bytes++idn r))):=by
 simp only [idn,List.flatMap_cons,Xjr,List.append_assoc,List.cons_append,List.nil_append]
theorem Jth: ∀ {r s:Row},idn r=idn s->r=s
 | [],[],_=>rfl
 | [],v::s,h=>by
  rw [Jdw]at h;have:=congrArg List.length h;simp [idn]at this
 | v::r,[],h=>by
  rw [Jdw]at h;have:=congrArg List.length h;simp [idn]at this
 | v::r,u::s,h=>by
  rw [Jdw,Jdw]at h;obtain ⟨h1,h⟩:=Qwj (Jbp _) (Jbp _) h;obtain ⟨h2,h⟩:=Qwj (Jbp _) (Jbp _) h;obtain ⟨h3,h⟩:=Qwj (Jbp _) (Jbp _) h;have h3:=Jtd h3;rw [Jdl,Jdl]at h3;obtain ⟨h4,h5⟩:=List.append_inj h (by omega);have:=Jth h5;subst this;have e:v=u:=by
   obtain ⟨k1,n1,s1⟩:=v;obtain ⟨k2,n2,s2⟩:=u;have a1:k1=k2:=Jtd h1;have a2:n1=n2:=Jtd h2;have a3:s1=s2:=by
    apply ByteArray.ext
    exact Array.toList_inj.1 h4
   rw [a1,a2,a3]
  rw [e]
theorem Qmb: ∀ {r:Row},(∀ v∈r,Qwc v/\v.bytes.length<=24)->(idn r).length<=r.length*90
 | [],_=>by simp [idn]
 | v::r,h=>by
  have ih:=Qmb (r:=r) λu hu=>h u (List.mem_cons_of_mem _ hu);obtain ⟨⟨h1,h2⟩,h3⟩:=h v List.mem_cons_self;have a1:=itoa_length_le _ h1.1 h1.2;have a2:=itoa_length_le _ h2.1 h2.2;have a3:=itoa_length_le (v.str.size:Int) (by omega) (by rw [Jdl];omega);rw [Jdw];simp only [List.length_append,List.length_cons];omega
open Go.RowKit Pl Go.Wk
attribute [local irreducible] WC WL QX WD WDB WP WN WG
theorem Qwp(v:V)(w:World): (Instr.buildSlice 40 1 #[(0,v.val)]).run Tryz.prog w=.ok (.slice (some ⟨w.heap.size,0,none⟩) 1 1) (w.alloc (.cells v.cells.toArray 71)):=by kernel_rfl
theorem rowC_app'(a b:Row): Jxs (a++b)=Jxs a++Jxs b:=by simp [Jxs]
theorem rowC_one''(v:V): Jxs [v]=v.cells:=by simp [Jxs]
theorem Qrk{cs:List Nat}{x:Row}{k:Nat}(h:k<cs.length): pmR (cs.take (k+1)) x=pmR (cs.take k) x++[x.getD (cs.getD k 0) V0]:=by
 unfold pmR;rw [Jjm 0 h,List.map_append];rfl
theorem Qyc{w:World}{vx:Value}{x:Row}{C:Option Addr}{cc:Nat}{cs:List Nat}(hx:RowV w vx x)(hC:Rd w 1 C cs.length (Jzw (nz cs)))(hlt:∀ c∈cs,c<x.length)(hl:cs.length<=1000):
  Ret Tryz.prog 129 [vx,.slice C cs.length cc] w λu w'=>RowV w' u (pmR cs x)/\Ext w w':=by
 obtain ⟨A,c,rfl,hc1,hc2,hR⟩:=hx;refine Jjb Tryz.func129 Tryz.ntmps129 rfl (by kernel_rfl) rfl ?_;refine ρ ?_;refine mk0 EV cs.length (by omega) (by unfold maxLen;omega) ?_;intro w0 O hx0 ho0;refine ρ ?_;refine Jjv (fun (k:Nat) (vo:Value)=>[(0,.slice A x.length c),(5,vo),(11,.slice C cs.length cc),(12,.int .i64 (cs.length:Int)),(13,.int .i64 (k:Int))])
  (λk vo w'=>k<=cs.length/\Ext w w'/\Qjd w' w.heap.size vo (pmR (cs.take k) x)) (λk _=>cs.length-k) 0 (.slice O 0 cs.length) sB
  ⟨Nat.zero_le _,hx0,ho0⟩ ?_
 rintro k vo w1 ⟨hk,hx1,ho⟩;refine ρ ?_;refine ci (λh=>?_) (λh=>?_)
 ·have lk:k<cs.length:=by have:=of_decide_eq_true h;omega
  clear h;have hR1:RdR w1 A x:=Rd.ext hR hx1;have hlt':=hlt _ (getD_mem' 0 cs lk);refine ρ ?_;refine ix k (hC.ext hx1) lk ?_;refine ρ ?_;refine ld ((hC.ext hx1).cell (Jxw lk)) ?_;refine ρ ?_;refine ixq 3 (cs.getD k 0) hR1 hlt' ?_;refine ρ ?_;refine lds (cs:=(x.getD (cs.getD k 0) V0).cells) (λj u hu=>RdR.cell hR1 hlt' hu) ?_;refine ρ ?_;refine bsl (Qwp _) ?_;intro w2 b hx2 hb hB;have htk:=Qrk (x:=x) lk;have hln:(pmR (cs.take k) x).length=k:=by rw [Jqx,List.length_take];omega
  refine ρ ?_;refine apb (m':=1) (news:=(x.getD (cs.getD k 0) V0).cells) EV (Jjc ho hx2) (hB.rd (n:=1) rfl) (V.one _) (by unfold maxLen;omega) (by omega) (hx1.trans hx2).size ?_;intro v3 w3 ho3 hg3 hn3;refine ρ ?_;refine Jjj (k+1) v3 sO ⟨lk,Jjk (hx1.trans hx2) hg3 (Jwd (Jjc ho hx2)),?_⟩ (by omega);rw [Qjd,htk,List.length_append,rowC_app',rowC_one''];exact ho3
 have hk':k=cs.length:=by have:=of_decide_eq_false h;omega
 rw [hk',List.take_length]at ho;obtain ⟨A3,c3,rfl,hc3,_⟩:=Jjd ho;refine ρ ?_;refine Jjq ⟨⟨A3,c3,rfl,hc3,by rw [Jqx];omega,Rd.own ho⟩,hx1⟩
theorem Jnm{w:World}{D:Option Addr}{d:Nat}{vars:List Nat}{s:Nat}(hD:Rd w 1 D vars.length (Jzw (nz vars)))(hs:s<4294967296)(hv:∀ v∈vars,v<32)(hl:vars.length<=32):
  Ret Tryz.prog 125 [.slice D vars.length d,.int .u32 (s:Int)] w λu w'=>Jpf w' w.heap.size u (Jqt vars s)/\Ext w w':=by
 refine Jjb Tryz.func125 Tryz.ntmps125 rfl (by kernel_rfl) rfl ?_;refine ρ ?_;refine Jjv (fun (k:Nat) (vc:Value)=>[(1,.int .u32 (s:Int)),(5,vc),(8,.slice D vars.length d),(9,.int .i64 (vars.length:Int)),(10,.int .i64 (k:Int))])
  (λk vc w'=>k<=vars.length/\Ext w w'/\Jpf w' w.heap.size vc (Jwh vars s k)) (λk _=>vars.length-k) 0 (.slice none 0 0) sB
  ⟨Nat.zero_le _,Ext.refl _,Jxj _ _ _ _⟩ ?_
 rintro k vc w1 ⟨hk,hx1,ho⟩;refine ρ ?_;refine ci (λh=>?_) (λh=>?_)
 ·have lk:k<vars.length:=by have:=of_decide_eq_true h;omega
  clear h;have hcl:(Jwh vars s k).length<=k:=by
   have:=List.length_filter_le (λi=>s.testBit (vars.getD i 0)) (List.range k);rw [List.length_range]at this;exact this
  refine ρ ?_;refine ix k (hD.ext hx1) lk ?_;refine ρ ?_;refine ld ((hD.ext hx1).cell (Jxw lk)) ?_;refine ρ ?_;refine Xjd (s:=s) (v:=vars.getD k 0) (by have:=hv _ (getD_mem' 0 vars lk);omega) ?_;refine ρ ?_;refine ci (λh=>?_) (λh=>?_)
  ·rw [Jkc hs]at h;refine ρ ?_;refine bsl (bs1Int'' _) ?_;intro w2 b hx2 hb hB;refine ρ ?_;refine apI (Jjc ho hx2) hB (by omega) (hx1.trans hx2).size ?_;intro v3 w3 ho3 hg3 hn3;refine ρ ?_;refine Jjj (k+1) v3 sO ⟨lk,Jjk (hx1.trans hx2) hg3 (Jwd (Jjc ho hx2)),?_⟩ (by omega);rw [Jzj,if_pos h];exact ho3
  ·rw [Jkc hs]at h;refine ρ ?_;refine Jjj (k+1) vc sO ⟨lk,hx1,?_⟩ (by omega);rw [Jzj,if_neg (by rw [h];simp),List.append_nil];exact ho
 have hk':k=vars.length:=by have:=of_decide_eq_false h;omega
 rw [hk']at ho;refine ρ ?_;exact Jjq ⟨ho,hx1⟩
open Go.RowKit Pl Go.Wk
theorem Qgk{l:List UInt32}{k:Nat}(c:UInt32)(h:k<l.length): val (l.set k c)+4294967296^k*(l.getD k 0).toNat=val l+4294967296^k*c.toNat:=by
 induction l generalizing k with
 | nil=>simp at h
 | cons x l ih=>
  cases k with
  | zero=>simp [val];omega
  | succ k=>
   have:=ih (k:=k) (by simpa using h);simp only [List.set_cons_succ,val,List.getD_cons_succ,Nat.pow_succ];have e1:4294967296^k*4294967296*(l.getD k 0).toNat=4294967296*(4294967296^k*(l.getD k 0).toNat):=by
    rw [Nat.mul_comm (4294967296^k) 4294967296,Nat.mul_assoc]
   have e2:4294967296^k*4294967296*c.toNat=4294967296*(4294967296^k*c.toNat):=by
    rw [Nat.mul_comm (4294967296^k) 4294967296,Nat.mul_assoc]
   rw [e1,e2];omega
structure MulO(a b:List UInt32)(i:Nat)(os:List UInt32): Prop where
 len:os.length=a.length+b.length
 val:val os=val (a.take i)*val b
 zero:∀ k,i+b.length<=k->os.getD k 0=0
structure MulI(a b:List UInt32)(i j c:Nat)(os:List UInt32): Prop where
 len:os.length=a.length+b.length
 small:c<4294967296
 val:val os+4294967296^(i+j)*c=Pl.val (a.take i)*Pl.val b+4294967296^i*(a.getD i 0).toNat*Pl.val (b.take j)
 zero:∀ k,i+b.length<=k->os.getD k 0=0
theorem Jmx{l:List UInt32}{k m:Nat}(c:UInt32)(h:k≠m): (l.set k c).getD m 0=l.getD m 0:=by
 simp [List.getD,List.getElem?_set_ne h]
theorem Xjm{x y:Nat}(hx:x<4294967296)(hy:y<4294967296): x*y<=18446744065119617025:=by
 have:=Nat.mul_le_mul (show x<=4294967295 by omega) (show y<=4294967295 by omega);omega
theorem MulO.first{a b:List UInt32}: MulO a b 0 (List.replicate (a.length+b.length) 0):=by
 refine ⟨by simp,?_,λk _=>?_⟩
 ·have:∀ n,Pl.val (List.replicate n (0:UInt32))=0:=λn=>by
   induction n with
   | zero=>rfl
   | succ n ih=>rw [List.replicate_succ];simp [Pl.val,ih]
  rw [this];simp [Pl.val]
 ·simp only [List.getD,List.getElem?_replicate];split<;>rfl
theorem MulO.start{a b:List UInt32}{i:Nat}{os:List UInt32}(h:MulO a b i os): MulI a b i 0 0 os :=
 ⟨h.len,by omega,by rw [h.val];simp [Pl.val],h.zero⟩
theorem MulI.step{a b:List UInt32}{i j c s:Nat}{os:List UInt32}(h:MulI a b i j c os)(hi:i<a.length)(hj:j<b.length)(hs:s=c+((a.getD i 0).toNat*(b.getD j 0).toNat+(os.getD (i+j) 0).toNat)):
  MulI a b i (j+1) (s / 4294967296) (os.set (i+j) (UInt32.ofNat s))/\s<18446744073709551616:=by
 obtain ⟨h1,h2,h3,h4⟩:=h;have hx:(a.getD i 0).toNat<4294967296:=(a.getD i 0).toNat_lt;have hy:(b.getD j 0).toNat<4294967296:=(b.getD j 0).toNat_lt;have hz:(os.getD (i+j) 0).toNat<4294967296:=(os.getD (i+j) 0).toNat_lt;have hm:=Xjm hx hy;have hs2:s<18446744073709551616:=by omega
 refine ⟨⟨by rw [List.length_set];exact h1,by omega,?_,λk hk=>by rw [Jmx _ (by omega)];exact h4 k hk⟩,hs2⟩;have e:=Qgk (UInt32.ofNat s) (show i+j<os.length by omega);rw [UInt32.toNat_ofNat']at e;rw [Jbd];generalize hX:(a.getD i 0).toNat=X at *
 generalize hY:(b.getD j 0).toNat=Y at *
 generalize hZ:(os.getD (i+j) 0).toNat=Z at *
 generalize Pl.val (os.set (i+j) (UInt32.ofNat s))=V' at *
 generalize Pl.val os=V at *
 generalize Pl.val (b.take j)=W at *
 generalize Pl.val (a.take i)*Pl.val b=U at *
 have p1:4294967296^(i+(j+1))*(s / 4294967296)=4294967296^(i+j)*(4294967296*(s / 4294967296)):=by
  rw [show i+(j+1)=(i+j)+1 by omega,Nat.pow_succ,Nat.mul_assoc]
 have p2:4294967296^i*X*(W+4294967296^j*Y)=4294967296^i*X*W+4294967296^(i+j)*(X*Y):=by
  rw [Nat.mul_add,Nat.pow_add];congr 1
  simp only [Nat.mul_assoc,Nat.mul_left_comm,Nat.mul_comm]
 have p3:4294967296^(i+j)*(s % 2^32)+4294967296^(i+j)*(4294967296*(s / 4294967296))=4294967296^(i+j)*c+(4294967296^(i+j)*(X*Y)+4294967296^(i+j)*Z):=by
  rw [<-Nat.mul_add,<-Nat.mul_add,<-Nat.mul_add];congr 1
  omega
 rw [p1,p2];omega
theorem MulI.last{a b:List UInt32}{i c:Nat}{os:List UInt32}(h:MulI a b i b.length c os)(hi:i<a.length): MulO a b (i+1) (os.set (i+b.length) (UInt32.ofNat c)):=by
 obtain ⟨h1,h2,h3,h4⟩:=h;refine ⟨by rw [List.length_set];exact h1,?_,λk hk=>by rw [Jmx _ (by omega)];exact h4 k (by omega)⟩;have e:=Qgk (UInt32.ofNat c) (show i+b.length<os.length by omega);rw [h4 _ (Nat.le_refl _),UInt32.toNat_ofNat',show c % 2^32=c by omega,show (0:UInt32).toNat=0 from rfl,Nat.mul_zero,Nat.add_zero]at e;rw [e,h3,List.take_length,Jbd,Nat.add_mul]
theorem Xzk{c x y z:Nat}(hc:c<4294967296)(hx:x<4294967296)(hy:y<4294967296)(hz:z<4294967296):
  IntKind.u64.wrap ((c:Int)+IntKind.u64.wrap (IntKind.u64.wrap (IntKind.u64.wrap (x:Int)*IntKind.u64.wrap (y:Int))+IntKind.u64.wrap (z:Int)))=((c+(x*y+z):Nat):Int):=by
 have hm:=Xjm hx hy;have w:∀ n:Nat,n<18446744073709551616->IntKind.u64.wrap (n:Int)=(n:Int):=λn hn=>by rw [IntKind.wrap_u64];omega
 rw [w x (by omega),w y (by omega),w z (by omega),<-Int.natCast_mul,w _ (by omega),<-Int.natCast_add,w _ (by omega),<-Int.natCast_add,w _ (by omega)]
theorem Jbn{v u:Value}{n m:Nat}{w:World}(hv:NatV w v n)(hu:NatV w u m)(hln:(Jjf n).length<=1000)(hlm:(Jjf m).length<=1000): Ret Tryz.prog 36 [v,u] w λr w'=>NatV w' r (n*m)/\Fresh w r/\Ext w w':=by
 refine Jjb Tryz.func36 Tryz.ntmps36 rfl (by kernel_rfl) rfl ?_;refine ρ ?_;refine cl (Jlg hv) ?_;rintro v' w' ⟨⟨A,rfl,ha⟩,rfl⟩;refine ρ ?_;refine cl (Jlg hu) ?_;rintro u' w'' ⟨⟨B,rfl,hb⟩,rfl⟩;generalize hL:(Jjf n).length=L at *
 generalize hM:(Jjf m).length=M at *
 refine ρ ?_;refine mkn EN (L+M) (by omega) (by unfold maxLen;omega) ?_;intro w1 O hx1 ho1 hO;have ho1':Jhx w1 w''.heap.size (.slice O (L+M) (L+M)) (List.replicate (L+M) 0):=by
  have e:(madeCells (Value.int .u32 0).cells ((L+M)*1)).toList=Nc (List.replicate (L+M) 0):=by rw [Nat.mul_one,<-Qvc];exact Jmm _ _
  rw [e]at ho1;rw [Jhx,List.length_replicate];exact ho1
 refine ρ ?_;refine Jjv (fun (i:Nat) (os:List UInt32)=>[(0,.slice A L L),(1,.slice B M M),(5,.slice O (L+M) (L+M)),(20,.int .i64 (L:Int)),(21,.int .i64 (i:Int))])
  (λi os w2=>i<=L/\Ext w'' w2/\MulO (Jjf n) (Jjf m) i os/\Jhx w2 w''.heap.size (.slice O (L+M) (L+M)) os) (λi _=>L-i) 0 (List.replicate (L+M) 0) sB
  ⟨Nat.zero_le _,hx1,by rw [<-hL,<-hM];exact MulO.first,ho1'⟩ ?_
 rintro i os w2 ⟨hi,hx2,hI,ho2⟩;refine ρ ?_;refine ci (λh=>?_) (λh=>?_)
 ·have li:i<L:=by have:=of_decide_eq_true h;omega
  clear h;refine ρ ?_;refine Jzk (fun (j c:Nat) (os:List UInt32)=>[(0,.slice A L L),(1,.slice B M M),(5,.slice O (L+M) (L+M)),(6,.int .i64 (i:Int)),(7,.int .u64 (c:Int)),(20,.int .i64 (L:Int)),(21,.int .i64 (i:Int)),(25,.int .i64 (M:Int)),(26,.int .i64 (j:Int))])
   (λj c os w3=>j<=M/\Ext w'' w3/\MulI (Jjf n) (Jjf m) i j c os/\Jhx w3 w''.heap.size (.slice O (L+M) (L+M)) os) (λj _ _=>M-j) 0 0 os sB
   ⟨Nat.zero_le _,hx2,hI.start,ho2⟩ ?_
  clear hI ho2;rintro j c os w3 ⟨hj,hx3,hI,ho3⟩;have hol:os.length=L+M:=by rw [hI.len,hL,hM]
  refine ρ ?_;refine ci (λh=>?_) (λh=>?_)
  ·have lj:j<M:=by have:=of_decide_eq_true h;omega
   clear h;have hxd:Ext w3 w3.drew:=(Ext.refl w3).drew;have ha3:=ha.ext (hx3.trans hxd);have hb3:=hb.ext (hx3.trans hxd);have hod:=Jjc ho3 hxd;rw [hol]at hod;have hrO:Rd w3.drew 1 O (L+M) (Nc os):=Rd.own hod;refine ρ ?_;refine dr [(0,0),(0,1),(0,2),(0,3),(0,4),(0,5),(0,6),(0,7),(0,8),(0,9),(0,10),(0,11),(0,12),(0,13),(0,14),(0,15),(0,16),(0,17),(0,18),(0,19),(0,20),(0,21)] (by kernel_rfl) ?_;refine ρd ?_;refine dix i ha3 li ?_;refine ρd ?_;refine dld (ha3.cell (Jzr (show i<(Jjf n).length by omega))) ?_;refine ρd ?_;refine dix j hb3 lj ?_;refine ρd ?_;refine dld (hb3.cell (Jzr (show j<(Jjf m).length by omega))) ?_;refine ρd ?_;refine dix (i+j) hrO (by omega) ?_;refine ρd ?_;refine dld (hrO.cell (Jzr (show i+j<os.length by omega))) ?_;refine ρd ?_;have hx:((Jjf n).getD i 0).toNat<4294967296:=((Jjf n).getD i 0).toNat_lt;have hy:((Jjf m).getD j 0).toNat<4294967296:=((Jjf m).getD j 0).toNat_lt
   have hz:(os.getD (i+j) 0).toNat<4294967296:=(os.getD (i+j) 0).toNat_lt;obtain ⟨hstep,hs64⟩:=hI.step (s:=c+(((Jjf n).getD i 0).toNat*((Jjf m).getD j 0).toNat+(os.getD (i+j) 0).toNat)) (by omega) (by omega) rfl;have hmu:=Xzk hI.small hx hy hz;refine ρ ?_;generalize c+(((Jjf n).getD i 0).toNat*((Jjf m).getD j 0).toNat+(os.getD (i+j) 0).toNat)=s at *
   refine kv 7 (u:=.int .u64 (s:Int)) (congrArg (Value.int .u64) hmu) ?_;refine kv 55 (u:=.int .u32 ((UInt32.ofNat s).toNat:Int)) (congrArg (Value.int .u32) ((congrArg IntKind.u32.wrap hmu).trans (Jld s))) ?_;obtain ⟨s1,s2,s3,s4,s5⟩:=Jqq hod (q:=i+j) (by omega) (.int .u32 ((UInt32.ofNat s).toNat:Int));refine ρ ?_;refine ix (i+j) hrO (by omega) ?_;refine sto (s1.trans (Jzr (show i+j<os.length by omega))) s2 ?_;refine ρ ?_;refine Qfp rfl rfl (by decide) rfl ?_;refine ρ ?_;refine Jqf (j+1) (s / 4294967296) (os.set (i+j) (UInt32.ofNat s)) ?_ ⟨lj,(hx3.trans hxd).setCell s4 _,hstep,?_⟩ (by omega)
   ·rw [Xxh];exact sB
   ·rw [Jhx,List.length_set,hol,<-Jrv];exact s3
  have hj':j=M:=by have:=of_decide_eq_false h;omega
  subst hj';clear h;have hl':MulI (Jjf n) (Jjf m) i (Jjf m).length c os:=by rw [hM];exact hI
  have hl:=hl'.last (show i<(Jjf n).length by omega);have hod:=ho3;rw [Jhx,hol]at hod;obtain ⟨s1,s2,s3,s4,s5⟩:=Jqq hod (q:=i+j) (by omega) (.int .u32 ((UInt32.ofNat c).toNat:Int));refine ρ ?_;refine ix (i+j) (Rd.own hod) (by omega) ?_;rw [Jld];refine sto (s1.trans (Jzr (show i+j<os.length by omega))) s2 ?_;refine ρ ?_;rw [hM]at hl;refine Jjj (i+1) (os.set (i+j) (UInt32.ofNat c)) sO ⟨li,hx3.setCell s4 _,hl,?_⟩ (by omega);rw [Jhx,List.length_set,hol,<-Jrv];exact s3
 have hi':i=L:=by have:=of_decide_eq_false h;omega
 have hol:os.length=L+M:=by rw [hI.len,hL,hM]
 have hval:=hI.val;rw [hi',List.take_of_length_le (by omega),Jqp,Jqp]at hval;have ho3:=ho2;rw [Jhx,hol]at ho3;have hr:=Rd.own ho3;refine ρ ?_;rw [<-hol]at hr ⊢;refine cl (Jvw hr (Nat.le_refl _) (by omega)) ?_;rintro t w4 ⟨rfl,rfl⟩;have:=Jfp hr (by omega);rw [hval]at this ⊢;refine ρ ?_;exact Jjq ⟨this,λad _ _ e=>hO ad (by injection e),hx2⟩
end Go.Proofs.YtefpailelagbkaaGreatDoor
