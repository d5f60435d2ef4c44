/- Part 29 of the proof: Idn, IdP, Pck, Mul, Div. -/
import Derived.Test.YtefpailelagbkaaGreatDoorJ28
import Derived.Test.YtefpailelagbkaaGreatDoorSh
import Derived.Lib.AppendStr
import Derived.Lib.ItoaLen
set_option linter.unusedVariables false
set_option maxRecDepth 100000
set_option maxHeartbeats 40000000
namespace Go.Wk
open Go.Lib
theorem aps{P:Program}{tt:TT}[h:Tab P tt]{n:Nat}{al:AL}{w:World}{Q:Exit->Act->World->Prop}{ops:Array Oper}{rest:List Oper}{d ty:Nat}{pos:String}{aft:Array Edge}{t u e base:Nat}{ku:TK}{x y:Operand}{v:Value}{m:Nat}{xs:List Value}{s:ByteArray}(hE:ElT P t e 1 1 (.int .u8 0))(ha:w.ownsRow base e 1 v m xs)(hby:m+s.size<=140737488355328)(hbase:base<=w.heap.size)(kk:∀ v' w',w'.ownsRow base e 1 v' (m+s.size) (xs++strCells s)->w.grownBy w' v.ownBlock->WL P n ops Q rest ((d,v')::al) w')(hu:tk tt u=some ku:=by rfl)(hku:ku.desc=.string:=by rfl)(hx:ev al x=some v:=by rfl)(hy:ev al y=some (.string s):=by rfl)(hd:Nat.blt d n=true:=by rfl):
  WL P n ops Q (⟨some d,.call { callee:=.builtin .append,args:=#[x,y],argTypes:=#[t,u] },ty,pos,aft,none⟩::rest) al w:=by
 obtain ⟨i,hi,hz,hsz,hbt⟩:=hE.info;obtain ⟨v',w',hrun,k1,k2,k3⟩:=run_append_own_string w base t u ty e i hE.sl (tk_is h.ok hu hku rfl) hi hz hsz hbt v m xs ha s (by unfold maxLen;omega) hby hbase;refine wop hd (λa ha'=>?_) (kk v' w' k1 k2);simp [execOp,resolve,invoke,builtin,ha'.ev hx,ha'.ev hy,hrun]
theorem _root_.Go.Wk.Blk.others{w w':World}{g t e:Nat}{cs:List Value}(h:Blk w g t cs)(ho:OthersKept e none w w')(hne:Nat.beq e t=false): Blk w' g t cs :=
 ho g _ h (by simp) (λc fz hc=>by injection hc with _ h2 _;subst h2;simp at hne)
end Go.Wk
namespace Go.Proofs.YtefpailelagbkaaGreatDoor
open Go.RowKit Pl Go.Wk
attribute [local irreducible] WC WL QX WD WDB WP WN WG
def idn1(v:V): List UInt8:=Lib.itoa v.kind++[44]++(Lib.itoa v.num++[44])++(Lib.itoa (v.str.size:Int)++[44])++v.bytes
def idn(r:Row): List UInt8:=r.flatMap idn1
structure TB(B0:Nat)(w:World): Prop where
 le:B0<=w.heap.size
 tab:Lib.TabBelow Tryz.prog B0 w "internal/strconv.uint64pow10" .u64 Lib.pow10Tab
theorem TB.below{B0 B:Nat}{w w':World}(h:TB B0 w)(hb:Below B w w')(hle:B0<=B): TB B0 w':=⟨Nat.le_trans h.le hb.size,h.tab.on (hb.mono hle)⟩
theorem TB.ext{B0:Nat}{w w':World}(h:TB B0 w)(hx:Ext w w'): TB B0 w':=h.below hx h.le
theorem EU8: ElT Tryz.prog 240 5 1 1 (.int .u8 0):=⟨Tryz.underlying240,info_parts (by kernel_rfl),rfl,by decide⟩
theorem appInt_any{B0 B:Nat}{w:World}{sv:Value}{l:List UInt8}{i:Int}(hT:TB B0 w)(hB0:B0<=B)(hBw:B<=w.heap.size)(h0:-9223372036854775808<=i)(h1:i<=9223372036854775807)(hlim:l.length+21<=140737488355328)(ho:w.ownsRow B 5 1 sv l.length (Bc l)): Ret Tryz.prog 158 [sv,.int .i64 i,.int .i64 10] w λu w'=>w'.ownsRow B 5 1 u (l++Lib.itoa i).length (Bc (l++Lib.itoa i))/\Below B w w'/\Lib.OthersKept 5 none w w':=by
 refine ⟨⟨_,_,Tryz.func158,rfl,by kernel_rfl⟩,?_⟩;refine (Tryz.strconv_AppendInt_10 B l.length i h0 h1 sv (Bc l) w ho hBw hlim λw' hb=>hT.tab w' (hb.mono hB0)).mono ?_;rintro e w' ⟨v',rfl,k1,k2,k3⟩;refine ⟨v',rfl,?_,k2,k3⟩;have e1:Bc (l++Lib.itoa i)=Bc l++Lib.byteCells (Lib.itoa i):=by simp [Bc,Lib.byteCells]
 rw [e1,List.length_append];exact k1
def fitI(v:V): Prop:=(-9223372036854775808<=v.kind/\v.kind<=9223372036854775807)/\(-9223372036854775808<=v.num/\v.num<=9223372036854775807)
theorem bs1Byte(z:Int)(w:World): (Instr.buildSlice 240 1 #[(0,.int .u8 z)]).run Tryz.prog w=.ok (.slice (some ⟨w.heap.size,0,none⟩) 1 1) (w.alloc (.cells [.int .u8 z].toArray 5)):=by kernel_rfl
theorem idn_take{r:Row}{i:Nat}(h:i<r.length): idn (r.take (i+1))=idn (r.take i)++idn1 (r.getD i V0):=by
 unfold idn;rw [Jjm V0 h,List.flatMap_append];simp only [List.flatMap_cons,List.flatMap_nil,List.append_nil]
theorem idn_le{r:Row}{i:Nat}(h:i<r.length): (idn (r.take i)).length+(idn1 (r.getD i V0)).length<=(idn r).length:=by
 have e:idn r=idn (r.take (i+1))++idn (r.drop (i+1)):=by unfold idn;rw [<-List.flatMap_append,List.take_append_drop]
 rw [e,idn_take h,List.length_append,List.length_append];omega
theorem Bc_app(a b:List UInt8): Bc (a++b)=Bc a++Bc b:=by simp [Bc]
theorem Bc_one(l:List UInt8): ∀ u∈Bc l,u.oneCell'=true:=λu hu=>by
 obtain ⟨c,_,rfl⟩:=List.mem_map.1 hu;rfl
theorem app_len1(l:List UInt8)(c:UInt8): l.length+1=(l++[c]).length:=by simp
theorem Jwh{w:World}{base e sz n:Nat}{v:Value}{cs:List Value}(h:w.ownsRow base e sz v n cs): ∀ k,v.ownBlock=some k->base<=k:=λk hk=>by
 obtain ⟨A,c,rfl,_,h4⟩:=Jjd h;exact (h4 k hk).1
theorem Jzp{B0:Nat}{w:World}{A:Option Addr}{c:Nat}{r:Row}(hT:TB B0 w)(hR:RdR w A r)(hfit:∀ v∈r,fitI v)(hlim:(idn r).length+64<=140737488355328)(hr:r.length<=1000000):
  Ret Tryz.prog 128 [.slice A r.length c] w λu w'=>u=.string (str (idn r))/\Ext w w':=by
 refine Jjb Tryz.func128 Tryz.ntmps128 rfl (by kernel_rfl) rfl ?_;refine ρ ?_;refine Jjv (fun (i:Nat) (vn:Value)=>[(3,vn),(6,.slice A r.length c),(7,.int .i64 (r.length:Int)),(8,.int .i64 (i:Int))])
  (λi vn w'=>i<=r.length/\Ext w w'/\w'.ownsRow w.heap.size 5 1 vn (idn (r.take i)).length (Bc (idn (r.take i)))) (λi _=>r.length-i) 0 (.slice none 0 0) sB
  ⟨Nat.zero_le _,Ext.refl _,Jxk _ _ _ _⟩ ?_
 rintro i vn w1 ⟨hi,hx1,hn⟩;refine ρ ?_;refine ci (λh=>?_) (λh=>?_)
 ·have li:i<r.length:=by have:=of_decide_eq_true h;omega
  clear h;have hR1:RdR w1 A r:=Rd.ext hR hx1;have hle:=idn_le li;have hf:=hfit _ (getD_mem' V0 r li);refine ρ ?_;refine ixq 3 i hR1 li ?_;refine ρ ?_;refine lds (cs:=(r.getD i V0).cells) (λj u hu=>RdR.cell hR1 li hu) ?_;refine ρ ?_;refine alc (cs:=V0.cells) zVal ?_;intro w2 b hx2 hb hB2;refine ρ ?_;refine stb (cs':=(r.getD i V0).cells) hB2 ?_ (V.one _);intro w3 hB3 hg3 hx3';have hx3:Ext w1 w3:=hx3' w1 hx2 hb;have hn3:=Jjc hn hx3;have hxw3:=hx1.trans hx3;have hbw:w.heap.size<=b:=Nat.le_trans hx1.size hb;have htk:=idn_take li;generalize r.getD i V0=v at *
  generalize idn (r.take i)=l0 at *
  have hsz:=str_size v;have hl1:(idn1 v).length=(Lib.itoa v.kind).length+1+((Lib.itoa v.num).length+1)+((Lib.itoa (v.str.size:Int)).length+1)+v.bytes.length:=by simp only [idn1,List.length_append,List.length_cons,List.length_nil]
  clear hn hB2 hx3' hR1;refine ρ ?_;refine ld (hB3.at (i:=0) rfl) ?_;refine ρ ?_;refine cl (appInt_any (B:=w.heap.size) (l:=l0) (i:=v.kind) (hT.ext hxw3) hT.le hxw3.size hf.1.1 hf.1.2 (by first|omega|simp only [List.length_append,List.length_cons,List.length_nil];omega) hn3) ?_;rintro u4 w4 ⟨hn4,hbe4,ho4⟩;have hxw4:Ext w w4:=Below.trans hxw3 hbe4;have hB4:=hB3.others ho4 rfl;clear hn3 hB3;refine ρ ?_;refine bsl (bs1Byte _) ?_;intro w5 b5 hx5 hb5 hB5;refine ρ ?_;refine apb (m':=1) (news:=Bc [44]) EU8 (Jjc hn4 hx5) (hB5.rd (n:=1) rfl) (Bc_one _) (by unfold maxLen;first|omega|simp only [List.length_append];omega) (by first|omega|simp only [List.length_append];omega) (hxw4.trans hx5).size ?_;intro v6 w6 hn6 hg6 hm6;rw [<-Bc_app,app_len1 _ 44]at hn6;have hxw6:Ext w w6:=Jjk (hxw4.trans hx5) hg6 (Jwh (Jjc hn4 hx5));have hB6:=(hB4.ext hx5).grown hg6 ((hB4.ext hx5).ne_own (Jjc hn4 hx5) rfl)
  clear hB4;refine ρ ?_;refine ld (hB6.at (i:=1) rfl) ?_;refine ρ ?_;refine cl (appInt_any (B:=w.heap.size) (l:=l0++Lib.itoa v.kind++[44]) (i:=v.num) (hT.ext hxw6) hT.le hxw6.size hf.2.1 hf.2.2 (by first|omega|simp only [List.length_append,List.length_cons,List.length_nil];omega) hn6) ?_;rintro u7 w7 ⟨hn7,hbe7,ho7⟩;have hxw7:Ext w w7:=Below.trans hxw6 hbe7;have hB7:=hB6.others ho7 rfl;clear hn6 hB6;refine ρ ?_;refine bsl (bs1Byte _) ?_;intro w8 b8 hx8 hb8 hB8;refine ρ ?_;refine apb (m':=1) (news:=Bc [44]) EU8 (Jjc hn7 hx8) (hB8.rd (n:=1) rfl) (Bc_one _) (by unfold maxLen;first|omega|simp only [List.length_append,List.length_cons,List.length_nil];omega) (by first|omega|simp only [List.length_append,List.length_cons,List.length_nil];omega) (hxw7.trans hx8).size ?_;intro v9 w9 hn9 hg9 hm9;rw [<-Bc_app,app_len1 _ 44]at hn9;have hxw9:Ext w w9:=Jjk (hxw7.trans hx8) hg9 (Jwh (Jjc hn7 hx8))
  have hB9:=(hB7.ext hx8).grown hg9 ((hB7.ext hx8).ne_own (Jjc hn7 hx8) rfl);clear hB7;refine ρ ?_;refine ld (hB9.at (i:=2) rfl) ?_;refine ρ ?_;refine cl (appInt_any (B:=w.heap.size) (l:=l0++Lib.itoa v.kind++[44]++Lib.itoa v.num++[44]) (i:=(v.str.size:Int)) (hT.ext hxw9) hT.le hxw9.size (by omega) (by omega) (by first|omega|simp only [List.length_append,List.length_cons,List.length_nil];omega) hn9) ?_;rintro u10 w10 ⟨hn10,hbe10,ho10⟩;have hxw10:Ext w w10:=Below.trans hxw9 hbe10;have hB10:=hB9.others ho10 rfl;clear hn9 hB9;refine ρ ?_;refine bsl (bs1Byte _) ?_;intro w11 b11 hx11 hb11 hB11;refine ρ ?_;refine apb (m':=1) (news:=Bc [44]) EU8 (Jjc hn10 hx11) (hB11.rd (n:=1) rfl) (Bc_one _) (by unfold maxLen;first|omega|simp only [List.length_append,List.length_cons,List.length_nil];omega) (by first|omega|simp only [List.length_append,List.length_cons,List.length_nil];omega) (hxw10.trans hx11).size ?_
  intro v12 w12 hn12 hg12 hm12;rw [<-Bc_app,app_len1 _ 44]at hn12;have hxw12:Ext w w12:=Jjk (hxw10.trans hx11) hg12 (Jwh (Jjc hn10 hx11));have hB12:=(hB10.ext hx11).grown hg12 ((hB10.ext hx11).ne_own (Jjc hn10 hx11) rfl);clear hB10;refine ρ ?_;refine ld (hB12.at (i:=2) rfl) ?_;refine ρ ?_;refine aps (base:=w.heap.size) (s:=v.str) EU8 hn12 (by first|omega|simp only [List.length_append,List.length_cons,List.length_nil];omega) hxw12.size ?_;intro v13 w13 hn13 hg13;have hxw13:Ext w w13:=Jjk hxw12 hg13 (Jwh hn12);refine ρ ?_;refine Jjj (i+1) v13 sO ⟨li,hxw13,?_⟩ (by omega);rw [htk];have e1:l0++idn1 v=l0++Lib.itoa v.kind++[44]++Lib.itoa v.num++[44]++Lib.itoa (v.str.size:Int)++[44]++v.bytes:=by simp only [idn1,List.append_assoc]
  rw [e1,Bc_app,List.length_append,<-hsz];exact hn13
 have hi':i=r.length:=by have:=of_decide_eq_false h;omega
 rw [hi',List.take_length]at hn;obtain ⟨A3,c3,rfl,hc3,_⟩:=Jjd hn;refine ρ ?_;refine sb (Rd.own hn) ?_;refine ρ ?_;exact Jjq ⟨rfl,hx1⟩
end Go.Proofs.YtefpailelagbkaaGreatDoor
namespace Go.Proofs.YtefpailelagbkaaGreatDoor
open Go.RowKit Pl Go.Wk Go.Lib
def decV(l:List UInt8): Nat:=l.foldl (λa c=>10*a+(c.toNat-48)) 0
theorem dig_nat{k:Nat}(h:k<10): (UInt8.ofNat (48+k)).toNat=48+k:=by
 rw [UInt8.toNat_ofNat'];omega
theorem Jyl(u:Nat): decV (decDigits u)=u:=by
 induction u using Nat.strongRecOn with
 | ind u ih=>
  rw [decDigits];split
  ·rename_i h;simp only [decV,List.foldl_cons,List.foldl_nil,dig_nat h];omega
  ·rename_i h;have h1:=ih (u / 10) (by omega);unfold decV at h1 ⊢;rw [List.foldl_append,h1];simp only [List.foldl_cons,List.foldl_nil,dig_nat (show u % 10<10 by omega)];omega
theorem dig_mem(u:Nat): ∀ c∈decDigits u,48<=c.toNat/\c.toNat<=57:=by
 induction u using Nat.strongRecOn with
 | ind u ih=>
  rw [decDigits];split
  ·rename_i h;intro c hc;rw [List.mem_singleton.1 hc,dig_nat h];omega
  ·rename_i h;intro c hc;rcases List.mem_append.1 hc with hc|hc
   ·exact ih (u / 10) (by omega) c hc
   ·rw [List.mem_singleton.1 hc,dig_nat (show u % 10<10 by omega)];omega
theorem Qjs(i:Int): ∀ c∈itoa i,c≠44:=by
 intro c hc e;subst e;unfold itoa at hc;split at hc
 ·rcases List.mem_cons.1 hc with h|h
  ·exact absurd h (by decide)
  ·have:=dig_mem _ _ h;exact absurd this.1 (by decide)
 ·have:=dig_mem _ _ hc;exact absurd this.1 (by decide)
theorem itoa_inj{i j:Int}(h:itoa i=itoa j): i=j:=by
 have key:∀ (a:Nat) (l:List UInt8),decDigits a≠45::l:=λa l e=>by
  have:=dig_mem a 45 (by rw [e];exact List.mem_cons_self);exact absurd this.1 (by decide)
 unfold itoa at h;split at h<;>split at h
 ·have:=congrArg decV (List.cons.inj h).2;rw [Jyl,Jyl]at this;omega
 ·exact absurd h.symm (key _ _)
 ·exact absurd h (key _ _)
 ·have:=congrArg decV h;rw [Jyl,Jyl]at this;omega
theorem cut_inj{a b x y:List UInt8}(ha:∀ c∈a,c≠44)(hb:∀ c∈b,c≠44)(h:a++44::x=b++44::y): a=b/\x=y:=by
 induction a generalizing b with
 | nil=>cases b with
  | nil=>simpa using h
  | cons c b=>simp only [List.nil_append,List.cons_append,List.cons.injEq]at h;exact absurd h.1.symm (hb c List.mem_cons_self)
 | cons d a ih=>cases b with
  | nil=>simp only [List.nil_append,List.cons_append,List.cons.injEq]at h;exact absurd h.1 (ha d List.mem_cons_self)
  | cons c b=>
   simp only [List.cons_append,List.cons.injEq]at h;obtain ⟨h1,h2⟩:=ih (λc hc=>ha c (List.mem_cons_of_mem _ hc)) (λc hc=>hb c (List.mem_cons_of_mem _ hc)) h.2;exact ⟨by rw [h.1,h1],h2⟩
theorem idn_cons(v:V)(r:Row): idn (v::r)=itoa v.kind++44::(itoa v.num++44::(itoa (v.str.size:Int)++44::(v.bytes++idn r))):=by
 simp only [idn,List.flatMap_cons,idn1,List.append_assoc,List.cons_append,List.nil_append]
theorem idn_inj: ∀ {r s:Row},idn r=idn s->r=s
 | [],[],_=>rfl
 | [],v::s,h=>by
  rw [idn_cons]at h;have:=congrArg List.length h;simp [idn]at this
 | v::r,[],h=>by
  rw [idn_cons]at h;have:=congrArg List.length h;simp [idn]at this
 | v::r,u::s,h=>by
  rw [idn_cons,idn_cons]at h;obtain ⟨h1,h⟩:=cut_inj (Qjs _) (Qjs _) h;obtain ⟨h2,h⟩:=cut_inj (Qjs _) (Qjs _) h;obtain ⟨h3,h⟩:=cut_inj (Qjs _) (Qjs _) h;have h3:=itoa_inj h3;rw [str_size,str_size]at h3;obtain ⟨h4,h5⟩:=List.append_inj h (by omega);have:=idn_inj h5;subst this;have e:v=u:=by
   obtain ⟨k1,n1,s1⟩:=v;obtain ⟨k2,n2,s2⟩:=u;have a1:k1=k2:=itoa_inj h1;have a2:n1=n2:=itoa_inj h2;have a3:s1=s2:=by
    apply ByteArray.ext
    exact Array.toList_inj.1 h4
   rw [a1,a2,a3]
  rw [e]
theorem idn_len: ∀ {r:Row},(∀ v∈r,fitI v/\v.bytes.length<=24)->(idn r).length<=r.length*90
 | [],_=>by simp [idn]
 | v::r,h=>by
  have ih:=idn_len (r:=r) λu hu=>h u (List.mem_cons_of_mem _ hu);obtain ⟨⟨h1,h2⟩,h3⟩:=h v List.mem_cons_self;have a1:=itoa_length_le _ h1.1 h1.2;have a2:=itoa_length_le _ h2.1 h2.2;have a3:=itoa_length_le (v.str.size:Int) (by omega) (by rw [str_size];omega);rw [idn_cons];simp only [List.length_append,List.length_cons];omega
open Go.RowKit Pl Go.Wk
attribute [local irreducible] WC WL QX WD WDB WP WN WG
theorem bs1VRow(v:V)(w:World): (Instr.buildSlice 40 1 #[(0,v.val)]).run Tryz.prog w=.ok (.slice (some ⟨w.heap.size,0,none⟩) 1 1) (w.alloc (.cells v.cells.toArray 71)):=by kernel_rfl
theorem rowC_app'(a b:Row): Jxt (a++b)=Jxt a++Jxt b:=by simp [Jxt]
theorem rowC_one''(v:V): Jxt [v]=v.cells:=by simp [Jxt]
theorem pmR_take{cs:List Nat}{x:Row}{k:Nat}(h:k<cs.length): pmR (cs.take (k+1)) x=pmR (cs.take k) x++[x.getD (cs.getD k 0) V0]:=by
 unfold pmR;rw [Jjm 0 h,List.map_append];rfl
theorem pick_any{w:World}{vx:Value}{x:Row}{C:Option Addr}{cc:Nat}{cs:List Nat}(hx:RowV w vx x)(hC:Rd w 1 C cs.length (Jzx (nz cs)))(hlt:∀ c∈cs,c<x.length)(hl:cs.length<=1000):
  Ret Tryz.prog 129 [vx,.slice C cs.length cc] w λu w'=>RowV w' u (pmR cs x)/\Ext w w':=by
 obtain ⟨A,c,rfl,hc1,hc2,hR⟩:=hx;refine Jjb Tryz.func129 Tryz.ntmps129 rfl (by kernel_rfl) rfl ?_;refine ρ ?_;refine mk0 EV cs.length (by omega) (by unfold maxLen;omega) ?_;intro w0 O hx0 ho0;refine ρ ?_;refine Jjv (fun (k:Nat) (vo:Value)=>[(0,.slice A x.length c),(5,vo),(11,.slice C cs.length cc),(12,.int .i64 (cs.length:Int)),(13,.int .i64 (k:Int))])
  (λk vo w'=>k<=cs.length/\Ext w w'/\OwnV w' w.heap.size vo (pmR (cs.take k) x)) (λk _=>cs.length-k) 0 (.slice O 0 cs.length) sB
  ⟨Nat.zero_le _,hx0,ho0⟩ ?_
 rintro k vo w1 ⟨hk,hx1,ho⟩;refine ρ ?_;refine ci (λh=>?_) (λh=>?_)
 ·have lk:k<cs.length:=by have:=of_decide_eq_true h;omega
  clear h;have hR1:RdR w1 A x:=Rd.ext hR hx1;have hlt':=hlt _ (getD_mem' 0 cs lk);refine ρ ?_;refine ix k (hC.ext hx1) lk ?_;refine ρ ?_;refine ld ((hC.ext hx1).cell (Jxz lk)) ?_;refine ρ ?_;refine ixq 3 (cs.getD k 0) hR1 hlt' ?_;refine ρ ?_;refine lds (cs:=(x.getD (cs.getD k 0) V0).cells) (λj u hu=>RdR.cell hR1 hlt' hu) ?_;refine ρ ?_;refine bsl (bs1VRow _) ?_;intro w2 b hx2 hb hB;have htk:=pmR_take (x:=x) lk;have hln:(pmR (cs.take k) x).length=k:=by rw [Jqz,List.length_take];omega
  refine ρ ?_;refine apb (m':=1) (news:=(x.getD (cs.getD k 0) V0).cells) EV (Jjc ho hx2) (hB.rd (n:=1) rfl) (V.one _) (by unfold maxLen;omega) (by omega) (hx1.trans hx2).size ?_;intro v3 w3 ho3 hg3 hn3;refine ρ ?_;refine Jjj (k+1) v3 sO ⟨lk,Jjk (hx1.trans hx2) hg3 (Jwh (Jjc ho hx2)),?_⟩ (by omega);rw [OwnV,htk,List.length_append,rowC_app',rowC_one''];exact ho3
 have hk':k=cs.length:=by have:=of_decide_eq_false h;omega
 rw [hk',List.take_length]at ho;obtain ⟨A3,c3,rfl,hc3,_⟩:=Jjd ho;refine ρ ?_;refine Jjq ⟨⟨A3,c3,rfl,hc3,by rw [Jqz];omega,Rd.own ho⟩,hx1⟩
theorem columns_any{w:World}{D:Option Addr}{d:Nat}{vars:List Nat}{s:Nat}(hD:Rd w 1 D vars.length (Jzx (nz vars)))(hs:s<4294967296)(hv:∀ v∈vars,v<32)(hl:vars.length<=32):
  Ret Tryz.prog 125 [.slice D vars.length d,.int .u32 (s:Int)] w λu w'=>OwnI w' w.heap.size u (Jqv vars s)/\Ext w w':=by
 refine Jjb Tryz.func125 Tryz.ntmps125 rfl (by kernel_rfl) rfl ?_;refine ρ ?_;refine Jjv (fun (k:Nat) (vc:Value)=>[(1,.int .u32 (s:Int)),(5,vc),(8,.slice D vars.length d),(9,.int .i64 (vars.length:Int)),(10,.int .i64 (k:Int))])
  (λk vc w'=>k<=vars.length/\Ext w w'/\OwnI w' w.heap.size vc (Jwl vars s k)) (λk _=>vars.length-k) 0 (.slice none 0 0) sB
  ⟨Nat.zero_le _,Ext.refl _,Jxk _ _ _ _⟩ ?_
 rintro k vc w1 ⟨hk,hx1,ho⟩;refine ρ ?_;refine ci (λh=>?_) (λh=>?_)
 ·have lk:k<vars.length:=by have:=of_decide_eq_true h;omega
  clear h;have hcl:(Jwl vars s k).length<=k:=by
   have:=List.length_filter_le (λi=>s.testBit (vars.getD i 0)) (List.range k);rw [List.length_range]at this;exact this
  refine ρ ?_;refine ix k (hD.ext hx1) lk ?_;refine ρ ?_;refine ld ((hD.ext hx1).cell (Jxz lk)) ?_;refine ρ ?_;refine sr32 (s:=s) (v:=vars.getD k 0) (by have:=hv _ (getD_mem' 0 vars lk);omega) ?_;refine ρ ?_;refine ci (λh=>?_) (λh=>?_)
  ·rw [Jkd hs]at h;refine ρ ?_;refine bsl (bs1Int'' _) ?_;intro w2 b hx2 hb hB;refine ρ ?_;refine apI (Jjc ho hx2) hB (by omega) (hx1.trans hx2).size ?_;intro v3 w3 ho3 hg3 hn3;refine ρ ?_;refine Jjj (k+1) v3 sO ⟨lk,Jjk (hx1.trans hx2) hg3 (Jwh (Jjc ho hx2)),?_⟩ (by omega);rw [Jzj,if_pos h];exact ho3
  ·rw [Jkd hs]at h;refine ρ ?_;refine Jjj (k+1) vc sO ⟨lk,hx1,?_⟩ (by omega);rw [Jzj,if_neg (by rw [h];simp),List.append_nil];exact ho
 have hk':k=vars.length:=by have:=of_decide_eq_false h;omega
 rw [hk']at ho;refine ρ ?_;exact Jjq ⟨ho,hx1⟩
open Go.RowKit Pl Go.Wk
theorem val_set{l:List UInt32}{k:Nat}(c:UInt32)(h:k<l.length): val (l.set k c)+4294967296^k*(l.getD k 0).toNat=val l+4294967296^k*c.toNat:=by
 induction l generalizing k with
 | nil=>simp at h
 | cons x l ih=>
  cases k with
  | zero=>simp [val];omega
  | succ k=>
   have:=ih (k:=k) (by simpa using h);simp only [List.set_cons_succ,val,List.getD_cons_succ,Nat.pow_succ];have e1:4294967296^k*4294967296*(l.getD k 0).toNat=4294967296*(4294967296^k*(l.getD k 0).toNat):=by
    rw [Nat.mul_comm (4294967296^k) 4294967296,Nat.mul_assoc]
   have e2:4294967296^k*4294967296*c.toNat=4294967296*(4294967296^k*c.toNat):=by
    rw [Nat.mul_comm (4294967296^k) 4294967296,Nat.mul_assoc]
   rw [e1,e2];omega
structure MulO(a b:List UInt32)(i:Nat)(os:List UInt32): Prop where
 len:os.length=a.length+b.length
 val:val os=val (a.take i)*val b
 zero:∀ k,i+b.length<=k->os.getD k 0=0
structure MulI(a b:List UInt32)(i j c:Nat)(os:List UInt32): Prop where
 len:os.length=a.length+b.length
 small:c<4294967296
 val:val os+4294967296^(i+j)*c=Pl.val (a.take i)*Pl.val b+4294967296^i*(a.getD i 0).toNat*Pl.val (b.take j)
 zero:∀ k,i+b.length<=k->os.getD k 0=0
theorem getDu_set{l:List UInt32}{k m:Nat}(c:UInt32)(h:k≠m): (l.set k c).getD m 0=l.getD m 0:=by
 simp [List.getD,List.getElem?_set_ne h]
theorem mul_lt{x y:Nat}(hx:x<4294967296)(hy:y<4294967296): x*y<=18446744065119617025:=by
 have:=Nat.mul_le_mul (show x<=4294967295 by omega) (show y<=4294967295 by omega);omega
theorem MulO.first{a b:List UInt32}: MulO a b 0 (List.replicate (a.length+b.length) 0):=by
 refine ⟨by simp,?_,λk _=>?_⟩
 ·have:∀ n,Pl.val (List.replicate n (0:UInt32))=0:=λn=>by
   induction n with
   | zero=>rfl
   | succ n ih=>rw [List.replicate_succ];simp [Pl.val,ih]
  rw [this];simp [Pl.val]
 ·simp only [List.getD,List.getElem?_replicate];split<;>rfl
theorem MulO.start{a b:List UInt32}{i:Nat}{os:List UInt32}(h:MulO a b i os): MulI a b i 0 0 os :=
 ⟨h.len,by omega,by rw [h.val];simp [Pl.val],h.zero⟩
theorem MulI.step{a b:List UInt32}{i j c s:Nat}{os:List UInt32}(h:MulI a b i j c os)(hi:i<a.length)(hj:j<b.length)(hs:s=c+((a.getD i 0).toNat*(b.getD j 0).toNat+(os.getD (i+j) 0).toNat)):
  MulI a b i (j+1) (s / 4294967296) (os.set (i+j) (UInt32.ofNat s))/\s<18446744073709551616:=by
 obtain ⟨h1,h2,h3,h4⟩:=h;have hx:(a.getD i 0).toNat<4294967296:=(a.getD i 0).toNat_lt;have hy:(b.getD j 0).toNat<4294967296:=(b.getD j 0).toNat_lt;have hz:(os.getD (i+j) 0).toNat<4294967296:=(os.getD (i+j) 0).toNat_lt;have hm:=mul_lt hx hy;have hs2:s<18446744073709551616:=by omega
 refine ⟨⟨by rw [List.length_set];exact h1,by omega,?_,λk hk=>by rw [getDu_set _ (by omega)];exact h4 k hk⟩,hs2⟩;have e:=val_set (UInt32.ofNat s) (show i+j<os.length by omega);rw [UInt32.toNat_ofNat']at e;rw [Qjj];generalize hX:(a.getD i 0).toNat=X at *
 generalize hY:(b.getD j 0).toNat=Y at *
 generalize hZ:(os.getD (i+j) 0).toNat=Z at *
 generalize Pl.val (os.set (i+j) (UInt32.ofNat s))=V' at *
 generalize Pl.val os=V at *
 generalize Pl.val (b.take j)=W at *
 generalize Pl.val (a.take i)*Pl.val b=U at *
 have p1:4294967296^(i+(j+1))*(s / 4294967296)=4294967296^(i+j)*(4294967296*(s / 4294967296)):=by
  rw [show i+(j+1)=(i+j)+1 by omega,Nat.pow_succ,Nat.mul_assoc]
 have p2:4294967296^i*X*(W+4294967296^j*Y)=4294967296^i*X*W+4294967296^(i+j)*(X*Y):=by
  rw [Nat.mul_add,Nat.pow_add];congr 1
  simp only [Nat.mul_assoc,Nat.mul_left_comm,Nat.mul_comm]
 have p3:4294967296^(i+j)*(s % 2^32)+4294967296^(i+j)*(4294967296*(s / 4294967296))=4294967296^(i+j)*c+(4294967296^(i+j)*(X*Y)+4294967296^(i+j)*Z):=by
  rw [<-Nat.mul_add,<-Nat.mul_add,<-Nat.mul_add];congr 1
  omega
 rw [p1,p2];omega
theorem MulI.last{a b:List UInt32}{i c:Nat}{os:List UInt32}(h:MulI a b i b.length c os)(hi:i<a.length): MulO a b (i+1) (os.set (i+b.length) (UInt32.ofNat c)):=by
 obtain ⟨h1,h2,h3,h4⟩:=h;refine ⟨by rw [List.length_set];exact h1,?_,λk hk=>by rw [getDu_set _ (by omega)];exact h4 k (by omega)⟩;have e:=val_set (UInt32.ofNat c) (show i+b.length<os.length by omega);rw [h4 _ (Nat.le_refl _),UInt32.toNat_ofNat',show c % 2^32=c by omega,show (0:UInt32).toNat=0 from rfl,Nat.mul_zero,Nat.add_zero]at e;rw [e,h3,List.take_length,Qjj,Nat.add_mul]
theorem mul_u64{c x y z:Nat}(hc:c<4294967296)(hx:x<4294967296)(hy:y<4294967296)(hz:z<4294967296):
  IntKind.u64.wrap ((c:Int)+IntKind.u64.wrap (IntKind.u64.wrap (IntKind.u64.wrap (x:Int)*IntKind.u64.wrap (y:Int))+IntKind.u64.wrap (z:Int)))=((c+(x*y+z):Nat):Int):=by
 have hm:=mul_lt hx hy;have w:∀ n:Nat,n<18446744073709551616->IntKind.u64.wrap (n:Int)=(n:Int):=λn hn=>by rw [IntKind.wrap_u64];omega
 rw [w x (by omega),w y (by omega),w z (by omega),<-Int.natCast_mul,w _ (by omega),<-Int.natCast_add,w _ (by omega),<-Int.natCast_add,w _ (by omega)]
theorem Qjr{v u:Value}{n m:Nat}{w:World}(hv:NatV w v n)(hu:NatV w u m)(hln:(Jjf n).length<=1000)(hlm:(Jjf m).length<=1000): Ret Tryz.prog 36 [v,u] w λr w'=>NatV w' r (n*m)/\Fresh w r/\Ext w w':=by
 refine Jjb Tryz.func36 Tryz.ntmps36 rfl (by kernel_rfl) rfl ?_;refine ρ ?_;refine cl (trimV hv) ?_;rintro v' w' ⟨⟨A,rfl,ha⟩,rfl⟩;refine ρ ?_;refine cl (trimV hu) ?_;rintro u' w'' ⟨⟨B,rfl,hb⟩,rfl⟩;generalize hL:(Jjf n).length=L at *
 generalize hM:(Jjf m).length=M at *
 refine ρ ?_;refine mkn EN (L+M) (by omega) (by unfold maxLen;omega) ?_;intro w1 O hx1 ho1 hO;have ho1':OwnN w1 w''.heap.size (.slice O (L+M) (L+M)) (List.replicate (L+M) 0):=by
  have e:(madeCells (Value.int .u32 0).cells ((L+M)*1)).toList=Nc (List.replicate (L+M) 0):=by rw [Nat.mul_one,<-Nc_zero];exact made1 _ _
  rw [e]at ho1;rw [OwnN,List.length_replicate];exact ho1
 refine ρ ?_;refine Jjv (fun (i:Nat) (os:List UInt32)=>[(0,.slice A L L),(1,.slice B M M),(5,.slice O (L+M) (L+M)),(20,.int .i64 (L:Int)),(21,.int .i64 (i:Int))])
  (λi os w2=>i<=L/\Ext w'' w2/\MulO (Jjf n) (Jjf m) i os/\OwnN w2 w''.heap.size (.slice O (L+M) (L+M)) os) (λi _=>L-i) 0 (List.replicate (L+M) 0) sB
  ⟨Nat.zero_le _,hx1,by rw [<-hL,<-hM];exact MulO.first,ho1'⟩ ?_
 rintro i os w2 ⟨hi,hx2,hI,ho2⟩;refine ρ ?_;refine ci (λh=>?_) (λh=>?_)
 ·have li:i<L:=by have:=of_decide_eq_true h;omega
  clear h;refine ρ ?_;refine Jzk (fun (j c:Nat) (os:List UInt32)=>[(0,.slice A L L),(1,.slice B M M),(5,.slice O (L+M) (L+M)),(6,.int .i64 (i:Int)),(7,.int .u64 (c:Int)),(20,.int .i64 (L:Int)),(21,.int .i64 (i:Int)),(25,.int .i64 (M:Int)),(26,.int .i64 (j:Int))])
   (λj c os w3=>j<=M/\Ext w'' w3/\MulI (Jjf n) (Jjf m) i j c os/\OwnN w3 w''.heap.size (.slice O (L+M) (L+M)) os) (λj _ _=>M-j) 0 0 os sB
   ⟨Nat.zero_le _,hx2,hI.start,ho2⟩ ?_
  clear hI ho2;rintro j c os w3 ⟨hj,hx3,hI,ho3⟩;have hol:os.length=L+M:=by rw [hI.len,hL,hM]
  refine ρ ?_;refine ci (λh=>?_) (λh=>?_)
  ·have lj:j<M:=by have:=of_decide_eq_true h;omega
   clear h;have hxd:Ext w3 w3.drew:=(Ext.refl w3).drew;have ha3:=ha.ext (hx3.trans hxd);have hb3:=hb.ext (hx3.trans hxd);have hod:=Jjc ho3 hxd;rw [hol]at hod;have hrO:Rd w3.drew 1 O (L+M) (Nc os):=Rd.own hod;refine ρ ?_;refine dr [(0,0),(0,1),(0,2),(0,3),(0,4),(0,5),(0,6),(0,7),(0,8),(0,9),(0,10),(0,11),(0,12),(0,13),(0,14),(0,15),(0,16),(0,17),(0,18),(0,19),(0,20),(0,21)] (by kernel_rfl) ?_;refine ρd ?_;refine dix i ha3 li ?_;refine ρd ?_;refine dld (ha3.cell (Jzs (show i<(Jjf n).length by omega))) ?_;refine ρd ?_;refine dix j hb3 lj ?_;refine ρd ?_;refine dld (hb3.cell (Jzs (show j<(Jjf m).length by omega))) ?_;refine ρd ?_;refine dix (i+j) hrO (by omega) ?_;refine ρd ?_;refine dld (hrO.cell (Jzs (show i+j<os.length by omega))) ?_;refine ρd ?_;have hx:((Jjf n).getD i 0).toNat<4294967296:=((Jjf n).getD i 0).toNat_lt;have hy:((Jjf m).getD j 0).toNat<4294967296:=((Jjf m).getD j 0).toNat_lt
   have hz:(os.getD (i+j) 0).toNat<4294967296:=(os.getD (i+j) 0).toNat_lt;obtain ⟨hstep,hs64⟩:=hI.step (s:=c+(((Jjf n).getD i 0).toNat*((Jjf m).getD j 0).toNat+(os.getD (i+j) 0).toNat)) (by omega) (by omega) rfl;have hmu:=mul_u64 hI.small hx hy hz;refine ρ ?_;generalize c+(((Jjf n).getD i 0).toNat*((Jjf m).getD j 0).toNat+(os.getD (i+j) 0).toNat)=s at *
   refine kv 7 (u:=.int .u64 (s:Int)) (congrArg (Value.int .u64) hmu) ?_;refine kv 55 (u:=.int .u32 ((UInt32.ofNat s).toNat:Int)) (congrArg (Value.int .u32) ((congrArg IntKind.u32.wrap hmu).trans (u32lo s))) ?_;obtain ⟨s1,s2,s3,s4,s5⟩:=Jqr hod (q:=i+j) (by omega) (.int .u32 ((UInt32.ofNat s).toNat:Int));refine ρ ?_;refine ix (i+j) hrO (by omega) ?_;refine sto (s1.trans (Jzs (show i+j<os.length by omega))) s2 ?_;refine ρ ?_;refine wshr rfl rfl (by decide) rfl ?_;refine ρ ?_;refine Jqf (j+1) (s / 4294967296) (os.set (i+j) (UInt32.ofNat s)) ?_ ⟨lj,(hx3.trans hxd).setCell s4 _,hstep,?_⟩ (by omega)
   ·rw [shr32];exact sB
   ·rw [OwnN,List.length_set,hol,<-Nc_set];exact s3
  have hj':j=M:=by have:=of_decide_eq_false h;omega
  subst hj';clear h;have hl':MulI (Jjf n) (Jjf m) i (Jjf m).length c os:=by rw [hM];exact hI
  have hl:=hl'.last (show i<(Jjf n).length by omega);have hod:=ho3;rw [OwnN,hol]at hod;obtain ⟨s1,s2,s3,s4,s5⟩:=Jqr hod (q:=i+j) (by omega) (.int .u32 ((UInt32.ofNat c).toNat:Int));refine ρ ?_;refine ix (i+j) (Rd.own hod) (by omega) ?_;rw [u32lo];refine sto (s1.trans (Jzs (show i+j<os.length by omega))) s2 ?_;refine ρ ?_;rw [hM]at hl;refine Jjj (i+1) (os.set (i+j) (UInt32.ofNat c)) sO ⟨li,hx3.setCell s4 _,hl,?_⟩ (by omega);rw [OwnN,List.length_set,hol,<-Nc_set];exact s3
 have hi':i=L:=by have:=of_decide_eq_false h;omega
 have hol:os.length=L+M:=by rw [hI.len,hL,hM]
 have hval:=hI.val;rw [hi',List.take_of_length_le (by omega),Jqq,Jqq]at hval;have ho3:=ho2;rw [OwnN,hol]at ho3;have hr:=Rd.own ho3;refine ρ ?_;rw [<-hol]at hr ⊢;refine cl (Jyc hr (Nat.le_refl _) (by omega)) ?_;rintro t w4 ⟨rfl,rfl⟩;have:=trim_rd hr (by omega);rw [hval]at this ⊢;refine ρ ?_;exact Jjq ⟨this,λad _ _ e=>hO ad (by injection e),hx2⟩
open Go.RowKit Pl Go.Wk
theorem limbs_one{n:Nat}(h0:n≠0)(h:n<4294967296): Jjf n=[UInt32.ofNat n]:=by
 rw [limbs_pos h0,show n / 4294967296=0 by omega,limbs_0]
theorem cloneNatO{A:Option Addr}{n c:Nat}{cs:List Value}{w:World}(hr:Rd w 1 A n cs)(h1:∀ u∈cs,u.oneCell'=true)(hb:n*4<=140737488355328):
  Ret Tryz.prog 102 [.slice A n c] w λv w'=>w'.ownsRow w.heap.size 117 1 v n cs/\Ext w w':=by
 refine Jjb Tryz.func102 Tryz.ntmps102 rfl (by kernel_rfl) rfl ?_;refine ρ ?_;refine snil ?_;refine ρ ?_;refine ci (λh=>?_) (λh=>?_)
 ·have hA:A=none:=by simpa using h
  subst hA;have hn:n=0:=by
   rcases Nat.eq_zero_or_pos n with h0|h0
   ·exact h0
   ·obtain ⟨ad,h2,_⟩:=hr.isome h0 (by omega);cases h2
  subst hn;have hcs:cs=[]:=List.eq_nil_of_length_eq_zero (by rw [hr.len]);subst hcs;refine ρ ?_;exact Jjq ⟨Jxk _ _ _ _,Ext.refl w⟩
 ·refine ρ ?_;refine bsl bs0Nat ?_;intro w1 b hx1 hb1 hk1;refine ρ ?_;refine apo hx1 EN (hk1.own (n:=0) hb1 rfl (Nat.zero_le _)) (hr.ext hx1) h1 (by unfold maxLen;omega) (by omega) ?_;intro v2 w2 ho2 hx2 _ _;refine ρ ?_;rw [Nat.zero_add,List.nil_append]at ho2;exact Jjq ⟨ho2,hx2⟩
theorem val_drop{l:List UInt32}{k:Nat}(h:k<l.length): val (l.drop k)=(l.getD k 0).toNat+4294967296*val (l.drop (k+1)):=by
 rw [List.drop_eq_getElem_cons h];simp [val,List.getD,List.getElem?_eq_getElem h]
structure DivI(l:List UInt32)(d k r:Nat)(os:List UInt32): Prop where
 len:os.length=l.length
 lt:r<d
 old:∀ j,j<k->os.getD j 0=l.getD j 0
 val:val (l.drop k)=Pl.val (os.drop k)*d+r
theorem DivI.step{l os:List UInt32}{d k r s:Nat}(h:DivI l d (k+1) r os)(hk:k<l.length)(hd:d<4294967296)(hs:s=r*4294967296+(l.getD k 0).toNat): DivI l d k (s % d) (os.set k (UInt32.ofNat (s / d)))/\s<18446744073709551616:=by
 obtain ⟨h1,h2,h3,h4⟩:=h;have hx:(l.getD k 0).toNat<4294967296:=(l.getD k 0).toNat_lt;have hsd:s<4294967296*d:=by rw [hs];omega
 have hq:s / d<4294967296:=Nat.div_lt_of_lt_mul (by rw [Nat.mul_comm];exact hsd);refine ⟨⟨by rw [List.length_set];exact h1,Nat.mod_lt _ (by omega),λj hj=>by rw [getDu_set _ (by omega)];exact h3 j (by omega),?_⟩,by omega⟩;rw [val_drop hk,val_drop (l:=os.set k (UInt32.ofNat (s / d))) (k:=k) (by rw [List.length_set];omega),h4];have e1:(os.set k (UInt32.ofNat (s / d))).getD k 0=UInt32.ofNat (s / d):=by simp [List.getD,h1,hk]
 have e2:(os.set k (UInt32.ofNat (s / d))).drop (k+1)=os.drop (k+1):=List.drop_set_of_lt (by omega);rw [e1,e2,UInt32.toNat_ofNat',Nat.mod_eq_of_lt (show s / d<2^32 by omega)];have:=Nat.div_add_mod s d;generalize Pl.val (os.drop (k+1))=V at *
 rw [Nat.mul_add,Nat.add_mul,<-Nat.mul_assoc];have e3:s / d*d=d*(s / d):=Nat.mul_comm _ _;omega
theorem div_or{r x:Nat}(hr:r<4294967296)(hx:x<4294967296): bits .or .u64 (IntKind.u64.wrap ((r:Int)*2^min (32:Int).toNat IntKind.u64.bits)) (IntKind.u64.wrap (x:Int))=((r*4294967296+x:Nat):Int):=by
 have e1:(2:Int)^min (32:Int).toNat IntKind.u64.bits=4294967296:=by decide
 have e2:IntKind.u64.wrap ((r:Int)*4294967296)=((r*4294967296:Nat):Int):=by rw [IntKind.wrap_u64];omega
 have e3:IntKind.u64.wrap (x:Int)=(x:Int):=by rw [IntKind.wrap_u64];omega
 rw [e1,e2,e3,u64_or_nat _ _ (by omega) (by omega),nat_join 32 (r*4294967296) x (by simp) (by omega)]
theorem divDig_any{A:Option Addr}{L c d base:Nat}{l:List UInt32}{w:World}(hL:l.length=L)(hLm:L<=1100)(ho:w.ownsRow base 117 1 (.slice A L c) L (Nc l))(h0:0<d)(hd:d<4294967296):
  Ret Tryz.prog 103 [.slice A L c,.int .u32 (d:Int)] w λr w'=>r=.int .u32 ((val l % d:Nat):Int)/\(∃ os:List UInt32,os.length=L/\val os=val l / d/\w'.ownsRow base 117 1 (.slice A L c) L (Nc os))/\w.grownBy w' (Value.slice A L c).ownBlock:=by
 refine Jjb Tryz.func103 Tryz.ntmps103 rfl (by kernel_rfl) rfl ?_;refine ρ ?_;refine Jzk (fun (k r:Nat) (os:List UInt32)=>[(0,.slice A L c),(1,.int .u32 (d:Int)),(5,.int .u64 (r:Int)),(6,.int .i64 ((k:Int)-1))])
  (λk r os w1=>k<=L/\DivI l d k r os/\w1.ownsRow base 117 1 (.slice A L c) L (Nc os)/\w.grownBy w1 (Value.slice A L c).ownBlock) (λk _ _=>k) L 0 l sB
  ⟨Nat.le_refl _,⟨rfl,h0,λ_ _=>rfl,by rw [List.drop_of_length_le (by omega)];simp [val]⟩,ho,Jqm (Ext.refl w) _⟩ ?_
 rintro k r os w1 ⟨hk,hI,ho1,hg1⟩;have hol:os.length=L:=by rw [hI.len,hL]
 refine ρ ?_;refine ci (λh=>?_) (λh=>?_)
 ·obtain ⟨k,rfl⟩:∃ j,k=j+1:=⟨k-1,by have:=of_decide_eq_true h;omega⟩;clear h;obtain ⟨s,hs⟩:∃ s,s=r*4294967296+(l.getD k 0).toNat:=⟨_,rfl⟩;obtain ⟨hstep,hs64⟩:=hI.step (by omega) hd hs;have hx:(l.getD k 0).toNat<4294967296:=(l.getD k 0).toNat_lt;have hlt:=hI.lt;have hrd:Rd w1 1 A L (Nc os):=Rd.own ho1;have hold:=hI.old k (by omega);refine ρ ?_;refine wshl rfl rfl (by decide) rfl ?_;refine ρ ?_;refine ix k hrd (by omega) ?_;refine ρ ?_;refine ld (hrd.cell (Jzs (show k<os.length by omega))) ?_;rw [hold];refine ρ ?_;have eor:bits .or .u64 (IntKind.u64.wrap ((r:Int)*2^min (32:Int).toNat IntKind.u64.bits)) (IntKind.u64.wrap ((l.getD k 0).toNat:Int))=(s:Int):=by rw [hs];exact div_or (by omega) hx
  refine kv 5 (u:=.int .u64 (s:Int)) (congrArg (Value.int .u64) eor) ?_;refine kv 24 (u:=.int .u64 (s:Int)) (congrArg (Value.int .u64) eor) ?_;have ed:IntKind.u64.wrap (d:Int)=(d:Int):=by rw [IntKind.wrap_u64];omega
  refine kv 26 (u:=.int .u64 (d:Int)) (congrArg (Value.int .u64) ed) ?_;refine wquo rfl rfl (by omega) rfl ?_;have hq:s / d<=s:=Nat.div_le_self _ _;have e2:IntKind.u32.wrap (IntKind.u64.wrap ((s:Int).tdiv d))=((UInt32.ofNat (s / d)).toNat:Int):=by
   have:(s:Int).tdiv d=((s / d:Nat):Int):=rfl;rw [this];generalize s / d=q at *
   rw [u64w (by omega),u32lo]
  obtain ⟨s1,s2,s3,s4,s5⟩:=Jqr ho1 (q:=k) (by omega) (.int .u32 ((UInt32.ofNat (s / d)).toNat:Int));refine ρ ?_;refine ix k hrd (by omega) ?_;rw [e2];refine sto (s1.trans (Jzs (show k<os.length by omega))) s2 ?_;refine ρ ?_;refine kv 32 (u:=.int .u64 (d:Int)) (congrArg (Value.int .u64) ed) ?_;refine wrem rfl rfl (by omega) rfl ?_;refine ρ ?_;refine Jqf k (s % d) (os.set k (UInt32.ofNat (s / d))) ?_ ⟨by omega,hstep,?_,Jjw hg1 s5⟩ (by omega)
  ·have e3:(s:Int).tmod d=((s % d:Nat):Int):=rfl;rw [e3];exact sO
  ·rw [<-Nc_set];exact s3
 ·have hk0:k=0:=by have:=of_decide_eq_false h;omega
  subst hk0;obtain ⟨i1,i2,_,i4⟩:=hI;rw [List.drop_zero,List.drop_zero]at i4;have hm:r=val l % d:=by rw [i4,Nat.add_comm,Nat.add_mul_mod_self_right,Nat.mod_eq_of_lt i2]
  have hv:val os=val l / d:=by
   rw [i4,Nat.add_comm,Nat.add_mul_div_right _ _ h0,Nat.div_eq_of_lt i2,Nat.zero_add]
  refine ρ ?_;refine Jjq ⟨?_,⟨os,hol,hv,ho1⟩,hg1⟩;rw [u32lo,UInt32.toNat_ofNat',Nat.mod_eq_of_lt (show r<2^32 by omega),hm]
theorem natDiv_any{v u:Value}{n m:Nat}{w:World}(hv:NatV w v n)(hu:NatV w u m)(hn:(Jjf n).length<=1000)(h0:0<m)(hm:m<4294967296):
  Ret Tryz.prog 66 [v,u] w λr w'=>(∃ x y,r=.tuple #[x,y,.int .i64 0]/\NatV w' x (n / m)/\NatV w' y (n % m))/\Ext w w':=by
 have l2:Jjf m=[UInt32.ofNat m]:=limbs_one (by omega) hm;refine Jjb Tryz.func66 Tryz.ntmps66 rfl (by kernel_rfl) rfl ?_;refine ρ ?_;refine cl (trimV hv) ?_;rintro v' w' ⟨⟨A,rfl,ha⟩,rfl⟩;refine ρ ?_;refine cl (trimV hu) ?_;rintro u' w'' ⟨⟨B,rfl,hb⟩,rfl⟩;rw [l2]at hb ⊢;refine ρ ?_;refine cl (Jwp (n:=n) (m:=m) ⟨A,_,rfl,Nat.le_refl _,by omega,ha⟩ ⟨B,1,by rw [l2],by rw [l2];simp,by rw [l2];simp,by rw [l2];exact hb⟩) ?_;rintro t w' ⟨rfl,hx0⟩;refine ρ ?_;refine ci (λh=>?_) (λh=>?_)
 ·have hlt:n<m:=by
   have:=of_decide_eq_true h;unfold cmpN at this;rcases Nat.lt_or_ge n m with h1|h1
   ·exact h1
   ·rw [if_neg (by omega)]at this;split at this<;>omega
  refine ρ ?_;refine cl (cloneNat (ha.ext hx0) (Nc_one _) (by omega)) ?_;rintro v' w1 ⟨⟨A',c',rfl,hc,hr⟩,hx⟩;refine ρ ?_;refine fin3 ⟨⟨.slice none 0 0,_,rfl,?_,?_⟩,hx0.trans hx⟩
  ·rw [Nat.div_eq_of_lt hlt];exact NatV.nil _
  ·rw [Nat.mod_eq_of_lt hlt];exact ⟨A',c',rfl,hc,by omega,hr⟩
 refine ρ ?_;refine cl (cloneNatO (ha.ext hx0) (Nc_one _) (by omega)) ?_;rintro q w1 ⟨ho,hx1⟩;obtain ⟨A',c',rfl,hc,hf⟩:=Jjd ho;have hb1:=(hb.ext hx0).ext hx1;refine ρ ?_;refine ix 0 hb1 (by simp) ?_;refine ρ ?_;refine ld (hb1.cell (Jzs (l:=[UInt32.ofNat m]) (k:=0) (by simp))) ?_;have em:(([UInt32.ofNat m].getD 0 0).toNat:Int)=(m:Int):=by
  show ((UInt32.ofNat m).toNat:Int)=m;rw [UInt32.toNat_ofNat',Nat.mod_eq_of_lt (show m<2^32 by omega)]
 rw [em];refine ρ ?_;refine cl (divDig_any rfl (by omega) ho h0 hm) ?_;rintro r w2 ⟨rfl,⟨os,hol,hval,ho2⟩,hg2⟩;rw [Jqq]at hval ⊢;have hx2:Ext w'' w2:=Jjk (hx0.trans hx1) hg2 (λk e=>Nat.le_trans hx0.size (hf k e).1);have hr2:=Rd.own ho2;rw [<-hol]at hr2 hc ⊢;refine ρ ?_;refine cl (Jyc hr2 hc (by omega)) ?_;rintro t w3 ⟨rfl,rfl⟩;have:=trim_rd hr2 (by omega);rw [hval]at this ⊢;have hr:n % m<m:=Nat.mod_lt _ h0;refine ρ ?_;rw [u64w (by omega)];refine cl (natOf_any (n % m) (by omega) _) ?_;rintro y w4 ⟨hy,hx4⟩;refine ρ ?_;exact fin3 ⟨⟨_,y,rfl,this.ext hx4,hy⟩,hx2.trans hx4⟩
end Go.Proofs.YtefpailelagbkaaGreatDoor
