/- Part 28 of the proof: El2, All. -/
import Derived.Test.YtefpailelagbkaaGreatDoorJ27
set_option linter.unusedVariables false
set_option maxRecDepth 100000
set_option maxHeartbeats 40000000
namespace Go.Proofs.YtefpailelagbkaaGreatDoor
open Go.RowKit Pl Go.Wk
attribute [local irreducible] WC WL QX WD WDB WP WN WG
def Qzn(o:Nat->Nat): List Value:=(List.range 32).map λi=>.int .i64 (o i:Int)
theorem Qyx(o:Nat->Nat): (Qzn o).length=32:=by simp [Qzn]
theorem Jzx{o:Nat->Nat}{v:Nat}(h:v<32): (Qzn o)[v]?=some (.int .i64 (o v:Int)):=by simp [Qzn,h]
theorem Qyw(o:Nat->Nat){v x:Nat}(h:v<32): (Qzn o).set v (.int .i64 (x:Int))=Qzn (upd o v x):=by
 apply List.ext_getElem?
 intro i;rw [List.getElem?_set];by_cases e:v=i
 ·subst e;rw [if_pos rfl,if_pos (by rw [Qyx];exact h),Jzx h,Jjp]
 ·rw [if_neg e];by_cases hi:i<32
  ·rw [Jzx hi,Jzx hi,Jjl _ _ (λe'=>e e'.symm)]
  ·simp [Qzn,hi]
theorem Qlx{perm:List Nat}(h:perm.length<=32): Jzw (nz perm)++(List.replicate 32 (Value.int .i64 0)).drop perm.length=Qzn λi=>perm.getD i 0:=by
 have hl:(Jzw (nz perm)).length=perm.length:=by simp [Jzw,nz]
 apply List.ext_getElem?
 intro i;by_cases hi:i<perm.length
 ·rw [List.getElem?_append_left (by omega),Jxw hi,Jzx (by omega)]
 ·rw [List.getElem?_append_right (by omega),hl,List.getElem?_drop];by_cases h3:i<32
  ·rw [Jzx h3];have:perm.getD i 0=0:=by simp [List.getD,List.getElem?_eq_none (Nat.le_of_not_lt hi)]
   rw [this];have e:perm.length+(i-perm.length)=i:=by omega
   rw [e,List.getElem?_replicate,if_pos h3];rfl
  ·rw [List.getElem?_eq_none (by simp;omega),List.getElem?_eq_none (by rw [Qyx];omega)]
def Jyh(kf:Nat->Nat)(pf:Nat->Int)(v:Nat): List Value:=[.int .i64 (v:Int),.int .u32 (kf v:Int),.int .i64 (pf v)]
def Qpk(n:Nat)(es ord:List Nat)(kf:Nat->Nat)(pf:Nat->Int): Prop:=∀ v,v<n->kf v<4294967296/\(∀ x,(kf v).testBit x=Qjh (nb0 n es) ord v x) /\
 ((pf v = -1/\∀ x,Qjh (nb0 n es) ord v x=false)∨∃ p:Nat,pf v=p/\Qjh (nb0 n es) ord v p=true/\∀ x,Qjh (nb0 n es) ord v x=true->plc ord p<=plc ord x)
theorem EBg: ElT Tryz.prog 28 195 3 24 (.agg #[.int .i64 0,.int .u32 0,.int .i64 0]):=⟨Tryz.underlying28,info_parts (by kernel_rfl),rfl,by decide⟩
theorem zBag: Jxc Tryz.prog 195=some (.agg #[.int .i64 0,.int .u32 0,.int .i64 0]):=by kernel_rfl
theorem Xcz(v k:Int)(w:World): (Instr.build 195 #[(0,.int .i64 v),(1,.int .u32 k),(2,.int .i64 (-1))]).run Tryz.prog w=.ok (.agg #[.int .i64 v,.int .u32 k,.int .i64 (-1)]) w:=by kernel_rfl
theorem Jfx{a b c:Int}: ∀ u∈[Value.int .i64 a,.int .u32 b,.int .i64 c],u.oneCell'=true:=λu hu=>by
 simp only [List.mem_cons,List.not_mem_nil,or_false]at hu;rcases hu with rfl|rfl|rfl<;>rfl
theorem Qln{zs:List Value}(h:0<zs.length)(n:Nat): (madeCells zs.toArray (n*zs.length)).toList=Jxt n λ_=>zs:=by
 apply List.ext_getElem?
 intro k;by_cases hk:k<n*zs.length
 ·have hd:k / zs.length<n:=Nat.div_lt_of_lt_mul (by rw [Nat.mul_comm];exact hk);have hm:=Nat.mod_lt k h;have h1:=Jwr (n:=n) (sz:=zs.length) (f:=λ_=>zs) (λ_ _=>rfl) hd hm;rw [Nat.div_add_mod' k zs.length]at h1;rw [h1];simp only [madeCells,Array.getElem?_toList,Array.getElem?_map,Array.getElem?_range,hk,if_true,Option.map_some];simp [hm]
 ·have hl:=Jyz (n:=n) (sz:=zs.length) (f:=λ_=>zs) (λ_ _=>rfl);rw [List.getElem?_eq_none (by simp [madeCells];omega),List.getElem?_eq_none (by omega)]
theorem made3(n:Nat): (madeCells (Value.agg #[.int .i64 0,.int .u32 0,.int .i64 0]).cells (n*3)).toList=Jxt n λ_=>[.int .i64 0,.int .u32 0,.int .i64 0]:=Qln (zs:=[.int .i64 0,.int .u32 0,.int .i64 0]) (by simp) n
def Qfv(ord:List Nat)(kf:Nat->Nat)(pf:Nat->Int)(j v:Nat): List Value:=if plc ord v<j then Jyh kf pf v else [.int .i64 0,.int .u32 0,.int .i64 0]
theorem Qtk(ord:List Nat)(kf:Nat->Nat)(pf:Nat->Int)(j v:Nat): (Qfv ord kf pf j v).length=3:=by unfold Qfv;split<;>rfl
def BagAt(n:Nat)(es ord:List Nat)(v k:Nat)(p:Int): Prop:=k<4294967296/\(∀ x,k.testBit x=Qjh (nb0 n es) ord v x) /\
 ((p = -1/\∀ x,Qjh (nb0 n es) ord v x=false)∨∃ q:Nat,p=q/\Qjh (nb0 n es) ord v q=true/\∀ x,Qjh (nb0 n es) ord v x=true->plc ord q<=plc ord x)
theorem Xjv(x y:Nat): decide (x=y) = !(y != x):=by
 by_cases h:x=y
 ·subst h;simp
 ·rw [decide_eq_false h,bne_iff_ne.2 (λe=>h e.symm)];rfl
theorem Qdx{w:World}{A PA:Option Addr}{c pc n f:Nat}{es perm:List Nat}(h:GrV w A c n es)(hp:PermOk n f perm)(hP:Rd w 1 PA perm.length (Jzw (nz perm))):
  Ret Tryz.prog 80 [.agg (grC A c n es).toArray,.int .i64 (f:Int),.slice PA perm.length pc] w λu w'=>Ext w w'/\∃ B kf pf,u=.tuple #[.slice B n n,.int .i64 0]/\w'.ownsRow w.heap.size 195 3 (.slice B n n) n (Jxt n (Jyh kf pf))/\Qpk n es (Jzt perm f) kf pf:=by
 have hn:=h.n32;have hfn:=hp.fn;have hpl:=hp.len;refine Jjb Tryz.func80 Tryz.ntmps80 rfl (by kernel_rfl) rfl ?_;refine ρ ?_;refine bx (cs:=grC A c n es) ?_;intro w1 b3 hx1 hb3 hB3;refine ρ ?_;refine lds (cs:=grC A c n es) (λj u hu=>hB3.at hu) ?_;refine ρ ?_;refine cl (Qdw (h.ext hx1) hfn) ?_;rintro u w2 ⟨rfl,hx2⟩;have hxw2:=hx1.trans hx2;refine ρ ?_;refine Jjv (fun (i:Nat) (s:Nat)=>[(1,.int .i64 (f:Int)),(2,.slice PA perm.length pc),(3,.pointer (some ⟨b3,0,none⟩)),(9,.int .u32 (s:Int)),(28,.slice PA perm.length pc),(29,.int .i64 (perm.length:Int)),(30,.int .i64 (i:Int))])
  (λi s w'=>i<=perm.length/\w'=w2/\s<4294967296/\∀ x,s.testBit x=true->x∈perm.take i) (λi _=>perm.length-i) 0 0 sB
  ⟨Nat.zero_le _,rfl,by omega,λx hx=>by simp at hx⟩ ?_
 rintro i s w' ⟨hi,rfl,hs,hsx⟩;have hB32:=hB3.ext hx2;refine ρ ?_;refine ci (λhc=>?_) (λhc=>?_)
 ·have li:i<perm.length:=by have:=of_decide_eq_true hc;omega
  clear hc;have hPr:=hP.ext hxw2;have hv:=hp.rng _ (getD_mem' 0 perm li);obtain ⟨v,ev⟩:∃ v,v=perm.getD i 0:=⟨_,rfl⟩;refine ρ ?_;refine ix i hPr li ?_;refine ρ ?_;refine ld (hPr.cell (Jxw li)) ?_;rw [<-ev]at hv ⊢;refine ρ ?_;refine kf 37 ?_ ?_
  ·exact decide_eq_false (by omega)
  refine ρ ?_;refine ld (hB32.at (i:=0) rfl) ?_;refine ρ ?_;refine kf 43 ?_ ?_
  ·exact decide_eq_false (by omega)
  refine ρ ?_;refine Xjd (s:=s) (v:=v) (by omega) ?_;have hnt:perm.take (i+1)=perm.take i++[v]:=by rw [Jjm 0 li,ev]
  have hni:v ∉ perm.take i:=λhm=>by
   have h1:(perm.take (i+1)).Nodup:=hp.nd.sublist (List.take_sublist _ _);rw [hnt,List.nodup_append]at h1;exact h1.2.2 _ hm _ (List.mem_singleton.2 rfl) rfl
  refine ρ ?_;refine cf ?_ ?_
  ·rw [Jkc hs];cases hb:s.testBit v with
   | false=>rfl
   | true=>exact absurd (hsx v hb) hni
  have h2v:=Jwc (show v<32 by omega);refine ρ ?_;refine sl32 (v:=v) (by omega) ?_;refine ρ ?_;rw [Jdc hs h2v];refine ρ ?_;refine Jjj (i+1) (s ||| 2^v) sO ⟨by omega,rfl,Jss hs h2v,λx hx=>?_⟩ (by omega);rw [Nat.testBit_or,Jrz,Bool.or_eq_true,decide_eq_true_eq]at hx;rw [hnt,List.mem_append,List.mem_singleton];rcases hx with hx|hx
  ·exact .inl (hsx x hx)
  ·exact .inr hx.symm
 clear hc hs hsx hi;refine ρ ?_;refine ld (hB32.at (i:=0) rfl) ?_;refine ρ ?_;refine cf ?_ ?_
 ·exact Xct (by omega)
 refine ρ ?_;refine alc (cs:=List.replicate 32 (Value.int .i64 0)) Xws ?_;intro w3 b12 hx3 hb12 hB12;refine ρ ?_;refine alc (cs:=List.replicate 32 (Value.int .i64 0)) Xws ?_;intro w4 b13 hx4 hb13 hB13;have hB124:=hB12.ext hx4;have hxw4:=(hxw2.trans hx3).trans hx4;refine ρ ?_;refine sla ?_;refine ρ ?_;refine cpb (dl:=32) (dc:=32) hB124 (hP.ext hxw4) (by omega) (by simp) (λu hu=>?_) ?_
 ·obtain ⟨z,_,rfl⟩:=List.mem_map.1 hu;rfl
 intro w5 hB125 hg5;rw [Qlx (by omega)]at hB125;have hne:b13≠b12:=λe=>by have:=hB12.lt;omega
 have hB135:Blk w5 b13 191 (Qzn λ_=>0):=by
  have h1:=hB13.grown hg5 (λe=>by injection e with e;exact hne e);exact h1
 have hB35:Blk w5 b3 150 (grC A c n es):=by
  have h1:=(hB32.ext (hx3.trans hx4)).grown hg5 (λe=>by injection e with e;have:=hB32.lt;omega);exact h1
 have hb12w:w'.heap.size<=b12:=hb12;have hx5:Ext w' w5:=Jfb (hx3.trans hx4) hg5 hb12w;obtain ⟨ord,hord⟩:∃ ord,ord=Jzt perm f:=⟨_,rfl⟩;have hol:ord.length=n:=by rw [hord];exact hp.olen
 have hond:ord.Nodup:=by rw [hord];exact hp.ond
 have hom:∀ {u},u∈ord↔u<n:=fun {u}=>by rw [hord];exact hp.omem
 have holt:∀ i,i<n->ord.getD i 0<n:=λi hi=>hom.1 (getD_mem' 0 ord (hol.symm ▸ hi));clear hB12 hB124;refine ρ ?_;refine Jjv (fun (k:Nat) (o:Nat->Nat)=>[(1,.int .i64 (f:Int)),(2,.slice PA perm.length pc),(3,.pointer (some ⟨b3,0,none⟩)),(12,.pointer (some ⟨b12,0,none⟩)),(13,.pointer (some ⟨b13,0,none⟩)),(65,.int .i64 (f:Int)),(66,.int .i64 (k:Int))])
  (λk o w6=>k<=f/\Ext w' w6/\Blk w6 b3 150 (grC A c n es)/\Blk w6 b12 191 (Qzn o)/\Blk w6 b13 191 (Qzn λ_=>0)/\∀ j,j<perm.length+k->o j=ord.getD j 0) (λk _=>f-k) 0 (λi=>perm.getD i 0) sB
  ⟨Nat.zero_le _,hx5,hB35,hB125,hB135,λj hj=>?_⟩ ?_
 ·rw [hord];simp [Jzt,List.getD,List.getElem?_append_left (show j<perm.length by omega)]
 rintro k o w6 ⟨hk,hx6,hB36,hB126,hB136,ho⟩;refine ρ ?_;refine ci (λhc=>?_) (λhc=>?_)
 ·have lk:k<f:=by have:=of_decide_eq_true hc;omega
  clear hc;have hpk:perm.length+k<32:=by omega
  refine ρ ?_;refine ixb (perm.length+k) hpk ?_;refine ρ ?_;have ev:(f:Int)-1-(k:Int)=((f-1-k:Nat):Int):=by omega
  rw [ev];refine sto (p:=⟨b12,perm.length+k,none⟩) (hB126.cell _ |>.trans (Jzx hpk)) (hB126.frozen _) ?_;have hB127:=hB126.set (perm.length+k) (.int .i64 ((f-1-k:Nat):Int));rw [Qyw o hpk]at hB127;refine ρ ?_;refine Jjj (k+1) (upd o (perm.length+k) (f-1-k)) sO ⟨by omega,hx6.setCell hb12w _,hB36.far (by simp only;have:=hB32.lt;omega) _,hB127,hB136.far (λe=>hne e) _,λj hj=>?_⟩ (by omega);by_cases e:j=perm.length+k
  ·subst e;rw [Jjp,hord];simp only [Jzt,List.getD];rw [List.getElem?_append_right (by omega),Nat.add_sub_cancel_left,List.getElem?_reverse (by simp;omega),List.length_range,List.getElem?_range (by omega)];rfl
  ·rw [Jjl _ _ e];exact ho j (by omega)
 have hk':k=f:=by have:=of_decide_eq_false hc;omega
 subst hk';clear hc;have hpn:perm.length+k=n:=by omega
 rw [hpn]at ho;refine ρ ?_;refine ld (hB36.at (i:=0) rfl) ?_;refine ρ ?_;refine Jjv (fun (i:Nat) (q:Nat->Nat)=>[(2,.slice PA perm.length pc),(3,.pointer (some ⟨b3,0,none⟩)),(12,.pointer (some ⟨b12,0,none⟩)),(13,.pointer (some ⟨b13,0,none⟩)),(80,.int .i64 (n:Int)),(81,.int .i64 (i:Int))])
  (λi q w7=>i<=n/\Ext w' w7/\Blk w7 b3 150 (grC A c n es)/\Blk w7 b12 191 (Qzn o)/\Blk w7 b13 191 (Qzn q)/\∀ u,u<n->plc ord u<i->q u=plc ord u) (λi _=>n-i) 0 (λ_=>0) sB
  ⟨Nat.zero_le _,hx6,hB36,hB126,hB136,λu _ hu=>by omega⟩ ?_
 clear hx6 hB36 hB126 hB136;rintro i q w7 ⟨hi,hx7,hB37,hB127,hB137,hq⟩;refine ρ ?_;refine ci (λhc=>?_) (λhc=>?_)
 ·have li:i<n:=by have:=of_decide_eq_true hc;omega
  clear hc;have hoi:=holt i li;have hoe:=ho i li;refine ρ ?_;refine ixb i (show i<32 by omega) ?_;refine ρ ?_;refine ld (hB127.atc (Jzx (show i<32 by omega))) ?_;rw [hoe];refine ρ ?_;refine ixb (ord.getD i 0) (show ord.getD i 0<32 by omega) ?_;refine ρ ?_;refine sto (p:=⟨b13,ord.getD i 0,none⟩) (hB137.cell _ |>.trans (Jzx (show ord.getD i 0<32 by omega))) (hB137.frozen _) ?_;have hB138:=hB137.set (ord.getD i 0) (.int .i64 (i:Int));rw [Qyw q (show ord.getD i 0<32 by omega)]at hB138;have hb13w:w'.heap.size<=b13:=Nat.le_trans hx3.size hb13;refine ρ ?_;refine Jjj (i+1) (upd q (ord.getD i 0) i) sO ⟨by omega,hx7.setCell hb13w _,hB37.far (by simp only;have:=hB32.lt;omega) _,hB127.far (λe=>hne e.symm) _,hB138,λu hu hlt=>?_⟩ (by omega);by_cases e:u=ord.getD i 0
  ·rw [e,Jjp,Jmd hond (hol.symm ▸ li)]
  ·rw [Jjl _ _ e];refine hq u hu ?_;have h1:=Jbc hond (hom.2 hu);rcases Nat.lt_or_ge (plc ord u) i with h2|h2
   ·exact h2
   ·have:plc ord u=i:=by omega
    rw [this]at h1;exact absurd h1.2.symm e
 have hi':i=n:=by have:=of_decide_eq_false hc;omega
 subst hi';clear hc;have hq':∀ u,u<i->q u=plc ord u:=λu hu=>hq u hu (by have:=(Jbc hond (hom.2 hu)).1;omega);have hxw7:=hxw2.trans hx7;refine ρ ?_;refine lds (cs:=grC A c i es) (λj u hu=>hB37.at hu) ?_;refine ρ ?_;refine cl (Qmr (h.ext hxw7)) ?_;rintro u w8 ⟨hx8,a0,rfl,ha0⟩;refine ρ ?_;refine alc (cs:=Jfr λ_=>0) Qfw ?_;intro w9 b16 hx9 hb16 hB16;refine ρ ?_;refine sta (cs':=Jfr a0) hB16 ?_ (Jsj a0) (by rw [Jxv,Jxv]) (Jxv a0).symm;intro w10 hB16 hg10 hx10;have hx810:Ext w8 w10:=hx10 w8 hx9 hb16;have hx710:=hx8.trans hx810;have hB310:=hB37.ext hx710;refine ρ ?_;refine ld (hB310.at (i:=0) rfl) ?_;refine ρ ?_;refine mkn EBg i (by omega) (by unfold maxLen;omega) ?_;intro w11 B hx11 hBg11 _;rw [made3]at hBg11;have hx711:=hx710.trans hx11;have hB311:=hB310.ext hx11;have hB1211:=hB127.ext hx711;have hB1311:=hB137.ext hx711;have hB1611:=hB16.ext hx11;have hxw11:=hxw7.trans hx711
 refine ρ ?_;refine ld (hB311.at (i:=0) rfl) ?_;have hb12w':w'.heap.size<=b12:=hb12;have l13:b13<w7.heap.size:=hB137.lt;have l12:b12<w7.heap.size:=hB127.lt;have l3:b3<w7.heap.size:=hB37.lt;have l16:w7.heap.size<=b16:=Nat.le_trans hx8.size hb16;have l16':b16<w10.heap.size:=hB16.lt;have hb13w:w'.heap.size<=b13:=Nat.le_trans hx3.size hb13;have hB0:Jxt i (λ_=>[Value.int .i64 0,.int .u32 0,.int .i64 0])=Jxt i (Qfv ord (λ_=>0) (λ_=>0) 0):=Jyd λv _=>by simp [Qfv]
 have hes:∀ e∈es,e<2^i:=h.lt;rw [hB0]at hBg11;refine ρ ?_;refine Jpn (fun (j:Nat) (a:Nat->Nat) (kf:Nat->Nat) (pf:Nat->Int)=>[(3,.pointer (some ⟨b3,0,none⟩)),(12,.pointer (some ⟨b12,0,none⟩)),(13,.pointer (some ⟨b13,0,none⟩)),(16,.pointer (some ⟨b16,0,none⟩)),(17,.slice B i i),(96,.int .i64 (i:Int)),(97,.int .i64 (j:Int))])
  (λj a kf pf w12=>j<=i/\Ext w' w12/\w7.heap.size<=w12.heap.size/\w10.heap.size<=w12.heap.size/\Blk w12 b3 150 (grC A c i es)/\Blk w12 b12 191 (Qzn o)/\Blk w12 b13 191 (Qzn q)/\Blk w12 b16 192 (Jfr a)/\w12.ownsRow w10.heap.size 195 3 (.slice B i i) i (Jxt i (Qfv ord kf pf j)) /\
   (∀ u,u<32->a u<4294967296)/\(∀ u,u<i->∀ x,(a u).testBit x=Qkp (nb0 i es) (ord.take j) u x)/\∀ v,v<i->plc ord v<j->BagAt i es ord v (kf v) (pf v)) (λj _ _ _=>i-j) 0 a0 (λ_=>0) (λ_=>0) sB
  ⟨Nat.zero_le _,hx7.trans hx711,hx711.size,hx11.size,hB311,hB1211,hB1311,hB1611,hBg11,λu hu=>(ha0 u hu).1,λu hu x=>?_,λv _ hv=>by omega⟩ ?_
 ·rw [(ha0 u (by omega)).2];rfl
 clear hB311 hB1211 hB1311 hB1611 hBg11 hB310 hB37 hB127 hB137 hB0 hB16 hB32;rintro j a kf pf w12 ⟨hj,hx12,hs712,hs1012,hB312,hB1212,hB1312,hB1612,hBg12,ha32,hab,hbg⟩;refine ρ ?_;refine ci (λhc=>?_) (λhc=>?_)
 ·have lj:j<i:=by have:=of_decide_eq_true hc;omega
  clear hc;have lj32:j<32:=by omega
  obtain ⟨v,ev⟩:∃ v,v=ord.getD j 0:=⟨_,rfl⟩;have hvn:v<i:=by rw [ev];exact holt j lj
  have hv32:v<32:=by omega
  have hvord:v∈ord:=hom.2 hvn;have hpv:pre ord v=ord.take j:=by rw [ev];exact Qhw hond (hol.symm ▸ lj)
  have hplv:plc ord v=j:=by rw [ev];exact Jmd hond (hol.symm ▸ lj)
  obtain ⟨nbj,enbj⟩:∃ nbj,nbj=Qkp (nb0 i es) (ord.take j):=⟨_,rfl⟩;have hkey:∀ x,Qjh (nb0 i es) ord v x=nbj v x:=λx=>by rw [Qjh,hpv,enbj]
  have hinv:NbInv (ord.take j) nbj:=by rw [enbj];exact (Qlk hes).at (hond.sublist (List.take_sublist _ _))
  have hvnot:v ∉ ord.take j:=by rw [<-hpv];exact (Jhq hvord).choose_spec.2
  have hkx:∀ x,nbj v x=true->x≠v:=λx hx=>(hinv.gone v x hvnot hx).2;have hkn:∀ x,nbj v x=true->x<i:=λx hx=>by rw [<-hkey]at hx;exact Qyv (λu x h=>(Jpz hes h).2.1) hx
  rw [<-enbj]at hab;have hkv:=ha32 v hv32;refine ρ ?_;refine ixb j lj32 ?_;refine ρ ?_;refine ld (hB1212.atc (Jzx lj32)) ?_;rw [ho j lj,<-ev];refine ρ ?_;refine ixb v hv32 ?_;refine ρ ?_;refine ld (hB1612.atc (Jkn hv32)) ?_;refine ρ ?_;refine bld (Xcz _ _ _) ?_;refine ρ ?_;refine alc (cs:=[.int .i64 0,.int .u32 0,.int .i64 0]) zBag ?_;intro w13 b20 hx13 hb20 hB20;refine ρ ?_;refine stb (cs':=[.int .i64 (v:Int),.int .u32 (a v:Int),.int .i64 (-1)]) hB20 ?_ Jfx;intro w14 hB20 hg14 hx14;have hx1214:Ext w12 w14:=hx14 w12 hx13 hb20;have hB314:=hB312.ext hx1214;refine ρ ?_;refine ld (hB314.at (i:=0) rfl) ?_;refine ρ ?_;refine Jzk (fun (u:Nat) (a':Nat->Nat) (par:Int)=>[(3,.pointer (some ⟨b3,0,none⟩)),(12,.pointer (some ⟨b12,0,none⟩)),(13,.pointer (some ⟨b13,0,none⟩)),(16,.pointer (some ⟨b16,0,none⟩)),(17,.slice B i i),(96,.int .i64 (i:Int)),(97,.int .i64 (j:Int)),(19,.int .i64 (v:Int)),(20,.pointer (some ⟨b20,0,none⟩)),(109,.int .i64 (i:Int)),(110,.int .i64 (u:Int))])
   (λu a' par w15=>u<=i/\GrN (λk=>k=b16∨k=b20) w14 w15/\Blk w15 b16 192 (Jfr a')/\Blk w15 b20 195 [.int .i64 (v:Int),.int .u32 (a v:Int),.int .i64 par] /\
    (∀ x,x<32->a' x<4294967296)/\(∀ x,x<i->∀ y,(a' x).testBit y=if x<u then Jph v nbj x y else nbj x y) /\
    ((par = -1/\∀ x,x<u->nbj v x=false)∨∃ p:Nat,par=p/\p<u/\nbj v p=true/\∀ x,x<u->nbj v x=true->plc ord p<=plc ord x)) (λu _ _=>i-u) 0 a (-1) sB
   ⟨Nat.zero_le _,GrN.refl _ _,hB1612.ext hx1214,hB20,ha32,λx hx y=>by rw [if_neg (by omega)];exact hab x hx y,.inl ⟨rfl,λx hx=>by omega⟩⟩ ?_
  rintro u a' par w15 ⟨hu,hg15,hB1615,hB2015,ha32',hab',hpar⟩;refine ρ ?_;refine ci (λhc=>?_) (λhc=>?_)
  ·have lu:u<i:=by have:=of_decide_eq_true hc;omega
   clear hc;have lu32:u<32:=by omega
   refine ρ ?_;refine ld (hB2015.at (i:=1) rfl) ?_;refine ρ ?_;refine Xjd (s:=a v) (v:=u) (by omega) ?_;refine ρ ?_;refine ci (λhc=>?_) (λhc=>?_)
   ·rw [Qzb hkv,hab v hvn]at hc;have hku:nbj v u=false:=by simpa using hc
    refine ρ ?_;refine Jqf (u+1) a' par sO ⟨by omega,hg15,hB1615,hB2015,ha32',λx hx y=>?_,?_⟩ (by omega)
    ·rw [hab' x hx];by_cases e:x=u
     ·subst e;rw [if_neg (by omega),if_pos (by omega),Jph,if_neg (by rw [hku];simp)]
     ·by_cases h1:x<u
      ·rw [if_pos h1,if_pos (by omega)]
      ·rw [if_neg h1,if_neg (by omega)]
    ·rcases hpar with ⟨h1,h2⟩|⟨p,h1,h2,h3,h4⟩
     ·refine .inl ⟨h1,λx hx=>?_⟩;by_cases e:x=u
      ·rw [e];exact hku
      ·exact h2 x (by omega)
     ·refine .inr ⟨p,h1,by omega,h3,λx hx hbx=>?_⟩;by_cases e:x=u
      ·rw [e,hku]at hbx;cases hbx
      ·exact h4 x (by omega) hbx
   ·rw [Qzb hkv,hab v hvn]at hc;have hku:nbj v u=true:=by simpa using hc
    have hx15:Ext w' w15:=hg15.old (hx12.trans hx1214) (λk hk=>by
     rcases hk with rfl|rfl
     ·have:=hx7.size;omega
     ·have:=hx12.size;omega)
    have hB1315:Blk w15 b13 191 (Qzn q):=Jqb (hB1312.ext hx1214) hg15 (by
     rintro (h|h)
     ·omega
     ·have:=hB1312.lt;omega)
    refine ρ ?_;refine Jzl (fun (t:Bool)=>[(3,.pointer (some ⟨b3,0,none⟩)),(12,.pointer (some ⟨b12,0,none⟩)),(13,.pointer (some ⟨b13,0,none⟩)),(16,.pointer (some ⟨b16,0,none⟩)),(17,.slice B i i),(96,.int .i64 (i:Int)),(97,.int .i64 (j:Int)),(19,.int .i64 (v:Int)),(20,.pointer (some ⟨b20,0,none⟩)),(109,.int .i64 (i:Int)),(110,.int .i64 (u:Int)),(21,.int .i64 (u:Int)),(131,.bool t)])
     (λt w16=>Ext w15 w16/\(t=true->par = -1∨∃ p:Nat,par=p/\plc ord u<plc ord p)/\(t=false->∃ p:Nat,par=p/\plc ord p<=plc ord u)) ?_ ?_
    ·have hxd:Ext w15 w15.drew:=(Ext.refl w15).drew;have hB20d:=hB2015.ext hxd;have hB13d:=hB1315.ext hxd;refine dr [(0,0),(0,1),(0,2),(0,3),(0,4),(0,5),(0,6),(0,7),(0,8),(0,9),(0,10),(0,11),(0,12)] (by kernel_rfl) ?_;refine ρd ?_;refine dld (hB20d.at (i:=2) rfl) ?_;refine ρd ?_;refine dki 122 (λh1=>?_) (λh1=>?_)
     ·have h2:par<0:=of_decide_eq_true h1;have h3:par = -1:=by
       rcases hpar with ⟨h4,_⟩|⟨p,h4,_⟩
       ·exact h4
       ·omega
      refine ρd ?_;refine ρ ?_;exact Jjn true sB ⟨hxd,λ_=>.inl h3,λe=>by cases e⟩
     ·have h2:¬ par<0:=of_decide_eq_false h1;obtain ⟨p,h4,h5,h6,h7⟩:∃ p:Nat,par=p/\p<u/\nbj v p=true/\∀ x,x<u->nbj v x=true->plc ord p<=plc ord x:=by
       rcases hpar with ⟨h4,_⟩|h4
       ·omega
       ·exact h4
      subst h4;refine ρd ?_;refine dixb u lu32 ?_;refine ρd ?_;refine dld (hB13d.atc (Jzx lu32)) ?_;refine ρd ?_;refine dld (hB20d.at (i:=2) rfl) ?_;refine ρd ?_;refine dixb p (show p<32 by omega) ?_;refine ρd ?_;refine dld (hB13d.atc (Jzx (show p<32 by omega))) ?_;rw [hq' u lu,hq' p (by omega)];refine ρd ?_;refine ρ ?_;refine Jjn _ sB ⟨hxd,λe=>.inr ⟨p,rfl,?_⟩,λe=>⟨p,rfl,?_⟩⟩
      ·have:=of_decide_eq_true e;omega
      ·have:=of_decide_eq_false e;omega
    rintro t w16 ⟨hx16,ht1,ht2⟩;have hB2016:=hB2015.ext hx16;refine ρ ?_;refine Jzl (fun (par':Int)=>[(3,.pointer (some ⟨b3,0,none⟩)),(12,.pointer (some ⟨b12,0,none⟩)),(13,.pointer (some ⟨b13,0,none⟩)),(16,.pointer (some ⟨b16,0,none⟩)),(17,.slice B i i),(96,.int .i64 (i:Int)),(97,.int .i64 (j:Int)),(19,.int .i64 (v:Int)),(20,.pointer (some ⟨b20,0,none⟩)),(109,.int .i64 (i:Int)),(110,.int .i64 (u:Int)),(21,.int .i64 (u:Int))])
     (λpar' w17=>GrN (λk=>k=b20) w16 w17/\Blk w17 b20 195 [.int .i64 (v:Int),.int .u32 (a v:Int),.int .i64 par']/\((par' = -1/\∀ x,x<u+1->nbj v x=false)∨∃ p:Nat,par'=p/\p<u+1/\nbj v p=true/\∀ x,x<u+1->nbj v x=true->plc ord p<=plc ord x)) ?_ ?_
    ·refine ci (λht=>?_) (λht=>?_)
     ·refine ρ ?_;refine sto (p:=⟨b20,2,none⟩) (hB2016.cell 2) (hB2016.frozen _) ?_;refine ρ ?_;refine Jjn (u:Int) sB ⟨GrN.set _ rfl,hB2016.set 2 _,.inr ⟨u,rfl,Nat.lt_succ_self u,hku,λx hx hbx=>?_⟩⟩;by_cases e:x=u
      ·rw [e];exact Nat.le_refl _
      ·rcases hpar with ⟨_,h2⟩|⟨p,h1,h2,h3,h4⟩
       ·rw [h2 x (by omega)]at hbx;cases hbx
       ·have h5:=h4 x (by omega) hbx;rcases ht1 ht with h6|⟨p',h6,h7⟩
        ·omega
        ·have:p=p':=by omega
         subst this;omega
     ·obtain ⟨p',h6,h7⟩:=ht2 ht;refine ρ ?_;refine Jjn par sB ⟨GrN.refl _ _,hB2016,.inr ?_⟩;rcases hpar with ⟨h1,h2⟩|⟨p,h1,h2,h3,h4⟩
      ·omega
      ·have:p=p':=by omega
       subst this;refine ⟨p,h1,by omega,h3,λx hx hbx=>?_⟩;by_cases e:x=u
       ·rw [e];exact h7
       ·exact h4 x (by omega) hbx
    rintro par' w17 ⟨hg17,hB2017,hpar'⟩;have hb1620:b16≠b20:=by omega
    have hB1617:Blk w17 b16 192 (Jfr a'):=Jqb (hB1615.ext hx16) hg17 hb1620;have hxd:Ext w17 w17.drew:=(Ext.refl w17).drew;have hB16d:=hB1617.ext hxd;have hB20d:=hB2017.ext hxd;have hau:=ha32' u lu32;have h2u:=Jwc lu32;have h2v:=Jwc hv32;refine ρ ?_;refine drN (λ_=>False) 15 [(0,0),(0,1),(0,2),(0,3),(0,4),(0,5),(0,6),(0,7),(0,8),(0,9),(0,10),(0,11),(0,12),(0,13),(2,14)] (by kernel_rfl) ?_;refine ρn ?_;refine nixb u lu32 ?_;refine ρn ?_;refine nld (Jjg (hB16d.atc (Jkn lu32)) (λe=>e)) ?_;refine ρn ?_;refine nld (Jjg (hB20d.at (i:=1) rfl) (λe=>e)) ?_;refine ρn ?_;refine Xzf lu32 ?_;refine ρn ?_;refine Xzf hv32 ?_;refine ρn ?_;refine nixb u lu32 ?_;refine ρn ?_;refine Jkj ?_;have hor1:=Jss hau hkv;have hor2:=Jss h2u h2v;obtain ⟨nw,enw⟩:∃ nw,nw=Qpp (a' u ||| a v) (2^u ||| 2^v):=⟨_,rfl⟩;have hnw:nw<4294967296:=by rw [enw];exact Qnx hor1
    have eval:bits .andNot .u32 (bits .or .u32 (a' u:Int) (a v:Int)) (bits .or .u32 ((2^u:Nat):Int) ((2^v:Nat):Int))=(nw:Int):=by
     rw [Jdc hau hkv,Jdc h2u h2v,Jdd hor1 hor2,enw]
    refine sto (p:=⟨b16,u,none⟩) (hB16d.cell u |>.trans (Jkn lu32)) (hB16d.frozen _) ?_;rw [eval];have hB1618:=hB16d.set u (.int .u32 (nw:Int));rw [Jsh a' lu32]at hB1618;have hg18:GrN (λk=>k=b16) w17.drew (w17.drew.setCell ⟨b16,u,none⟩ (.int .u32 (nw:Int))):=GrN.set _ rfl;refine ω5 ?_;refine Jch ?_;refine ρn ?_;refine ρ ?_;refine Jqf (u+1) (upd a' u nw) par' sO ⟨by omega,?_,hB1618,hB20d.far (λe=>hb1620 e.symm) _,λx hx=>?_,λx hx y=>?_,hpar'⟩ (by omega)
    ·exact ((hg15.trans (GrN.ext hx16)).trans (hg17.mono λk _ hk=>.inr hk)).trans ((GrN.ext hxd).trans (hg18.mono λk _ hk=>.inl hk))
    ·by_cases e:x=u
     ·rw [e,Jjp];exact hnw
     ·rw [Jjl _ _ e];exact ha32' x hx
    ·by_cases e:x=u
     ·subst e;rw [Jjp,if_pos (Nat.lt_succ_self x),enw,Qjb hor1 hor2,Nat.testBit_or,Nat.testBit_or,Jrz,Jrz,hab' x hx,if_neg (Nat.lt_irrefl x),hab v hvn,Jph,if_pos hku];rw [Xjv x y,Xjv v y];cases nbj x y<;>cases nbj v y<;>cases (y != x)<;>cases (y != v)<;>rfl
     ·rw [Jjl _ _ e,hab' x hx];by_cases h1:x<u
      ·rw [if_pos h1,if_pos (by omega)]
      ·rw [if_neg h1,if_neg (by omega)]
  ·have hu':u=i:=by have:=of_decide_eq_false hc;omega
   subst hu';clear hc;have hx15:Ext w' w15:=hg15.old (hx12.trans hx1214) (λk hk=>by
    rcases hk with rfl|rfl
    ·have:=hx7.size;omega
    ·have:=hx12.size;omega)
   have hkeep:∀ {g t:Nat} {cs:List Value},Blk w12 g t cs->g≠b16->Blk w15 g t cs:=λhB h1=>Jqb (hB.ext hx1214) hg15 (by
    rintro (h|h)
    ·exact h1 h
    ·have:=hB.lt;omega)
   have hBg15:w15.ownsRow w10.heap.size 195 3 (.slice B u u) u (Jxt u (Qfv ord kf pf j)):=Jjr (Jjc hBg12 hx1214) hg15 (λg eg hk=>by
    obtain ⟨_,_,_,_,hfB⟩:=Jjd hBg12;have h5:=hfB g eg;rcases hk with rfl|rfl<;>omega)
   refine ρ ?_;refine lds (cs:=[.int .i64 (v:Int),.int .u32 (a v:Int),.int .i64 par]) (λj u hu=>hB2015.at hu) ?_;refine ρ ?_;refine ixq 3 v (Rd.own hBg15) hvn ?_;refine ρ ?_;refine stoE (cs:=[.int .i64 (v:Int),.int .u32 (a v:Int),.int .i64 par]) hBg15 hvn ?_ Jfx;intro w16 hBg16 hg16;rw [Qmg (λv _=>Qtk ord kf pf j v) hvn rfl]at hBg16;have eg:Jxt u (upd (Qfv ord kf pf j) v [.int .i64 (v:Int),.int .u32 (a v:Int),.int .i64 par])=Jxt u (Qfv ord (upd kf v (a v)) (upd pf v par) (j+1)):=by
    refine Jyd λx hx=>?_;by_cases e:x=v
    ·subst e;rw [Jjp,Qfv,if_pos (by omega)];simp only [Jyh,Jjp]
    ·rw [Jjl _ _ e];have hne':plc ord x≠j:=λe'=>by
      have h1:=(Jbc hond (hom.2 hx)).2;rw [e',<-ev]at h1;exact e h1.symm
     unfold Qfv;by_cases h1:plc ord x<j
     ·rw [if_pos h1,if_pos (by omega)];simp only [Jyh,Jjl _ _ e]
     ·rw [if_neg h1,if_neg (by omega)]
   rw [eg]at hBg16;have hkeep2:∀ {g t:Nat} {cs:List Value},Blk w15 g t cs->g<w10.heap.size->Blk w16 g t cs:=λhB h1=>hB.grown hg16 (λe=>by
    obtain ⟨_,_,_,_,hfB⟩:=Jjd hBg15;have h5:=hfB _ e.symm;omega)
   have hx16:Ext w' w16:=Jjk hx15 hg16 (λg eg=>by
    obtain ⟨_,_,_,_,hfB⟩:=Jjd hBg15;have h5:=hfB g eg;have:=hx7.size;have:=hx710.size;omega)
   have h710:=hx710.size;refine ρ ?_;refine Jvx (j+1) a' (upd kf v (a v)) (upd pf v par) sO ⟨by omega,hx16,by have:=hx1214.size;have:=hg15.size;have:=hg16.size;omega,by have:=hx1214.size;have:=hg15.size;have:=hg16.size;omega,hkeep2 (hkeep hB312 (by omega)) (by omega),hkeep2 (hkeep hB1212 (by omega)) (by omega),hkeep2 (hkeep hB1312 (by omega)) (by omega),hkeep2 hB1615 l16',hBg16,ha32',λx hx y=>?_,λx hx hlt=>?_⟩ (by omega)
   ·rw [hab' x hx,if_pos hx,Jjm 0 (hol.symm ▸ lj),<-ev,Qyp,<-enbj];rfl
   ·by_cases e:x=v
    ·subst e;rw [Jjp,Jjp];refine ⟨hkv,λy=>by rw [hab x hvn,hkey],?_⟩;rcases hpar with ⟨h1,h2⟩|⟨p,h1,h2,h3,h4⟩
     ·refine .inl ⟨h1,λy=>?_⟩;rw [hkey];cases hb:nbj x y with
      | false=>rfl
      | true=>exact absurd (h2 y (hkn y hb)) (by rw [hb];simp)
     ·exact .inr ⟨p,h1,by rw [hkey];exact h3,λy hy=>h4 y (hkn y (by rw [<-hkey];exact hy)) (by rw [<-hkey];exact hy)⟩
    ·rw [Jjl _ _ e,Jjl _ _ e];refine hbg x hx ?_;have hne':plc ord x≠j:=λe'=>by
      have h1:=(Jbc hond (hom.2 hx)).2;rw [e',<-ev]at h1;exact e h1.symm
     omega
 ·have hj':j=i:=by have:=of_decide_eq_false hc;omega
  subst hj';clear hc;refine ρ ?_;refine Qjk ⟨hxw2.trans hx12,B,kf,pf,rfl,?_,λv hv=>?_⟩
  ·have e:Jxt j (Qfv ord kf pf j)=Jxt j (Jyh kf pf):=Jyd λv hv=>by
    have:=(Jbc hond (hom.2 hv)).1;rw [Qfv,if_pos (by omega)]
   rw [e]at hBg12;exact Jsr hBg12 (by have:=hxw7.size;have:=hx710.size;omega)
  ·have:=hbg v hv (by have:=(Jbc hond (hom.2 hv)).1;omega);rw [<-hord];exact this
open Go.RowKit Pl Go.Wk
theorem Qmq{kf:Nat->Nat}{pf:Nat->Int}{v:Nat}(hv:v<32)(hk:kf v<4294967296)(w:World): Ret Tryz.prog 123 [.agg (Jyh kf pf v).toArray] w λu w'=>u=.int .u32 ((kf v ||| 2^v:Nat):Int)/\Ext w w':=by
 refine Jjb Tryz.func123 Tryz.ntmps123 rfl (by kernel_rfl) rfl ?_;refine ρ ?_;refine bx (cs:=Jyh kf pf v) ?_;intro w1 b hx1 hb hB;refine ρ ?_;refine ld (hB.at (i:=0) rfl) ?_;refine ρ ?_;refine ld (hB.at (i:=0) rfl) ?_;refine ρ ?_;refine cf ?_ ?_
 ·exact decide_eq_false (by omega)
 have hxd:Ext w1 w1.drew:=(Ext.refl w1).drew;have hBd:=hB.ext hxd;refine ρ ?_;refine dr [(0,0),(0,1),(0,2),(0,3),(0,4),(0,5),(0,6)] (by kernel_rfl) ?_;refine ρd ?_;refine dld (hBd.at (i:=1) rfl) ?_;refine ρd ?_;refine dld (hBd.at (i:=0) rfl) ?_;refine ρd ?_;refine dsl32 hv ?_;refine ρd ?_;refine ρ ?_;refine Jjq ⟨?_,hx1.trans hxd⟩;rw [Jdc hk (Jwc hv)]
def Qjf(n m:Nat)(vars:Nat->List Nat)(rs:Nat->List Row)(s:Nat)(l:List Row): Prop:=Lt [] l/\(∀ x,x∈l↔∃ z:Row,z.length=n/\x=pmR (bk s 32) z/\Qtq m vars rs s z)/\l.length<=65536
def Jkw(s:Nat)(l:List Row): Atm:=⟨nz (bk s 32),(bk s 32).length,l⟩
theorem Qwv{w:World}{n:Nat}{ts:List TA}{Aa B:Option Addr}{ca cb:Nat}{vars:Nat->List Nat}{rs:Nat->List Row}{kf:Nat->Nat}{pf:Nat->Int}(hn32:n<=32)(hok:∀ v,v<n->MOk n ts vars rs (kf v ||| 2^v))(hR:Rd w 3 Aa ts.length (atC ts))(hle:ts.length<=ca)(hat:∀ p∈ts,AtV w p.1 p.2)(hB:Rd w 3 B n (Jxt n (Jyh kf pf)))(hk:∀ v,v<n->kf v<4294967296)(hcap:∀ v,v<n->∀ l:List Row,Lt [] l->(∀ x∈l,∃ z:Row,z.length=n/\x=pmR (bk (kf v ||| 2^v) 32) z/\Qtq ts.length vars rs (kf v ||| 2^v) z)->l.length<=65536):
  Ret Tryz.prog 81 [.int .i64 (n:Int),.slice B n cb,.slice Aa ts.length ca] w λu w'=>Ext w w'/\∃ (va:Value) (st:Int) (R:Nat->List Row),u=.tuple #[va,.int .i64 st,.int .i64 0] /\
   Off (λk=>k<w.heap.size) w' (λx=>GV 3 AtG x va ((List.range n).map λv=>Jkw (kf v ||| 2^v) (R v)))/\∀ v,v<n->Qjf n ts.length vars rs (kf v ||| 2^v) (R v):=by
 refine Jjb Tryz.func81 Tryz.ntmps81 rfl (by kernel_rfl) rfl ?_;refine ρ ?_;refine Jpn (fun (v:Nat) (va:Value) (st:Int) (R:Nat->List Row)=>[(0,.int .i64 (n:Int)),(2,.slice Aa ts.length ca),(9,va),(10,.int .i64 st),(16,.slice B n cb),(17,.int .i64 (n:Int)),(18,.int .i64 (v:Int))])
  (λv va st R w'=>v<=n/\Ext w w'/\OwnG 69 3 AtG w' w.heap.size va ((List.range v).map λu=>Jkw (kf u ||| 2^u) (R u))/\∀ u,u<v->Qjf n ts.length vars rs (kf u ||| 2^u) (R u)) (λv _ _ _=>n-v) 0 (.slice none 0 0) 0 (λ_=>[]) sB
  ⟨Nat.zero_le _,Ext.refl _,OwnG.nil _ _,λu hu=>by omega⟩ ?_
 rintro v va st R w1 ⟨hv,hx1,hG1,hRv⟩;refine ρ ?_;refine ci (λhc=>?_) (λhc=>?_)
 ·have lv:v<n:=by have:=of_decide_eq_true hc;omega
  clear hc;have hB1:=hB.ext hx1;have hcell:∀ j u,(Jyh kf pf v)[j]?=some u->w1.cell? ((adr B (v*3)).add j)=some u:=λj u hu=>by
   have hj:j<3:=by
    rcases Nat.lt_or_ge j 3 with h'|h'
    ·exact h'
    ·rw [List.getElem?_eq_none (by simp [Jyh];omega)]at hu;cases hu
   rw [Jqw];exact hB1.cell ((Jwr (sz:=3) (λ_ _=>rfl) lv hj).trans hu)
  refine ρ ?_;refine ixq 3 v hB1 lv ?_;refine ρ ?_;refine lds (cs:=Jyh kf pf v) hcell ?_;refine ρ ?_;refine alc (cs:=[.int .i64 0,.int .u32 0,.int .i64 0]) zBag ?_;intro w2 b12 hx2 hb12 hB12;refine ρ ?_;refine stb (cs':=Jyh kf pf v) hB12 ?_ Jfx;intro w3 hB12 hg3 hx3;have hx13:Ext w1 w3:=hx3 w1 hx2 hb12;refine ρ ?_;refine lds (cs:=Jyh kf pf v) (λj u hu=>hB12.at hu) ?_;refine ρ ?_;refine cl (Qmq (by omega) (hk v lv) w3) ?_;rintro u w4 ⟨rfl,hx4⟩;have hx14:=hx13.trans hx4;have hxw4:=hx1.trans hx14;refine ρ ?_;refine cl (Jml (hok v lv) (hR.ext hxw4) hle (λp hp=>(hat p hp).ext hxw4) (hcap v lv)) ?_;rintro u w5 ⟨hx5,⟨p1,p2,p3⟩,st5,l,rfl,hoff,hlt,hmem,hll⟩;have hA5:=hoff.here;obtain ⟨⟨PA,pc,ep1,hpc,hpm,hpr⟩,ep2,hprows⟩:=id hA5;simp only at ep1 ep2;obtain ⟨pps,PG,pgc,_,ep3,_⟩:=id hprows;simp only at ep3;subst ep1;subst ep2;subst ep3;refine ρ ?_;refine alc (cs:=[.slice none 0 0,.int .i64 0,.slice none 0 0]) Jdg ?_
  intro w6 b13 hx6 hb13 hB13;refine ρ ?_;refine stb (cs':=[.slice PA (nz (bk (kf v ||| 2^v) 32)).length pc,.int .i64 ((bk (kf v ||| 2^v) 32).length:Int),.slice PG pps.length pgc]) hB13 ?_ (Xjl rfl);intro w7 hB13 hg7 hx7;have hx57:Ext w5 w7:=hx7 w5 hx6 hb13;refine ρ ?_;refine lds (cs:=[.slice PA (nz (bk (kf v ||| 2^v) 32)).length pc,.int .i64 ((bk (kf v ||| 2^v) 32).length:Int),.slice PG pps.length pgc]) (λj u hu=>hB13.at hu) ?_;refine ρ ?_;refine bsl (Qwr _ _ _ PA PG _ pc _ pgc _ rfl rfl rfl) ?_;intro w8 b8 hx8 hb8 hB8;have hx18:=((hx14.trans hx5).trans hx57).trans hx8;obtain ⟨_,_,_,_,hGf⟩:=hG1.form;have hΦ:Off (Jbl w.heap.size va) w8 (λu=>AtG u [.slice PA (nz (bk (kf v ||| 2^v) 32)).length pc,.int .i64 ((bk (kf v ||| 2^v) 32).length:Int),.slice PG pps.length pgc] (Jkw (kf v ||| 2^v) l)):=by
   refine ((hoff.imp λu h=>⟨_,rfl,h⟩).mono λk _ hk'=>?_).ext (hx57.trans hx8);rcases hk' with h'|h'
   ·exact Nat.lt_of_lt_of_le h' hxw4.size
   ·exact Nat.lt_of_lt_of_le (hGf k h').2 hx14.size
  refine ρ ?_;refine apG EA (Φ:=AtG) (hG1.ext hx18) hB8 rfl (Xjl rfl) hΦ (by simp;omega) (by omega) (hx1.trans hx18).size ?_;intro va9 w9 hG9 hg9 hn9;have hx9:Ext w w9:=Jjk (hx1.trans hx18) hg9 (λg eg=>(hGf g eg).1);obtain ⟨st9,hst9⟩:∃ st9:Int,st9=IntKind.i64.wrap (st+st5):=⟨_,rfl⟩;refine ρ ?_;rw [<-hst9];refine ρ ?_;refine Jvx (v+1) va9 st9 (upd R v l) sO ⟨by omega,hx9,?_,λu hu=>?_⟩ (by omega)
  ·rw [List.range_succ,List.map_append,List.map_singleton,Jjp];have e:(List.range v).map (λu=>Jkw (kf u ||| 2^u) (upd R v l u))=(List.range v).map (λu=>Jkw (kf u ||| 2^u) (R u)):=by
    refine List.map_congr_left λj hj=>?_;have:=List.mem_range.1 hj;rw [Jjl _ _ (by omega)]
   rw [e];exact hG9
  ·by_cases e:u=v
   ·subst e;rw [Jjp];exact ⟨hlt,hmem,hll⟩
   ·rw [Jjl _ _ e];exact hRv u (by omega)
 ·have hv':v=n:=by have:=of_decide_eq_false hc;omega
  subst hv';clear hc;refine ρ ?_;exact Qml ⟨hx1,va,st,R,rfl,hG1.off (by simp;omega),hRv⟩
end Go.Proofs.YtefpailelagbkaaGreatDoor
