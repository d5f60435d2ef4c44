/- Part 28. -/
import Derived.Test.YtebcagekopgdhaaGreatDoorB27
set_option linter.unusedVariables false
set_option maxRecDepth 100000
set_option maxHeartbeats 40000000
namespace Go.Proofs.YtebcagekopgdhaaGreatDoor
open Go.RowKit Pl Go.Wk
attribute [local irreducible] WC WL QX WD WDB WP WN WG
def Vj(o:Nat->Nat): List Value:=(List.range 32).map λi=>.int .i64 (o i:Int)
theorem Jsh(o:Nat->Nat): (Vj o).length=32:=by simp [Vj]
theorem Uq{o:Nat->Nat}{v:Nat}(h:v<32): (Vj o)[v]?=some (.int .i64 (o v:Int)):=by simp [Vj,h]
theorem Jsg(o:Nat->Nat){v x:Nat}(h:v<32): (Vj o).set v (.int .i64 (x:Int))=Vj (upd o v x):=by
 apply List.ext_getElem?
 intro i;rw [List.getElem?_set];by_cases e:v=i
 .subst e;rw [if_pos rfl,if_pos (by rw [Jsh];exact h),Uq h,Jf]
 .rw [if_neg e];by_cases hi:i<32
  .rw [Uq hi,Uq hi,Jy _ _ (λu=>e u.symm)]
  .simp [Vj,hi]
theorem Qgl{perm:List Nat}(h:perm.length<=32): Js (nz perm)++(List.replicate 32 (Value.int .i64 0)).drop perm.length=Vj λi=>perm.getD i 0:=by
 have o:(Js (nz perm)).length=perm.length:=by simp [Js,nz]
 apply List.ext_getElem?
 intro i;by_cases hi:i<perm.length
 .rw [List.getElem?_append_left om,Xh hi,Uq om]
 .rw [List.getElem?_append_right om,o,List.getElem?_drop];by_cases h3:i<32
  .rw [Uq h3];have:perm.getD i 0=0:=by simp [List.getD,List.getElem?_eq_none (Nat.le_of_not_lt hi)]
   rw [this];have e:perm.length+(i-perm.length)=i:=om
   rw [e,List.getElem?_replicate,if_pos h3];rfl
  .rw [List.getElem?_eq_none (by simp;omega),List.getElem?_eq_none (by rw [Jsh];omega)]
def Qb(kf:Nat->Nat)(pf:Nat->Int)(v:Nat): List Value:=[.int .i64 (v:Int),.int .u32 (kf v:Int),.int .i64 (pf v)]
def Jkm(n:Nat)(es ord:List Nat)(kf:Nat->Nat)(pf:Nat->Int): Prop:=∀ v,v<n->kf v<4294967296/\(∀ x,(kf v).testBit x=Zp (nb0 n es) ord v x) /\
 ((pf v = -1/\∀ x,Zp (nb0 n es) ord v x=false)∨∃ p:Nat,pf v=p/\Zp (nb0 n es) ord v p=true/\∀ x,Zp (nb0 n es) ord v x=true->plc ord p<=plc ord x)
theorem EBg: ElT Tryz.prog 25 187 3 24 (.agg #[.int .i64 0,.int .u32 0,.int .i64 0]):=⟨Tryz.underlying25,info_parts kr,rfl,by decide⟩
theorem zBag: Qt Tryz.prog 187=some (.agg #[.int .i64 0,.int .u32 0,.int .i64 0]):=kr
theorem Qnt(v k:Int)(w:World): (Instr.build 187 #[(0,.int .i64 v),(1,.int .u32 k),(2,.int .i64 (-1))]).run Tryz.prog w=.ok (.agg #[.int .i64 v,.int .u32 k,.int .i64 (-1)]) w:=kr
theorem Jzd{a b c:Int}: ∀ u∈[Value.int .i64 a,.int .u32 b,.int .i64 c],u.oneCell'=true:=λu o=>by
 simp only [List.mem_cons,List.not_mem_nil,or_false]at o;rcases o with rfl|rfl|rfl<;>rfl
theorem Qfb{zs:List Value}(h:0<zs.length)(n:Nat): (madeCells zs.toArray (n*zs.length)).toList=Qf n λ_=>zs:=by
 apply List.ext_getElem?
 intro k;by_cases hk:k<n*zs.length
 .have C:k / zs.length<n:=Nat.div_lt_of_lt_mul (by rw [Nat.mul_comm];exact hk);have o:=Nat.mod_lt k h;have u:=Ip (n:=n) (sz:=zs.length) (f:=λ_=>zs) (λ_ _=>rfl) C o;rw [Nat.div_add_mod' k zs.length]at u;rw [u];simp only [madeCells,Array.getElem?_toList,Array.getElem?_map,Array.getElem?_range,hk,if_true,Option.map_some];simp [o]
 .have G:=Jzr (n:=n) (sz:=zs.length) (f:=λ_=>zs) (λ_ _=>rfl);rw [List.getElem?_eq_none (by simp [madeCells];omega),List.getElem?_eq_none om]
theorem made3(n:Nat): (madeCells (Value.agg #[.int .i64 0,.int .u32 0,.int .i64 0]).cells (n*3)).toList=Qf n λ_=>[.int .i64 0,.int .u32 0,.int .i64 0]:=Qfb (zs:=[.int .i64 0,.int .u32 0,.int .i64 0]) (by simp) n
def Ym(ord:List Nat)(kf:Nat->Nat)(pf:Nat->Int)(j v:Nat): List Value:=if plc ord v<j then Qb kf pf v else [.int .i64 0,.int .u32 0,.int .i64 0]
theorem Qpm(ord:List Nat)(kf:Nat->Nat)(pf:Nat->Int)(j v:Nat): (Ym ord kf pf j v).length=3:=by unfold Ym;split<;>rfl
def BagAt(n:Nat)(es ord:List Nat)(v k:Nat)(p:Int): Prop:=k<4294967296/\(∀ x,k.testBit x=Zp (nb0 n es) ord v x) /\
 ((p = -1/\∀ x,Zp (nb0 n es) ord v x=false)∨∃ q:Nat,p=q/\Zp (nb0 n es) ord v q=true/\∀ x,Zp (nb0 n es) ord v x=true->plc ord q<=plc ord x)
theorem Jtm(x y:Nat): decide (x=y) = !(y != x):=by
 by_cases h:x=y
 .subst h;simp
 .rw [decide_eq_false h,bne_iff_ne.2 (λe=>h e.symm)];rfl
theorem Qhw{w:World}{A PA:Option Addr}{c pc n f:Nat}{es perm:List Nat}(h:GrV w A c n es)(hp:PermOk n f perm)(hP:Rd w 1 PA perm.length (Js (nz perm))):
  Ret Tryz.prog 80 [.agg (grC A c n es).toArray,.int .i64 (f:Int),.slice PA perm.length pc] w λu w'=>Ext w w'/\∃ B kf pf,u=.tuple #[.slice B n n,.int .i64 0]/\w'.ownsRow w.heap.size 187 3 (.slice B n n) n (Qf n (Qb kf pf))/\Jkm n es (Xj perm f) kf pf:=by
 have hn:=h.n32;have eu:=hp.fn;have f6:=hp.len;refine Jz Tryz.func80 Tryz.ntmps80 rfl kr rfl ?_;refine ρ ?_;refine bx (cs:=grC A c n es) ?_;intro w1 b3 dk f9 e5;refine ρ ?_;refine lds (cs:=grC A c n es) (λj u hu=>e5.at hu) ?_;refine ρ ?_;refine cl (Qhv (h.ext dk) eu) ?_;rintro u w2 ⟨rfl,dg⟩;have bf:=dk.trans dg;refine ρ ?_;refine Jt (fun (i:Nat) (s:Nat)=>[(1,.int .i64 (f:Int)),(2,.slice PA perm.length pc),(3,.pointer (some ⟨b3,0,none⟩)),(9,.int .u32 (s:Int)),(28,.slice PA perm.length pc),(29,.int .i64 (perm.length:Int)),(30,.int .i64 (i:Int))])
  (λi s w'=>i<=perm.length/\w'=w2/\s<4294967296/\∀ x,s.testBit x=true->x∈perm.take i) (λi _=>perm.length-i) 0 0 sB
  ⟨Nat.zero_le _,rfl,om,λx O=>by simp at O⟩ ?_
 rintro i s w' ⟨hi,rfl,hs,d3⟩;have af:=e5.ext dg;refine ρ ?_;refine ci (λZ=>?_) (λZ=>?_)
 .have li:i<perm.length:=by have:=oT Z;omega
  clear Z;have e3:=hP.ext bf;have hv:=hp.rng _ (getD_mem' 0 perm li);obtain ⟨v,ev⟩:∃ v,v=perm.getD i 0:=⟨_,rfl⟩;refine ρ ?_;refine ix i e3 li ?_;refine ρ ?_;refine ld (e3.cell (Xh li)) ?_;rw [<-ev]at hv ⊢;refine ρ ?_;refine kf 37 ?_ ?_
  .exact dF om
  refine ρ ?_;refine ld (af.at (i:=0) rfl) ?_;refine ρ ?_;refine kf 43 ?_ ?_
  .exact dF om
  refine ρ ?_;refine Kz (s:=s) (v:=v) om ?_;have dq:perm.take (i+1)=perm.take i++[v]:=by rw [Qy 0 li,ev]
  have en:v ∉ perm.take i:=λhm=>by
   have J:(perm.take (i+1)).Nodup:=hp.nd.sublist (List.take_sublist _ _);rw [dq,List.nodup_append]at J;exact J.2.2 _ hm _ (List.mem_singleton.2 rfl) rfl
  refine ρ ?_;refine cf ?_ ?_
  .rw [Ub hs];cases hb:s.testBit v with
   | false=>rfl
   | true=>exact absurd (d3 v hb) en
  have cg:=Gc (show v<32 by omega);refine ρ ?_;refine sl32 (v:=v) om ?_;refine ρ ?_;rw [Ie hs cg];refine ρ ?_;refine Jg (i+1) (s ||| 2^v) sO ⟨om,rfl,Jwq hs cg,λx O=>?_⟩ om;rw [Nat.testBit_or,Jkx,Bool.or_eq_true,decide_eq_true_eq]at O;rw [dq,List.mem_append,List.mem_singleton];rcases O with O|O
  .exact .inl (d3 x O)
  .exact .inr O.symm
 clear Z hs d3 hi;refine ρ ?_;refine ld (af.at (i:=0) rfl) ?_;refine ρ ?_;refine cf ?_ ?_
 .exact Qqg om
 refine ρ ?_;refine alc (cs:=List.replicate 32 (Value.int .i64 0)) Jgl ?_;intro w3 a8 c1 cx ce;refine ρ ?_;refine alc (cs:=List.replicate 32 (Value.int .i64 0)) Jgl ?_;intro w4 a1 ch cw e6;have cd:=ce.ext ch;have de:=(bf.trans c1).trans ch;refine ρ ?_;refine sla ?_;refine ρ ?_;refine cpb (dl:=32) (dc:=32) cd (hP.ext de) om (by simp) (λu hu=>?_) ?_
 .obtain ⟨z,_,rfl⟩:=List.mem_map.1 hu;rfl
 intro w5 cc d7;rw [Qgl om]at cc;have d6:a1≠a8:=λe=>by have:=ce.lt;omega
 have d9:Blk w5 a1 198 (Vj λ_=>0):=by
  have J:=e6.grown d7 (λe=>by injection e with e;exact d6 e);exact J
 have e4:Blk w5 b3 149 (grC A c n es):=by
  have J:=(af.ext (c1.trans ch)).grown d7 (λe=>by injection e with e;have:=af.lt;omega);exact J
 have c7:w'.heap.size<=a8:=cx;have ee:Ext w' w5:=Jvj (c1.trans ch) d7 c7;obtain ⟨ord,ak⟩:∃ ord,ord=Xj perm f:=⟨_,rfl⟩;have c3:ord.length=n:=by rw [ak];exact hp.olen
 have a3:ord.Nodup:=by rw [ak];exact hp.ond
 have b7:∀ {u},u∈ord↔u<n:=fun {u}=>by rw [ak];exact hp.omem
 have cq:∀ i,i<n->ord.getD i 0<n:=λi hi=>b7.1 (getD_mem' 0 ord (c3.symm ▸ hi));clear ce cd;refine ρ ?_;refine Jt (fun (k:Nat) (o:Nat->Nat)=>[(1,.int .i64 (f:Int)),(2,.slice PA perm.length pc),(3,.pointer (some ⟨b3,0,none⟩)),(12,.pointer (some ⟨a8,0,none⟩)),(13,.pointer (some ⟨a1,0,none⟩)),(65,.int .i64 (f:Int)),(66,.int .i64 (k:Int))])
  (λk o w6=>k<=f/\Ext w' w6/\Blk w6 b3 149 (grC A c n es)/\Blk w6 a8 198 (Vj o)/\Blk w6 a1 198 (Vj λ_=>0)/\∀ j,j<perm.length+k->o j=ord.getD j 0) (λk _=>f-k) 0 (λi=>perm.getD i 0) sB
  ⟨Nat.zero_le _,ee,e4,cc,d9,λj hj=>?_⟩ ?_
 .rw [ak];simp [Xj,List.getD,List.getElem?_append_left (show j<perm.length by omega)]
 rintro k o w6 ⟨hk,d0,bl,ah,be,ho⟩;refine ρ ?_;refine ci (λZ=>?_) (λZ=>?_)
 .have lk:k<f:=by have:=oT Z;omega
  clear Z;have d4:perm.length+k<32:=om
  refine ρ ?_;refine ixb (perm.length+k) d4 ?_;refine ρ ?_;have ev:(f:Int)-1-(k:Int)=((f-1-k:Nat):Int):=om
  rw [ev];refine sto (p:=⟨a8,perm.length+k,none⟩) (ah.cell _ |>.trans (Uq d4)) (ah.frozen _) ?_;have U:=ah.set (perm.length+k) (.int .i64 ((f-1-k:Nat):Int));rw [Jsg o d4]at U;refine ρ ?_;refine Jg (k+1) (upd o (perm.length+k) (f-1-k)) sO ⟨om,d0.setCell c7 _,bl.far (by simp only;have:=af.lt;omega) _,U,be.far (λe=>d6 e) _,λj hj=>?_⟩ om;by_cases e:j=perm.length+k
  .subst e;rw [Jf,ak];simp only [Xj,List.getD];rw [List.getElem?_append_right om,Nat.add_sub_cancel_left,List.getElem?_reverse (by simp;omega),List.length_range,List.getElem?_range om];rfl
  .rw [Jy _ _ e];exact ho j om
 have ep:k=f:=by have:=oF Z;omega
 subst ep;clear Z;have ek:perm.length+k=n:=om
 rw [ek]at ho;refine ρ ?_;refine ld (bl.at (i:=0) rfl) ?_;refine ρ ?_;refine Jt (fun (i:Nat) (q:Nat->Nat)=>[(2,.slice PA perm.length pc),(3,.pointer (some ⟨b3,0,none⟩)),(12,.pointer (some ⟨a8,0,none⟩)),(13,.pointer (some ⟨a1,0,none⟩)),(80,.int .i64 (n:Int)),(81,.int .i64 (i:Int))])
  (λi q w7=>i<=n/\Ext w' w7/\Blk w7 b3 149 (grC A c n es)/\Blk w7 a8 198 (Vj o)/\Blk w7 a1 198 (Vj q)/\∀ u,u<n->plc ord u<i->q u=plc ord u) (λi _=>n-i) 0 (λ_=>0) sB
  ⟨Nat.zero_le _,d0,bl,ah,be,λu _ hu=>om⟩ ?_
 clear d0 bl ah be;rintro i q w7 ⟨hi,bv,b8,U,a9,hq⟩;refine ρ ?_;refine ci (λZ=>?_) (λZ=>?_)
 .have li:i<n:=by have:=oT Z;omega
  clear Z;have f7:=cq i li;have el:=ho i li;refine ρ ?_;refine ixb i (show i<32 by omega) ?_;refine ρ ?_;refine ld (U.atc (Uq (show i<32 by omega))) ?_;rw [el];refine ρ ?_;refine ixb (ord.getD i 0) (show ord.getD i 0<32 by omega) ?_;refine ρ ?_;refine sto (p:=⟨a1,ord.getD i 0,none⟩) (a9.cell _ |>.trans (Uq (show ord.getD i 0<32 by omega))) (a9.frozen _) ?_;have cb:=a9.set (ord.getD i 0) (.int .i64 (i:Int));rw [Jsg q (show ord.getD i 0<32 by omega)]at cb;have c6:w'.heap.size<=a1:=nL c1.size cw;refine ρ ?_;refine Jg (i+1) (upd q (ord.getD i 0) i) sO ⟨om,bv.setCell c6 _,b8.far (by simp only;have:=af.lt;omega) _,U.far (λe=>d6 e.symm) _,cb,λu hu eo=>?_⟩ om;by_cases e:u=ord.getD i 0
  .rw [e,Jf,Iy a3 (c3.symm ▸ li)]
  .rw [Jy _ _ e];refine hq u hu ?_;have J:=Ud a3 (b7.2 hu);rcases Nat.lt_or_ge (plc ord u) i with h2|h2
   .exact h2
   .have:plc ord u=i:=om
    rw [this]at J;exact absurd J.2.symm e
 have et:i=n:=by have:=oF Z;omega
 subst et;clear Z;have dm:∀ u,u<i->q u=plc ord u:=λu hu=>hq u hu (by have:=(Ud a3 (b7.2 hu)).1;omega);have c0:=bf.trans bv;refine ρ ?_;refine lds (cs:=grC A c i es) (λj u hu=>b8.at hu) ?_;refine ρ ?_;refine cl (Qhx (h.ext c0)) ?_;rintro u w8 ⟨df,a0,rfl,e2⟩;refine ρ ?_;refine alc (cs:=Xw λ_=>0) Jxm ?_;intro w9 a4 ed cv b9;refine ρ ?_;refine sta (cs':=Xw a0) b9 ?_ (Jbn a0) (by rw [Vn,Vn]) (Vn a0).symm;intro bu b9 ey dj;have cz:Ext w8 bu:=dj w8 ed cv;have ae:=df.trans cz;have bd:=b8.ext ae;refine ρ ?_;refine ld (bd.at (i:=0) rfl) ?_;refine ρ ?_;refine mkn EBg i om (by unfold maxLen;omega) ?_;intro f2 B bg au _;rw [made3]at au;have ad:=ae.trans bg;have bc:=bd.ext bg;have br:=U.ext ad;have bp:=a9.ext ad;have bo:=b9.ext bg;have ec:=c0.trans ad;refine ρ ?_;refine ld (bc.at (i:=0) rfl) ?_;have eb:w'.heap.size<=a8:=cx;have f4:a1<w7.heap.size:=a9.lt;have f5:a8<w7.heap.size:=U.lt
 have l3:b3<w7.heap.size:=b8.lt;have f3:w7.heap.size<=a4:=nL df.size cv;have dd:a4<bu.heap.size:=b9.lt;have c6:w'.heap.size<=a1:=nL c1.size cw;have e7:Qf i (λ_=>[Value.int .i64 0,.int .u32 0,.int .i64 0])=Qf i (Ym ord (λ_=>0) (λ_=>0) 0):=Jvm λv _=>by simp [Ym]
 have dx:∀ e∈es,e<2^i:=h.lt;rw [e7]at au;refine ρ ?_;refine Jjg (fun (j:Nat) (a:Nat->Nat) (kf:Nat->Nat) (pf:Nat->Int)=>[(3,.pointer (some ⟨b3,0,none⟩)),(12,.pointer (some ⟨a8,0,none⟩)),(13,.pointer (some ⟨a1,0,none⟩)),(16,.pointer (some ⟨a4,0,none⟩)),(17,.slice B i i),(96,.int .i64 (i:Int)),(97,.int .i64 (j:Int))])
  (λj a kf pf aa=>j<=i/\Ext w' aa/\w7.heap.size<=aa.heap.size/\bu.heap.size<=aa.heap.size/\Blk aa b3 149 (grC A c i es)/\Blk aa a8 198 (Vj o)/\Blk aa a1 198 (Vj q)/\Blk aa a4 199 (Xw a)/\aa.ownsRow bu.heap.size 187 3 (.slice B i i) i (Qf i (Ym ord kf pf j)) /\
   (∀ u,u<32->a u<4294967296)/\(∀ u,u<i->∀ x,(a u).testBit x=Vb (nb0 i es) (ord.take j) u x)/\∀ v,v<i->plc ord v<j->BagAt i es ord v (kf v) (pf v)) (λj _ _ _=>i-j) 0 a0 (λ_=>0) (λ_=>0) sB
  ⟨Nat.zero_le _,bv.trans ad,ad.size,bg.size,bc,br,bp,bo,au,λu hu=>(e2 u hu).1,λu hu x=>?_,λv _ hv=>om⟩ ?_
 .rw [(e2 u om).2];rfl
 clear bc br bp bo au bd b8 U a9 e7 b9 af;rintro j a kf pf aa ⟨hj,b4,ej,ea,c8,bq,ax,bn,ar,cy,bz,dz⟩;refine ρ ?_;refine ci (λZ=>?_) (λZ=>?_)
 .have lj:j<i:=by have:=oT Z;omega
  clear Z;have cn:j<32:=om
  obtain ⟨v,ev⟩:∃ v,v=ord.getD j 0:=⟨_,rfl⟩;have b5:v<i:=by rw [ev];exact cq j lj
  have b6:v<32:=om
  have d1:v∈ord:=b7.2 b5;have dn:pre ord v=ord.take j:=by rw [ev];exact Jch a3 (c3.symm ▸ lj)
  have ew:plc ord v=j:=by rw [ev];exact Iy a3 (c3.symm ▸ lj)
  obtain ⟨G,bs⟩:∃ G,G=Vb (nb0 i es) (ord.take j):=⟨_,rfl⟩;have am:∀ x,Zp (nb0 i es) ord v x=G v x:=λx=>by rw [Zp,dn,bs]
  have dv:NbInv (ord.take j) G:=by rw [bs];exact (Jpw dx).at (a3.sublist (List.take_sublist _ _))
  have d2:v ∉ ord.take j:=by rw [<-dn];exact (Jwb d1).choose_spec.2
  have f8:∀ x,G v x=true->x≠v:=λx O=>(dv.gone v x d2 O).2;have du:∀ x,G v x=true->x<i:=λx O=>by rw [<-am]at O;exact Jvc (λu x h=>(Jqg dx h).2.1) O
  rw [<-bs]at bz;have c4:=cy v b6;refine ρ ?_;refine ixb j cn ?_;refine ρ ?_;refine ld (bq.atc (Uq cn)) ?_;rw [ho j lj,<-ev];refine ρ ?_;refine ixb v b6 ?_;refine ρ ?_;refine ld (bn.atc (Un b6)) ?_;refine ρ ?_;refine bld (Qnt _ _ _) ?_;refine ρ ?_;refine alc zBag ?_;intro f0 ay di e0 c9;refine ρ ?_;refine stW c9 ?_;intro db c9 ex dh;have C:Ext aa db:=dh aa di e0;have d8:=c8.ext C;refine ρ ?_;refine ld (d8.at (i:=0) rfl) ?_;refine ρ ?_;refine Xr (fun (u:Nat) (a':Nat->Nat) (par:Int)=>[(3,.pointer (some ⟨b3,0,none⟩)),(12,.pointer (some ⟨a8,0,none⟩)),(13,.pointer (some ⟨a1,0,none⟩)),(16,.pointer (some ⟨a4,0,none⟩)),(17,.slice B i i),(96,.int .i64 (i:Int)),(97,.int .i64 (j:Int)),(19,.int .i64 (v:Int)),(20,.pointer (some ⟨ay,0,none⟩)),(109,.int .i64 (i:Int)),(110,.int .i64 (u:Int))])
   (λu a' par a5=>u<=i/\GrN (λk=>k=a4∨k=ay) db a5/\Blk a5 a4 199 (Xw a')/\Blk a5 ay 187 [.int .i64 (v:Int),.int .u32 (a v:Int),.int .i64 par] /\
    (∀ x,x<32->a' x<4294967296)/\(∀ x,x<i->∀ y,(a' x).testBit y=if x<u then Um v G x y else G x y) /\
    ((par = -1/\∀ x,x<u->G v x=false)∨∃ p:Nat,par=p/\p<u/\G v p=true/\∀ x,x<u->G v x=true->plc ord p<=plc ord x)) (λu _ _=>i-u) 0 a (-1) sB
   ⟨Nat.zero_le _,GrN.refl _ _,bn.ext C,c9,cy,λx O y=>by rw [if_neg om];exact bz x O y,.inl ⟨rfl,λx O=>om⟩⟩ ?_
  rintro u a' par a5 ⟨hu,a6,aw,a7,ap,bj,aj⟩;refine ρ ?_;refine ci (λZ=>?_) (λZ=>?_)
  .have lu:u<i:=by have:=oT Z;omega
   clear Z;have a2:u<32:=om
   refine ρ ?_;refine ld (a7.at (i:=1) rfl) ?_;refine ρ ?_;refine Kz (s:=a v) (v:=u) om ?_;refine ρ ?_;refine ci (λZ=>?_) (λZ=>?_)
   .rw [Qqp c4,bz v b5]at Z;have bw:G v u=false:=by simpa using Z
    refine ρ ?_;refine Qa (u+1) a' par sO ⟨om,a6,aw,a7,ap,λx O y=>?_,?_⟩ om
    .rw [bj x O];by_cases e:x=u
     .subst e;rw [if_neg om,if_pos om,Um,if_neg (by rw [bw];simp)]
     .by_cases J:x<u
      .rw [if_pos J,if_pos om]
      .rw [if_neg J,if_neg om]
    .rcases aj with ⟨J,h2⟩|⟨p,J,h2,h3,h4⟩
     .refine .inl ⟨J,λx O=>?_⟩;by_cases e:x=u
      .rw [e];exact bw
      .exact h2 x om
     .refine .inr ⟨p,J,om,h3,λx O ao=>?_⟩;by_cases e:x=u
      .rw [e,bw]at ao;cases ao
      .exact h4 x om ao
   .rw [Qqp c4,bz v b5]at Z;have bw:G v u=true:=by simpa using Z
    have co:Ext w' a5:=a6.old (b4.trans C) (λk hk=>by
     rcases hk with rfl|rfl
     .have:=bv.size;omega
     .have:=b4.size;omega)
    have cm:Blk a5 a1 198 (Vj q):=Jd (ax.ext C) a6 (by
     rintro (h|h)
     .omega
     .have:=ax.lt;omega)
    refine ρ ?_;refine Xa (fun (t:Bool)=>[(3,.pointer (some ⟨b3,0,none⟩)),(12,.pointer (some ⟨a8,0,none⟩)),(13,.pointer (some ⟨a1,0,none⟩)),(16,.pointer (some ⟨a4,0,none⟩)),(17,.slice B i i),(96,.int .i64 (i:Int)),(97,.int .i64 (j:Int)),(19,.int .i64 (v:Int)),(20,.pointer (some ⟨ay,0,none⟩)),(109,.int .i64 (i:Int)),(110,.int .i64 (u:Int)),(21,.int .i64 (u:Int)),(131,.bool t)])
     (λt bt=>Ext a5 bt/\(t=true->par = -1∨∃ p:Nat,par=p/\plc ord u<plc ord p)/\(t=false->∃ p:Nat,par=p/\plc ord p<=plc ord u)) ?_ ?_
    .have b1:Ext a5 a5.drew:=(Ext.refl a5).drew;have ag:=a7.ext b1;have ca:=cm.ext b1;refine dr [(0,0),(0,1),(0,2),(0,3),(0,4),(0,5),(0,6),(0,7),(0,8),(0,9),(0,10),(0,11),(0,12)] kr ?_;refine ρd ?_;refine dld (ag.at (i:=2) rfl) ?_;refine ρd ?_;refine dki 122 (λJ=>?_) (λJ=>?_)
     .have h2:par<0:=oT J;have h3:par = -1:=by
       rcases aj with ⟨h4,_⟩|⟨p,h4,_⟩
       .exact h4
       .omega
      refine ρd ?_;refine ρ ?_;exact Jb true sB ⟨b1,λ_=>.inl h3,λe=>by cases e⟩
     .have h2:¬ par<0:=oF J;obtain ⟨p,h4,h5,h6,h7⟩:∃ p:Nat,par=p/\p<u/\G v p=true/\∀ x,x<u->G v x=true->plc ord p<=plc ord x:=by
       rcases aj with ⟨h4,_⟩|h4
       .omega
       .exact h4
      subst h4;refine ρd ?_;refine dixb u a2 ?_;refine ρd ?_;refine dld (ca.atc (Uq a2)) ?_;refine ρd ?_;refine dld (ag.at (i:=2) rfl) ?_;refine ρd ?_;refine dixb p (show p<32 by omega) ?_;refine ρd ?_;refine dld (ca.atc (Uq (show p<32 by omega))) ?_;rw [dm u lu,dm p om];refine ρd ?_;refine ρ ?_;refine Jb _ sB ⟨b1,λe=>.inr ⟨p,rfl,?_⟩,λe=>⟨p,rfl,?_⟩⟩
      .have:=oT e;omega
      .have:=oF e;omega
    rintro t bt ⟨b2,ei,eh⟩;have ac:=a7.ext b2;refine ρ ?_;refine Xa (fun (ai:Int)=>[(3,.pointer (some ⟨b3,0,none⟩)),(12,.pointer (some ⟨a8,0,none⟩)),(13,.pointer (some ⟨a1,0,none⟩)),(16,.pointer (some ⟨a4,0,none⟩)),(17,.slice B i i),(96,.int .i64 (i:Int)),(97,.int .i64 (j:Int)),(19,.int .i64 (v:Int)),(20,.pointer (some ⟨ay,0,none⟩)),(109,.int .i64 (i:Int)),(110,.int .i64 (u:Int)),(21,.int .i64 (u:Int))])
     (λai an=>GrN (λk=>k=ay) bt an/\Blk an ay 187 [.int .i64 (v:Int),.int .u32 (a v:Int),.int .i64 ai]/\((ai = -1/\∀ x,x<u+1->G v x=false)∨∃ p:Nat,ai=p/\p<u+1/\G v p=true/\∀ x,x<u+1->G v x=true->plc ord p<=plc ord x)) ?_ ?_
    .refine ci (λht=>?_) (λht=>?_)
     .refine ρ ?_;refine sto (p:=⟨ay,2,none⟩) (ac.cell 2) (ac.frozen _) ?_;refine ρ ?_;refine Jb (u:Int) sB ⟨GrN.set _ rfl,ac.set 2 _,.inr ⟨u,rfl,Nat.lt_succ_self u,bw,λx O ao=>?_⟩⟩;by_cases e:x=u
      .rw [e];exact Nat.le_refl _
      .rcases aj with ⟨_,h2⟩|⟨p,J,h2,h3,h4⟩
       .rw [h2 x om]at ao;cases ao
       .have h5:=h4 x om ao;rcases ei ht with h6|⟨p',h6,h7⟩
        .omega
        .have:p=p':=om
         subst this;omega
     .obtain ⟨p',h6,h7⟩:=eh ht;refine ρ ?_;refine Jb par sB ⟨GrN.refl _ _,ac,.inr ?_⟩;rcases aj with ⟨J,h2⟩|⟨p,J,h2,h3,h4⟩
      .omega
      .have:p=p':=om
       subst this;refine ⟨p,J,om,h3,λx O ao=>?_⟩;by_cases e:x=u
       .rw [e];exact h7
       .exact h4 x om ao
    rintro ai an ⟨cr,cj,d5⟩;have bi:a4≠ay:=om
    have ck:Blk an a4 199 (Xw a'):=Jd (aw.ext b2) cr bi;have b1:Ext an an.drew:=(Ext.refl an).drew;have av:=ck.ext b1;have ag:=cj.ext b1;have e1:=ap u a2;have e8:=Gc a2;have cg:=Gc b6;refine ρ ?_;refine drN (λ_=>False) 15 [(0,0),(0,1),(0,2),(0,3),(0,4),(0,5),(0,6),(0,7),(0,8),(0,9),(0,10),(0,11),(0,12),(0,13),(2,14)] kr ?_;refine ρn ?_;refine nixb u a2 ?_;refine ρn ?_;refine nld (Jm (av.atc (Un a2)) (λe=>e)) ?_;refine ρn ?_;refine nld (Jm (ag.at (i:=1) rfl) (λe=>e)) ?_;refine ρn ?_;refine Jcm a2 ?_;refine ρn ?_;refine Jcm b6 ?_;refine ρn ?_;refine nixb u a2 ?_;refine ρn ?_;refine Xv ?_;have c2:=Jwq e1 c4;have cp:=Jwq e8 cg;obtain ⟨nw,da⟩:∃ nw,nw=Gj (a' u ||| a v) (2^u ||| 2^v):=⟨_,rfl⟩;have em:nw<4294967296:=by rw [da];exact Qxj c2
    have e9:bits .andNot .u32 (bits .or .u32 (a' u:Int) (a v:Int)) (bits .or .u32 ((2^u:Nat):Int) ((2^v:Nat):Int))=(nw:Int):=by
     rw [Ie e1 c4,Ie e8 cg,Jfr c2 cp,da]
    refine sto (p:=⟨a4,u,none⟩) (av.cell u |>.trans (Un a2)) (av.frozen _) ?_;rw [e9];have bm:=av.set u (.int .u32 (nw:Int));rw [Jbm a' a2]at bm;have dw:GrN (λk=>k=a4) an.drew (an.drew.setCell ⟨a4,u,none⟩ (.int .u32 (nw:Int))):=GrN.set _ rfl;refine ω5 ?_;refine Us ?_;refine ρn ?_;refine ρ ?_;refine Qa (u+1) (upd a' u nw) ai sO ⟨om,?_,bm,ag.far (λe=>bi e.symm) _,λx O=>?_,λx O y=>?_,d5⟩ om
    .exact ((a6.trans (GrN.ext b2)).trans (cr.mono λk _ hk=>.inr hk)).trans ((GrN.ext b1).trans (dw.mono λk _ hk=>.inl hk))
    .by_cases e:x=u
     .rw [e,Jf];exact em
     .rw [Jy _ _ e];exact ap x O
    .by_cases e:x=u
     .subst e;rw [Jf,if_pos (Nat.lt_succ_self x),da,Jgd c2 cp,Nat.testBit_or,Nat.testBit_or,Jkx,Jkx,bj x O,if_neg (Nat.lt_irrefl x),bz v b5,Um,if_pos bw];rw [Jtm x y,Jtm v y];cases G x y<;>cases G v y<;>cases (y != x)<;>cases (y != v)<;>rfl
     .rw [Jy _ _ e,bj x O];by_cases J:x<u
      .rw [if_pos J,if_pos om]
      .rw [if_neg J,if_neg om]
  .have ef:u=i:=by have:=oF Z;omega
   subst ef;clear Z;have co:Ext w' a5:=a6.old (b4.trans C) (λk hk=>by
    rcases hk with rfl|rfl
    .have:=bv.size;omega
    .have:=b4.size;omega)
   have ba:∀ {g t:Nat} {cs:List Value},Blk aa g t cs->g≠a4->Blk a5 g t cs:=λhB J=>Jd (hB.ext C) a6 (by
    rintro (h|h)
    .exact J h
    .have:=hB.lt;omega)
   have aq:a5.ownsRow bu.heap.size 187 3 (.slice B u u) u (Qf u (Ym ord kf pf j)):=Jr (Jk ar C) a6 (λg eg hk=>by
    obtain ⟨_,_,_,_,c5⟩:=Jv ar;have h5:=c5 g eg;rcases hk with rfl|rfl<;>omega)
   refine ρ ?_;refine ldW a7 ?_;refine ρ ?_;refine ixq 3 v (Rd.own aq) b5 ?_;refine ρ ?_;refine stoE (cs:=[.int .i64 (v:Int),.int .u32 (a v:Int),.int .i64 par]) aq b5 ?_ Jzd;intro bt bb bh;rw [Qhj (λv _=>Qpm ord kf pf j v) b5 rfl]at bb;have eg:Qf u (upd (Ym ord kf pf j) v [.int .i64 (v:Int),.int .u32 (a v:Int),.int .i64 par])=Qf u (Ym ord (upd kf v (a v)) (upd pf v par) (j+1)):=by
    refine Jvm λx O=>?_;by_cases e:x=v
    .subst e;rw [Jf,Ym,if_pos om];simp only [Qb,Jf]
    .rw [Jy _ _ e];have dt:plc ord x≠j:=λe'=>by
      have J:=(Ud a3 (b7.2 O)).2;rw [e',<-ev]at J;exact e J.symm
     unfold Ym;by_cases J:plc ord x<j
     .rw [if_pos J,if_pos om];simp only [Qb,Jy _ _ e]
     .rw [if_neg J,if_neg om]
   rw [eg]at bb;have ab:∀ {g t:Nat} {cs:List Value},Blk a5 g t cs->g<bu.heap.size->Blk bt g t cs:=λhB J=>hB.grown bh (λe=>by
    obtain ⟨_,_,_,_,c5⟩:=Jv aq;have h5:=c5 _ e.symm;omega)
   have b2:Ext w' bt:=Qv co bh (λg eg=>by
    obtain ⟨_,_,_,_,c5⟩:=Jv aq;have h5:=c5 g eg;have:=bv.size;have:=ae.size;omega)
   have ez:=ae.size;refine ρ ?_;refine Gy (j+1) a' (upd kf v (a v)) (upd pf v par) sO ⟨om,b2,by have:=C.size;have:=a6.size;have:=bh.size;omega,by have:=C.size;have:=a6.size;have:=bh.size;omega,ab (ba c8 om) om,ab (ba bq om) om,ab (ba ax om) om,ab aw dd,bb,ap,λx O y=>?_,λx O eo=>?_⟩ om
   .rw [bj x O,if_pos O,Qy 0 (c3.symm ▸ lj),<-ev,Jpv,<-bs];rfl
   .by_cases e:x=v
    .subst e;rw [Jf,Jf];refine ⟨c4,λy=>by rw [bz x b5,am],?_⟩;rcases aj with ⟨J,h2⟩|⟨p,J,h2,h3,h4⟩
     .refine .inl ⟨J,λy=>?_⟩;rw [am];cases hb:G x y with
      | false=>rfl
      | true=>exact absurd (h2 y (du y hb)) (by rw [hb];simp)
     .exact .inr ⟨p,J,by rw [am];exact h3,λy hy=>h4 y (du y (by rw [<-am];exact hy)) (by rw [<-am];exact hy)⟩
    .rw [Jy _ _ e,Jy _ _ e];refine dz x O ?_;have dt:plc ord x≠j:=λe'=>by
      have J:=(Ud a3 (b7.2 O)).2;rw [e',<-ev]at J;exact e J.symm
     omega
 .have er:j=i:=by have:=oF Z;omega
  subst er;clear Z;refine ρ ?_;refine Ve ⟨bf.trans b4,B,kf,pf,rfl,?_,λv hv=>?_⟩
  .have e:Qf j (Ym ord kf pf j)=Qf j (Qb kf pf):=Jvm λv hv=>by
    have:=(Ud a3 (b7.2 hv)).1;rw [Ym,if_pos om]
   rw [e]at ar;exact Jwp ar (by have:=c0.size;have:=ae.size;omega)
  .have:=dz v hv (by have:=(Ud a3 (b7.2 hv)).1;omega);rw [<-ak];exact this
open Go.RowKit Pl Go.Wk
theorem Qht{kf:Nat->Nat}{pf:Nat->Int}{v:Nat}(hv:v<32)(hk:kf v<4294967296)(w:World): Ret Tryz.prog 129 [.agg (Qb kf pf v).toArray] w λu w'=>u=.int .u32 ((kf v ||| 2^v:Nat):Int)/\Ext w w':=by
 refine Jz Tryz.func129 Tryz.ntmps129 rfl kr rfl ?_;refine ρ ?_;refine bx (cs:=Qb kf pf v) ?_;intro G b J U O;refine ρ ?_;refine ld (O.at (i:=0) rfl) ?_;refine ρ ?_;refine ld (O.at (i:=0) rfl) ?_;refine ρ ?_;refine cf ?_ ?_
 .exact dF om
 have o:Ext G G.drew:=(Ext.refl G).drew;have C:=O.ext o;refine ρ ?_;refine dr [(0,0),(0,1),(0,2),(0,3),(0,4),(0,5),(0,6)] kr ?_;refine ρd ?_;refine dld (C.at (i:=1) rfl) ?_;refine ρd ?_;refine dld (C.at (i:=0) rfl) ?_;refine ρd ?_;refine dsl32 hv ?_;refine ρd ?_;refine ρ ?_;refine Jj ⟨?_,J.trans o⟩;rw [Ie hk (Gc hv)]
def Jyf(n m:Nat)(vars:Nat->List Nat)(rs:Nat->List Row)(s:Nat)(l:List Row): Prop:=Lt [] l/\(∀ x,x∈l↔∃ z:Row,z.length=n/\x=pmR (bk s 32) z/\Ge m vars rs s z)/\l.length<=65536
def Vx(s:Nat)(l:List Row): Atm:=⟨nz (bk s 32),(bk s 32).length,l⟩
theorem Qpj{w:World}{n:Nat}{ts:List TA}{Aa B:Option Addr}{ca cb:Nat}{vars:Nat->List Nat}{rs:Nat->List Row}{kf:Nat->Nat}{pf:Nat->Int}(hn32:n<=32)(hok:∀ v,v<n->MOk n ts vars rs (kf v ||| 2^v))(hR:Rd w 3 Aa ts.length (atC ts))(hle:ts.length<=ca)(hat:∀ p∈ts,AtV w p.1 p.2)(hB:Rd w 3 B n (Qf n (Qb kf pf)))(hk:∀ v,v<n->kf v<4294967296)(hcap:∀ v,v<n->∀ l:List Row,Lt [] l->(∀ x∈l,∃ z:Row,z.length=n/\x=pmR (bk (kf v ||| 2^v) 32) z/\Ge ts.length vars rs (kf v ||| 2^v) z)->l.length<=65536):
  Ret Tryz.prog 81 [.int .i64 (n:Int),.slice B n cb,.slice Aa ts.length ca] w λu w'=>Ext w w'/\∃ (va:Value) (st:Int) (R:Nat->List Row),u=.tuple #[va,.int .i64 st,.int .i64 0] /\
   Off (λk=>k<w.heap.size) w' (λx=>GV 3 AtG x va ((List.range n).map λv=>Vx (kf v ||| 2^v) (R v)))/\∀ v,v<n->Jyf n ts.length vars rs (kf v ||| 2^v) (R v):=by
 refine Jz Tryz.func81 Tryz.ntmps81 rfl kr rfl ?_;refine ρ ?_;refine Jjg (fun (v:Nat) (va:Value) (st:Int) (R:Nat->List Row)=>[(0,.int .i64 (n:Int)),(2,.slice Aa ts.length ca),(9,va),(10,.int .i64 st),(16,.slice B n cb),(17,.int .i64 (n:Int)),(18,.int .i64 (v:Int))])
  (λv va st R w'=>v<=n/\Ext w w'/\OwnG 99 3 AtG w' w.heap.size va ((List.range v).map λu=>Vx (kf u ||| 2^u) (R u))/\∀ u,u<v->Jyf n ts.length vars rs (kf u ||| 2^u) (R u)) (λv _ _ _=>n-v) 0 (.slice none 0 0) 0 (λ_=>[]) sB
  ⟨Nat.zero_le _,Ext.refl _,OwnG.nil _ _,λu hu=>om⟩ ?_
 rintro v va st R w1 ⟨hv,J,a6,ae⟩;refine ρ ?_;refine ci (λhc=>?_) (λhc=>?_)
 .have lv:v<n:=by have:=oT hc;omega
  clear hc;have ag:=hB.ext J;have a5:∀ j u,(Qb kf pf v)[j]?=some u->w1.cell? ((adr B (v*3)).add j)=some u:=λj u hu=>by
   have hj:j<3:=by
    rcases Nat.lt_or_ge j 3 with h'|h'
    .exact h'
    .rw [List.getElem?_eq_none (by simp [Qb];omega)]at hu;cases hu
   rw [Xb];exact ag.cell ((Ip (sz:=3) (λ_ _=>rfl) lv hj).trans hu)
  refine ρ ?_;refine ixq 3 v ag lv ?_;refine ρ ?_;refine lds (cs:=Qb kf pf v) a5 ?_;refine ρ ?_;refine alc zBag ?_;intro w2 bf av ad U;refine ρ ?_;refine stb (cs':=Qb kf pf v) U ?_ Jzd;intro w3 U bc au;have a9:Ext w1 w3:=au w1 av ad;refine ρ ?_;refine lds (cs:=Qb kf pf v) (λj u hu=>U.at hu) ?_;refine ρ ?_;refine cl (Qht om (hk v lv) w3) ?_;rintro u w4 ⟨rfl,ar⟩;have G:=a9.trans ar;have o:=J.trans G;refine ρ ?_;refine cl (Qdt (hok v lv) (hR.ext o) hle (λp hp=>(hat p hp).ext o) (hcap v lv)) ?_;rintro u w5 ⟨aq,⟨p1,p2,p3⟩,am,l,rfl,a2,ax,ab,ay⟩;have b5:=a2.here;obtain ⟨⟨PA,pc,aj,b9,b7,b6⟩,ai,Z⟩:=id b5;simp only at aj ai;obtain ⟨a7,PG,a4,_,ah,_⟩:=id Z;simp only at ah;subst aj;subst ai;subst ah;refine ρ ?_;refine alc Vl ?_;intro w6 be ap ac O;refine ρ ?_;refine stb (cs':=[.slice PA (nz (bk (kf v ||| 2^v) 32)).length pc,.int .i64 ((bk (kf v ||| 2^v) 32).length:Int),.slice PG a7.length a4]) O ?_ (Kk rfl)
  intro w7 O bb ao;have a1:Ext w5 w7:=ao w5 ap ac;refine ρ ?_;refine ldW O ?_;refine ρ ?_;refine bsl (Jfq _ _ _ PA PG _ pc _ a4 _ rfl rfl rfl) ?_;intro w8 b8 a8 bd b4;have C:=((G.trans aq).trans a1).trans a8;obtain ⟨_,_,_,_,af⟩:=a6.form;have hΦ:Off (Qn w.heap.size va) w8 (λu=>AtG u [.slice PA (nz (bk (kf v ||| 2^v) 32)).length pc,.int .i64 ((bk (kf v ||| 2^v) 32).length:Int),.slice PG a7.length a4] (Vx (kf v ||| 2^v) l)):=by
   refine ((a2.imp λu h=>⟨_,rfl,h⟩).mono λk _ b1=>?_).ext (a1.trans a8);rcases b1 with h'|h'
   .exact nM h' o.size
   .exact nM (af k h').2 G.size
  refine ρ ?_;refine apG EA (Φ:=AtG) (a6.ext C) b4 rfl (Kk rfl) hΦ (by simp;omega) om (J.trans C).size ?_;intro ak w9 b3 b2 ba;have an:Ext w w9:=Qv (J.trans C) b2 (λg eg=>(af g eg).1);obtain ⟨a3,aa⟩:∃ a3:Int,a3=IntKind.i64.wrap (st+am):=⟨_,rfl⟩;refine ρ ?_;rw [<-aa];refine ρ ?_;refine Gy (v+1) ak a3 (upd R v l) sO ⟨om,an,?_,λu hu=>?_⟩ om
  .rw [List.range_succ,List.map_append,List.map_singleton,Jf];have e:(List.range v).map (λu=>Vx (kf u ||| 2^u) (upd R v l u))=(List.range v).map (λu=>Vx (kf u ||| 2^u) (R u)):=by
    refine List.map_congr_left λj hj=>?_;have:=List.mem_range.1 hj;rw [Jy _ _ om]
   rw [e];exact b3
  .by_cases e:u=v
   .subst e;rw [Jf];exact ⟨ax,ab,ay⟩
   .rw [Jy _ _ e];exact ae u om
 .have aw:v=n:=by have:=oF hc;omega
  subst aw;clear hc;refine ρ ?_;exact Ux ⟨J,va,st,R,rfl,a6.off (by simp;omega),ae⟩
end Go.Proofs.YtebcagekopgdhaaGreatDoor
