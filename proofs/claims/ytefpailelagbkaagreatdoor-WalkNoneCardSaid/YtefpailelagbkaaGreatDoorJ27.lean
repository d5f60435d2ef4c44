/- Part 27 of the proof: El2, All. -/
import Derived.Test.YtefpailelagbkaaGreatDoorJ26
set_option linter.unusedVariables false
set_option maxRecDepth 100000
set_option maxHeartbeats 40000000
namespace Go.Proofs.YtefpailelagbkaaGreatDoor
open Go.RowKit Pl Go.Wk
attribute [local irreducible] WC WL QX WD WDB WP WN WG
def Qqm(o:Nat->Nat): List Value:=(List.range 32).map λi=>.int .i64 (o i:Int)
theorem Qwr(o:Nat->Nat): (Qqm o).length=32:=by simp [Qqm]
theorem Jzm{o:Nat->Nat}{v:Nat}(h:v<32): (Qqm o)[v]?=some (.int .i64 (o v:Int)):=by simp [Qqm,h]
theorem Qwq(o:Nat->Nat){v x:Nat}(h:v<32): (Qqm o).set v (.int .i64 (x:Int))=Qqm (upd o v x):=by
 apply List.ext_getElem?
 intro i;rw [List.getElem?_set];by_cases e:v=i
 ·subst e;rw [if_pos rfl,if_pos (by rw [Qwr];exact h),Jzm h,Jjl]
 ·rw [if_neg e];by_cases hi:i<32
  ·rw [Jzm hi,Jzm hi,Jjj _ _ (λj=>e j.symm)]
  ·simp [Qqm,hi]
theorem Qgv{perm:List Nat}(h:perm.length<=32): Jkg (nz perm)++(List.replicate 32 (Value.int .i64 0)).drop perm.length=Qqm λi=>perm.getD i 0:=by
 have j:(Jkg (nz perm)).length=perm.length:=by simp [Jkg,nz]
 apply List.ext_getElem?
 intro i;by_cases hi:i<perm.length
 ·rw [List.getElem?_append_left (by omega),Jzc hi,Jzm (by omega)]
 ·rw [List.getElem?_append_right (by omega),j,List.getElem?_drop];by_cases h3:i<32
  ·rw [Jzm h3];have:perm.getD i 0=0:=by simp [List.getD,List.getElem?_eq_none (Nat.le_of_not_lt hi)]
   rw [this];have e:perm.length+(i-perm.length)=i:=by omega
   rw [e,List.getElem?_replicate,if_pos h3];rfl
  ·rw [List.getElem?_eq_none (by simp;omega),List.getElem?_eq_none (by rw [Qwr];omega)]
def Jvt(kf:Nat->Nat)(pf:Nat->Int)(v:Nat): List Value:=[.int .i64 (v:Int),.int .u32 (kf v:Int),.int .i64 (pf v)]
def Qmg(n:Nat)(es ord:List Nat)(kf:Nat->Nat)(pf:Nat->Int): Prop:=∀ v,v<n->kf v<4294967296/\(∀ x,(kf v).testBit x=Jss (nb0 n es) ord v x) /\
 ((pf v = -1/\∀ x,Jss (nb0 n es) ord v x=false)∨∃ p:Nat,pf v=p/\Jss (nb0 n es) ord v p=true/\∀ x,Jss (nb0 n es) ord v x=true->plc ord p<=plc ord x)
theorem EBg: ElT Tryz.prog 28 195 3 24 (.agg #[.int .i64 0,.int .u32 0,.int .i64 0]):=⟨Tryz.underlying28,info_parts (by kernel_rfl),rfl,by decide⟩
theorem zBag: Jxd Tryz.prog 195=some (.agg #[.int .i64 0,.int .u32 0,.int .i64 0]):=by kernel_rfl
theorem Xvz(v k:Int)(w:World): (Instr.build 195 #[(0,.int .i64 v),(1,.int .u32 k),(2,.int .i64 (-1))]).run Tryz.prog w=.ok (.agg #[.int .i64 v,.int .u32 k,.int .i64 (-1)]) w:=by kernel_rfl
theorem Jlf{a b c:Int}: ∀ u∈[Value.int .i64 a,.int .u32 b,.int .i64 c],u.oneCell'=true:=λu i=>by
 simp only [List.mem_cons,List.not_mem_nil,or_false]at i;rcases i with rfl|rfl|rfl<;>rfl
theorem Qgl{zs:List Value}(h:0<zs.length)(n:Nat): (madeCells zs.toArray (n*zs.length)).toList=Jxn n λ_=>zs:=by
 apply List.ext_getElem?
 intro k;by_cases hk:k<n*zs.length
 ·have o:k / zs.length<n:=Nat.div_lt_of_lt_mul (by rw [Nat.mul_comm];exact hk);have i:=Nat.mod_lt k h;have j:=Jwd (n:=n) (sz:=zs.length) (f:=λ_=>zs) (λ_ _=>rfl) o i;rw [Nat.div_add_mod' k zs.length]at j;rw [j];simp only [madeCells,Array.getElem?_toList,Array.getElem?_map,Array.getElem?_range,hk,if_true,Option.map_some];simp [i]
 ·have u:=Jym (n:=n) (sz:=zs.length) (f:=λ_=>zs) (λ_ _=>rfl);rw [List.getElem?_eq_none (by simp [madeCells];omega),List.getElem?_eq_none (by omega)]
theorem made3(n:Nat): (madeCells (Value.agg #[.int .i64 0,.int .u32 0,.int .i64 0]).cells (n*3)).toList=Jxn n λ_=>[.int .i64 0,.int .u32 0,.int .i64 0]:=Qgl (zs:=[.int .i64 0,.int .u32 0,.int .i64 0]) (by simp) n
def Qcw(ord:List Nat)(kf:Nat->Nat)(pf:Nat->Int)(j v:Nat): List Value:=if plc ord v<j then Jvt kf pf v else [.int .i64 0,.int .u32 0,.int .i64 0]
theorem Qrb(ord:List Nat)(kf:Nat->Nat)(pf:Nat->Int)(j v:Nat): (Qcw ord kf pf j v).length=3:=by unfold Qcw;split<;>rfl
def BagAt(n:Nat)(es ord:List Nat)(v k:Nat)(p:Int): Prop:=k<4294967296/\(∀ x,k.testBit x=Jss (nb0 n es) ord v x) /\
 ((p = -1/\∀ x,Jss (nb0 n es) ord v x=false)∨∃ q:Nat,p=q/\Jss (nb0 n es) ord v q=true/\∀ x,Jss (nb0 n es) ord v x=true->plc ord q<=plc ord x)
theorem Qsq(x y:Nat): decide (x=y) = !(y != x):=by
 by_cases h:x=y
 ·subst h;simp
 ·rw [decide_eq_false h,bne_iff_ne.2 (λe=>h e.symm)];rfl
theorem Qbx{w:World}{A PA:Option Addr}{c pc n f:Nat}{es perm:List Nat}(h:GrV w A c n es)(hp:PermOk n f perm)(hP:Rd w 1 PA perm.length (Jkg (nz perm))):
  Ret Tryz.prog 80 [.agg (grC A c n es).toArray,.int .i64 (f:Int),.slice PA perm.length pc] w λu w'=>Ext w w'/\∃ B kf pf,u=.tuple #[.slice B n n,.int .i64 0]/\w'.ownsRow w.heap.size 195 3 (.slice B n n) n (Jxn n (Jvt kf pf))/\Qmg n es (Jzl perm f) kf pf:=by
 have hn:=h.n32;have er:=hp.fn;have f4:=hp.len;refine Jjc Tryz.func80 Tryz.ntmps80 rfl (by kernel_rfl) rfl ?_;refine ρ ?_;refine bx (cs:=grC A c n es) ?_;intro w1 b3 di f7 e3;refine ρ ?_;refine lds (cs:=grC A c n es) (λj u hu=>e3.at hu) ?_;refine ρ ?_;refine cl (Qbw (h.ext di) er) ?_;rintro u w2 ⟨rfl,de⟩;have bd:=di.trans de;refine ρ ?_;refine Jqb (fun (i:Nat) (s:Nat)=>[(1,.int .i64 (f:Int)),(2,.slice PA perm.length pc),(3,.pointer (some ⟨b3,0,none⟩)),(9,.int .u32 (s:Int)),(28,.slice PA perm.length pc),(29,.int .i64 (perm.length:Int)),(30,.int .i64 (i:Int))])
  (λi s w'=>i<=perm.length/\w'=w2/\s<4294967296/\∀ x,s.testBit x=true->x∈perm.take i) (λi _=>perm.length-i) 0 0 sB
  ⟨Nat.zero_le _,rfl,by omega,λx J=>by simp at J⟩ ?_
 rintro i s w' ⟨hi,rfl,hs,d1⟩;have ae:=e3.ext de;refine ρ ?_;refine ci (λU=>?_) (λU=>?_)
 ·have li:i<perm.length:=by have:=oT U;omega
  clear U;have e1:=hP.ext bd;have hv:=hp.rng _ (getD_mem' 0 perm li);obtain ⟨v,ev⟩:∃ v,v=perm.getD i 0:=⟨_,rfl⟩;refine ρ ?_;refine ix i e1 li ?_;refine ρ ?_;refine ld (e1.cell (Jzc li)) ?_;rw [<-ev]at hv ⊢;refine ρ ?_;refine kf 37 ?_ ?_
  ·exact dF (by omega)
  refine ρ ?_;refine ld (ae.at (i:=0) rfl) ?_;refine ρ ?_;refine kf 43 ?_ ?_
  ·exact dF (by omega)
  refine ρ ?_;refine Qrv (s:=s) (v:=v) (by omega) ?_;have dm:perm.take (i+1)=perm.take i++[v]:=by rw [Jjp 0 li,ev]
  have el:v ∉ perm.take i:=λhm=>by
   have G:(perm.take (i+1)).Nodup:=hp.nd.sublist (List.take_sublist _ _);rw [dm,List.nodup_append]at G;exact G.2.2 _ hm _ (List.mem_singleton.2 rfl) rfl
  refine ρ ?_;refine cf ?_ ?_
  ·rw [Jkh hs];cases hb:s.testBit v with
   | false=>rfl
   | true=>exact absurd (d1 v hb) el
  have cd:=Jvl (show v<32 by omega);refine ρ ?_;refine sl32 (v:=v) (by omega) ?_;refine ρ ?_;rw [Jfn hs cd];refine ρ ?_;refine Jjm (i+1) (s ||| 2^v) sO ⟨by omega,rfl,Jrg hs cd,λx J=>?_⟩ (by omega);rw [Nat.testBit_or,Jpn,Bool.or_eq_true,decide_eq_true_eq]at J;rw [dm,List.mem_append,List.mem_singleton];rcases J with J|J
  ·exact .inl (d1 x J)
  ·exact .inr J.symm
 clear U hs d1 hi;refine ρ ?_;refine ld (ae.at (i:=0) rfl) ?_;refine ρ ?_;refine cf ?_ ?_
 ·exact Xvw (by omega)
 refine ρ ?_;refine alc (cs:=List.replicate 32 (Value.int .i64 0)) Xzc ?_;intro w3 a7 bz cv cc;refine ρ ?_;refine alc (cs:=List.replicate 32 (Value.int .i64 0)) Xzc ?_;intro w4 Z ce cr e4;have cb:=cc.ext ce;have db:=(bd.trans bz).trans ce;refine ρ ?_;refine sla ?_;refine ρ ?_;refine cpb (dl:=32) (dc:=32) cb (hP.ext db) (by omega) (by simp) (λu hu=>?_) ?_
 ·obtain ⟨z,_,rfl⟩:=List.mem_map.1 hu;rfl
 intro w5 ca d5;rw [Qgv (by omega)]at ca;have d4:Z≠a7:=λe=>by have:=cc.lt;omega
 have d7:Blk w5 Z 191 (Qqm λ_=>0):=by
  have G:=e4.grown d5 (λe=>by injection e with e;exact d4 e);exact G
 have e2:Blk w5 b3 150 (grC A c n es):=by
  have G:=(ae.ext (bz.trans ce)).grown d5 (λe=>by injection e with e;have:=ae.lt;omega);exact G
 have c5:w'.heap.size<=a7:=cv;have ec:Ext w' w5:=Jdh (bz.trans ce) d5 c5;obtain ⟨ord,aj⟩:∃ ord,ord=Jzl perm f:=⟨_,rfl⟩;have c1:ord.length=n:=by rw [aj];exact hp.olen
 have a2:ord.Nodup:=by rw [aj];exact hp.ond
 have b5:∀ {u},u∈ord↔u<n:=fun {u}=>by rw [aj];exact hp.omem
 have co:∀ i,i<n->ord.getD i 0<n:=λi hi=>b5.1 (getD_mem' 0 ord (c1.symm ▸ hi));clear cc cb;refine ρ ?_;refine Jqb (fun (k:Nat) (o:Nat->Nat)=>[(1,.int .i64 (f:Int)),(2,.slice PA perm.length pc),(3,.pointer (some ⟨b3,0,none⟩)),(12,.pointer (some ⟨a7,0,none⟩)),(13,.pointer (some ⟨Z,0,none⟩)),(65,.int .i64 (f:Int)),(66,.int .i64 (k:Int))])
  (λk o w6=>k<=f/\Ext w' w6/\Blk w6 b3 150 (grC A c n es)/\Blk w6 a7 191 (Qqm o)/\Blk w6 Z 191 (Qqm λ_=>0)/\∀ j,j<perm.length+k->o j=ord.getD j 0) (λk _=>f-k) 0 (λi=>perm.getD i 0) sB
  ⟨Nat.zero_le _,ec,e2,ca,d7,λj hj=>?_⟩ ?_
 ·rw [aj];simp [Jzl,List.getD,List.getElem?_append_left (show j<perm.length by omega)]
 rintro k o w6 ⟨hk,cy,bi,ag,bc,ho⟩;refine ρ ?_;refine ci (λU=>?_) (λU=>?_)
 ·have lk:k<f:=by have:=oT U;omega
  clear U;have d2:perm.length+k<32:=by omega
  refine ρ ?_;refine ixb (perm.length+k) d2 ?_;refine ρ ?_;have ev:(f:Int)-1-(k:Int)=((f-1-k:Nat):Int):=by omega
  rw [ev];refine sto (p:=⟨a7,perm.length+k,none⟩) (ag.cell _ |>.trans (Jzm d2)) (ag.frozen _) ?_;have O:=ag.set (perm.length+k) (.int .i64 ((f-1-k:Nat):Int));rw [Qwq o d2]at O;refine ρ ?_;refine Jjm (k+1) (upd o (perm.length+k) (f-1-k)) sO ⟨by omega,cy.setCell c5 _,bi.far (by simp only;have:=ae.lt;omega) _,O,bc.far (λe=>d4 e) _,λj hj=>?_⟩ (by omega);by_cases e:j=perm.length+k
  ·subst e;rw [Jjl,aj];simp only [Jzl,List.getD];rw [List.getElem?_append_right (by omega),Nat.add_sub_cancel_left,List.getElem?_reverse (by simp;omega),List.length_range,List.getElem?_range (by omega)];rfl
  ·rw [Jjj _ _ e];exact ho j (by omega)
 have en:k=f:=by have:=oF U;omega
 subst en;clear U;have ei:perm.length+k=n:=by omega
 rw [ei]at ho;refine ρ ?_;refine ld (bi.at (i:=0) rfl) ?_;refine ρ ?_;refine Jqb (fun (i:Nat) (q:Nat->Nat)=>[(2,.slice PA perm.length pc),(3,.pointer (some ⟨b3,0,none⟩)),(12,.pointer (some ⟨a7,0,none⟩)),(13,.pointer (some ⟨Z,0,none⟩)),(80,.int .i64 (n:Int)),(81,.int .i64 (i:Int))])
  (λi q w7=>i<=n/\Ext w' w7/\Blk w7 b3 150 (grC A c n es)/\Blk w7 a7 191 (Qqm o)/\Blk w7 Z 191 (Qqm q)/\∀ u,u<n->plc ord u<i->q u=plc ord u) (λi _=>n-i) 0 (λ_=>0) sB
  ⟨Nat.zero_le _,cy,bi,ag,bc,λu _ hu=>by omega⟩ ?_
 clear cy bi ag bc;rintro i q w7 ⟨hi,bt,b6,O,a8,hq⟩;refine ρ ?_;refine ci (λU=>?_) (λU=>?_)
 ·have li:i<n:=by have:=oT U;omega
  clear U;have f5:=co i li;have ej:=ho i li;refine ρ ?_;refine ixb i (show i<32 by omega) ?_;refine ρ ?_;refine ld (O.atc (Jzm (show i<32 by omega))) ?_;rw [ej];refine ρ ?_;refine ixb (ord.getD i 0) (show ord.getD i 0<32 by omega) ?_;refine ρ ?_;refine sto (p:=⟨Z,ord.getD i 0,none⟩) (a8.cell _ |>.trans (Jzm (show ord.getD i 0<32 by omega))) (a8.frozen _) ?_;have c9:=a8.set (ord.getD i 0) (.int .i64 (i:Int));rw [Qwq q (show ord.getD i 0<32 by omega)]at c9;have c4:w'.heap.size<=Z:=nL bz.size cr;refine ρ ?_;refine Jjm (i+1) (upd q (ord.getD i 0) i) sO ⟨by omega,bt.setCell c4 _,b6.far (by simp only;have:=ae.lt;omega) _,O.far (λe=>d4 e.symm) _,c9,λu hu em=>?_⟩ (by omega);by_cases e:u=ord.getD i 0
  ·rw [e,Jjl,Jlb a2 (c1.symm ▸ li)]
  ·rw [Jjj _ _ e];refine hq u hu ?_;have G:=Jyq a2 (b5.2 hu);rcases Nat.lt_or_ge (plc ord u) i with h2|h2
   ·exact h2
   ·have:plc ord u=i:=by omega
    rw [this]at G;exact absurd G.2.symm e
 have ep:i=n:=by have:=oF U;omega
 subst ep;clear U;have dj:∀ u,u<i->q u=plc ord u:=λu hu=>hq u hu (by have:=(Jyq a2 (b5.2 hu)).1;omega);have bw:=bd.trans bt;refine ρ ?_;refine lds (cs:=grC A c i es) (λj u hu=>b6.at hu) ?_;refine ρ ?_;refine cl (Qhq (h.ext bw)) ?_;rintro u w8 ⟨dd,a0,rfl,e0⟩;refine ρ ?_;refine alc (cs:=Jdv λ_=>0) Qcx ?_;intro w9 a3 eb cq b7;refine ρ ?_;refine sta (cs':=Jdv a0) b7 ?_ (Jpw a0) (by rw [Jxp,Jxp]) (Jxp a0).symm;intro bs b7 ew dh;have cx:Ext w8 bs:=dh w8 eb cq;have ad:=dd.trans cx;have bb:=b6.ext ad;refine ρ ?_;refine ld (bb.at (i:=0) rfl) ?_;refine ρ ?_;refine mkn EBg i (by omega) (by unfold maxLen;omega) ?_;intro ez B be ar _;rw [made3]at ar;have ac:=ad.trans be;have ba:=bb.ext be;have bp:=O.ext ac;have bn:=a8.ext ac;have bm:=b7.ext be;have ea:=bw.trans ac;refine ρ ?_;refine ld (ba.at (i:=0) rfl) ?_;have e9:w'.heap.size<=a7:=cv;have f2:Z<w7.heap.size:=a8.lt;have f3:a7<w7.heap.size:=O.lt
 have l3:b3<w7.heap.size:=b6.lt;have f0:w7.heap.size<=a3:=nL dd.size cq;have da:a3<bs.heap.size:=b7.lt;have c4:w'.heap.size<=Z:=nL bz.size cr;have e5:Jxn i (λ_=>[Value.int .i64 0,.int .u32 0,.int .i64 0])=Jxn i (Qcw ord (λ_=>0) (λ_=>0) 0):=Jvq λv _=>by simp [Qcw]
 have dv:∀ e∈es,e<2^i:=h.lt;rw [e5]at ar;refine ρ ?_;refine Jnk (fun (j:Nat) (a:Nat->Nat) (kf:Nat->Nat) (pf:Nat->Int)=>[(3,.pointer (some ⟨b3,0,none⟩)),(12,.pointer (some ⟨a7,0,none⟩)),(13,.pointer (some ⟨Z,0,none⟩)),(16,.pointer (some ⟨a3,0,none⟩)),(17,.slice B i i),(96,.int .i64 (i:Int)),(97,.int .i64 (j:Int))])
  (λj a kf pf a9=>j<=i/\Ext w' a9/\w7.heap.size<=a9.heap.size/\bs.heap.size<=a9.heap.size/\Blk a9 b3 150 (grC A c i es)/\Blk a9 a7 191 (Qqm o)/\Blk a9 Z 191 (Qqm q)/\Blk a9 a3 192 (Jdv a)/\a9.ownsRow bs.heap.size 195 3 (.slice B i i) i (Jxn i (Qcw ord kf pf j)) /\
   (∀ u,u<32->a u<4294967296)/\(∀ u,u<i->∀ x,(a u).testBit x=Qxl (nb0 i es) (ord.take j) u x)/\∀ v,v<i->plc ord v<j->BagAt i es ord v (kf v) (pf v)) (λj _ _ _=>i-j) 0 a0 (λ_=>0) (λ_=>0) sB
  ⟨Nat.zero_le _,bt.trans ac,ac.size,be.size,ba,bp,bn,bm,ar,λu hu=>(e0 u hu).1,λu hu x=>?_,λv _ hv=>by omega⟩ ?_
 ·rw [(e0 u (by omega)).2];rfl
 clear ba bp bn bm ar bb b6 O a8 e5 b7 ae;rintro j a kf pf a9 ⟨hj,b1,eh,e8,c6,bo,aw,bl,aq,cw,bv,dw⟩;refine ρ ?_;refine ci (λU=>?_) (λU=>?_)
 ·have lj:j<i:=by have:=oT U;omega
  clear U;have ck:j<32:=by omega
  obtain ⟨v,ev⟩:∃ v,v=ord.getD j 0:=⟨_,rfl⟩;have b2:v<i:=by rw [ev];exact co j lj
  have b4:v<32:=by omega
  have cz:v∈ord:=b5.2 b2;have dk:pre ord v=ord.take j:=by rw [ev];exact Qfv a2 (c1.symm ▸ lj)
  have et:plc ord v=j:=by rw [ev];exact Jlb a2 (c1.symm ▸ lj)
  obtain ⟨D,bq⟩:∃ D,D=Qxl (nb0 i es) (ord.take j):=⟨_,rfl⟩;have ak:∀ x,Jss (nb0 i es) ord v x=D v x:=λx=>by rw [Jss,dk,bq]
  have dt:NbInv (ord.take j) D:=by rw [bq];exact (Qgj dv).at (a2.sublist (List.take_sublist _ _))
  have d0:v ∉ ord.take j:=by rw [<-dk];exact (Jgq cz).choose_spec.2
  have f6:∀ x,D v x=true->x≠v:=λx J=>(dt.gone v x d0 J).2;have dq:∀ x,D v x=true->x<i:=λx J=>by rw [<-ak]at J;exact Qwp (λu x h=>(Jns dv h).2.1) J
  rw [<-bq]at bv;have c2:=cw v b4;refine ρ ?_;refine ixb j ck ?_;refine ρ ?_;refine ld (bo.atc (Jzm ck)) ?_;rw [ho j lj,<-ev];refine ρ ?_;refine ixb v b4 ?_;refine ρ ?_;refine ld (bl.atc (Jkf b4)) ?_;refine ρ ?_;refine bld (Xvz _ _ _) ?_;refine ρ ?_;refine alc zBag ?_;intro ey ax dg dx c7;refine ρ ?_;refine stW c7 ?_;intro d9 c7 eu df;have C:Ext a9 d9:=df a9 dg dx;have d6:=c6.ext C;refine ρ ?_;refine ld (d6.at (i:=0) rfl) ?_;refine ρ ?_;refine Jxx (fun (u:Nat) (a':Nat->Nat) (par:Int)=>[(3,.pointer (some ⟨b3,0,none⟩)),(12,.pointer (some ⟨a7,0,none⟩)),(13,.pointer (some ⟨Z,0,none⟩)),(16,.pointer (some ⟨a3,0,none⟩)),(17,.slice B i i),(96,.int .i64 (i:Int)),(97,.int .i64 (j:Int)),(19,.int .i64 (v:Int)),(20,.pointer (some ⟨ax,0,none⟩)),(109,.int .i64 (i:Int)),(110,.int .i64 (u:Int))])
   (λu a' par a4=>u<=i/\GrN (λk=>k=a3∨k=ax) d9 a4/\Blk a4 a3 192 (Jdv a')/\Blk a4 ax 195 [.int .i64 (v:Int),.int .u32 (a v:Int),.int .i64 par] /\
    (∀ x,x<32->a' x<4294967296)/\(∀ x,x<i->∀ y,(a' x).testBit y=if x<u then Jnc v D x y else D x y) /\
    ((par = -1/\∀ x,x<u->D v x=false)∨∃ p:Nat,par=p/\p<u/\D v p=true/\∀ x,x<u->D v x=true->plc ord p<=plc ord x)) (λu _ _=>i-u) 0 a (-1) sB
   ⟨Nat.zero_le _,GrN.refl _ _,bl.ext C,c7,cw,λx J y=>by rw [if_neg (by omega)];exact bv x J y,.inl ⟨rfl,λx J=>by omega⟩⟩ ?_
  rintro u a' par a4 ⟨hu,a5,av,a6,ao,bh,ai⟩;refine ρ ?_;refine ci (λU=>?_) (λU=>?_)
  ·have lu:u<i:=by have:=oT U;omega
   clear U;have a1:u<32:=by omega
   refine ρ ?_;refine ld (a6.at (i:=1) rfl) ?_;refine ρ ?_;refine Qrv (s:=a v) (v:=u) (by omega) ?_;refine ρ ?_;refine ci (λU=>?_) (λU=>?_)
   ·rw [Qqb c2,bv v b2]at U;have bu:D v u=false:=by simpa using U
    refine ρ ?_;refine Jqc (u+1) a' par sO ⟨by omega,a5,av,a6,ao,λx J y=>?_,?_⟩ (by omega)
    ·rw [bh x J];by_cases e:x=u
     ·subst e;rw [if_neg (by omega),if_pos (by omega),Jnc,if_neg (by rw [bu];simp)]
     ·by_cases G:x<u
      ·rw [if_pos G,if_pos (by omega)]
      ·rw [if_neg G,if_neg (by omega)]
    ·rcases ai with ⟨G,h2⟩|⟨p,G,h2,h3,h4⟩
     ·refine .inl ⟨G,λx J=>?_⟩;by_cases e:x=u
      ·rw [e];exact bu
      ·exact h2 x (by omega)
     ·refine .inr ⟨p,G,by omega,h3,λx J an=>?_⟩;by_cases e:x=u
      ·rw [e,bu]at an;cases an
      ·exact h4 x (by omega) an
   ·rw [Qqb c2,bv v b2]at U;have bu:D v u=true:=by simpa using U
    have cm:Ext w' a4:=a5.old (b1.trans C) (λk hk=>by
     rcases hk with rfl|rfl
     ·have:=bt.size;omega
     ·have:=b1.size;omega)
    have cj:Blk a4 Z 191 (Qqm q):=Jjw (aw.ext C) a5 (by
     rintro (h|h)
     ·omega
     ·have:=aw.lt;omega)
    refine ρ ?_;refine Jxz (fun (t:Bool)=>[(3,.pointer (some ⟨b3,0,none⟩)),(12,.pointer (some ⟨a7,0,none⟩)),(13,.pointer (some ⟨Z,0,none⟩)),(16,.pointer (some ⟨a3,0,none⟩)),(17,.slice B i i),(96,.int .i64 (i:Int)),(97,.int .i64 (j:Int)),(19,.int .i64 (v:Int)),(20,.pointer (some ⟨ax,0,none⟩)),(109,.int .i64 (i:Int)),(110,.int .i64 (u:Int)),(21,.int .i64 (u:Int)),(131,.bool t)])
     (λt br=>Ext a4 br/\(t=true->par = -1∨∃ p:Nat,par=p/\plc ord u<plc ord p)/\(t=false->∃ p:Nat,par=p/\plc ord p<=plc ord u)) ?_ ?_
    ·have ay:Ext a4 a4.drew:=(Ext.refl a4).drew;have af:=a6.ext ay;have c8:=cj.ext ay;refine dr [(0,0),(0,1),(0,2),(0,3),(0,4),(0,5),(0,6),(0,7),(0,8),(0,9),(0,10),(0,11),(0,12)] (by kernel_rfl) ?_;refine ρd ?_;refine dld (af.at (i:=2) rfl) ?_;refine ρd ?_;refine dki 122 (λG=>?_) (λG=>?_)
     ·have h2:par<0:=oT G;have h3:par = -1:=by
       rcases ai with ⟨h4,_⟩|⟨p,h4,_⟩
       ·exact h4
       ·omega
      refine ρd ?_;refine ρ ?_;exact Jjn true sB ⟨ay,λ_=>.inl h3,λe=>by cases e⟩
     ·have h2:¬ par<0:=oF G;obtain ⟨p,h4,h5,h6,h7⟩:∃ p:Nat,par=p/\p<u/\D v p=true/\∀ x,x<u->D v x=true->plc ord p<=plc ord x:=by
       rcases ai with ⟨h4,_⟩|h4
       ·omega
       ·exact h4
      subst h4;refine ρd ?_;refine dixb u a1 ?_;refine ρd ?_;refine dld (c8.atc (Jzm a1)) ?_;refine ρd ?_;refine dld (af.at (i:=2) rfl) ?_;refine ρd ?_;refine dixb p (show p<32 by omega) ?_;refine ρd ?_;refine dld (c8.atc (Jzm (show p<32 by omega))) ?_;rw [dj u lu,dj p (by omega)];refine ρd ?_;refine ρ ?_;refine Jjn _ sB ⟨ay,λe=>.inr ⟨p,rfl,?_⟩,λe=>⟨p,rfl,?_⟩⟩
      ·have:=oT e;omega
      ·have:=oF e;omega
    rintro t br ⟨az,ef,ee⟩;have ab:=a6.ext az;refine ρ ?_;refine Jxz (fun (ah:Int)=>[(3,.pointer (some ⟨b3,0,none⟩)),(12,.pointer (some ⟨a7,0,none⟩)),(13,.pointer (some ⟨Z,0,none⟩)),(16,.pointer (some ⟨a3,0,none⟩)),(17,.slice B i i),(96,.int .i64 (i:Int)),(97,.int .i64 (j:Int)),(19,.int .i64 (v:Int)),(20,.pointer (some ⟨ax,0,none⟩)),(109,.int .i64 (i:Int)),(110,.int .i64 (u:Int)),(21,.int .i64 (u:Int))])
     (λah am=>GrN (λk=>k=ax) br am/\Blk am ax 195 [.int .i64 (v:Int),.int .u32 (a v:Int),.int .i64 ah]/\((ah = -1/\∀ x,x<u+1->D v x=false)∨∃ p:Nat,ah=p/\p<u+1/\D v p=true/\∀ x,x<u+1->D v x=true->plc ord p<=plc ord x)) ?_ ?_
    ·refine ci (λht=>?_) (λht=>?_)
     ·refine ρ ?_;refine sto (p:=⟨ax,2,none⟩) (ab.cell 2) (ab.frozen _) ?_;refine ρ ?_;refine Jjn (u:Int) sB ⟨GrN.set _ rfl,ab.set 2 _,.inr ⟨u,rfl,Nat.lt_succ_self u,bu,λx J an=>?_⟩⟩;by_cases e:x=u
      ·rw [e];exact Nat.le_refl _
      ·rcases ai with ⟨_,h2⟩|⟨p,G,h2,h3,h4⟩
       ·rw [h2 x (by omega)]at an;cases an
       ·have h5:=h4 x (by omega) an;rcases ef ht with h6|⟨p',h6,h7⟩
        ·omega
        ·have:p=p':=by omega
         subst this;omega
     ·obtain ⟨p',h6,h7⟩:=ee ht;refine ρ ?_;refine Jjn par sB ⟨GrN.refl _ _,ab,.inr ?_⟩;rcases ai with ⟨G,h2⟩|⟨p,G,h2,h3,h4⟩
      ·omega
      ·have:p=p':=by omega
       subst this;refine ⟨p,G,by omega,h3,λx J an=>?_⟩;by_cases e:x=u
       ·rw [e];exact h7
       ·exact h4 x (by omega) an
    rintro ah am ⟨cp,cg,d3⟩;have bg:a3≠ax:=by omega
    have ch:Blk am a3 192 (Jdv a'):=Jjw (av.ext az) cp bg;have ay:Ext am am.drew:=(Ext.refl am).drew;have au:=ch.ext ay;have af:=cg.ext ay;have dz:=ao u a1;have e6:=Jvl a1;have cd:=Jvl b4;refine ρ ?_;refine drN (λ_=>False) 15 [(0,0),(0,1),(0,2),(0,3),(0,4),(0,5),(0,6),(0,7),(0,8),(0,9),(0,10),(0,11),(0,12),(0,13),(2,14)] (by kernel_rfl) ?_;refine ρn ?_;refine nixb u a1 ?_;refine ρn ?_;refine nld (Jjg (au.atc (Jkf a1)) (λe=>e)) ?_;refine ρn ?_;refine nld (Jjg (af.at (i:=1) rfl) (λe=>e)) ?_;refine ρn ?_;refine Xjw a1 ?_;refine ρn ?_;refine Xjw b4 ?_;refine ρn ?_;refine nixb u a1 ?_;refine ρn ?_;refine Jzx ?_;have c0:=Jrg dz c2;have cn:=Jrg e6 cd;obtain ⟨nw,d8⟩:∃ nw,nw=Qmk (a' u ||| a v) (2^u ||| 2^v):=⟨_,rfl⟩;have ek:nw<4294967296:=by rw [d8];exact Qlt c0
    have e7:bits .andNot .u32 (bits .or .u32 (a' u:Int) (a v:Int)) (bits .or .u32 ((2^u:Nat):Int) ((2^v:Nat):Int))=(nw:Int):=by
     rw [Jfn dz c2,Jfn e6 cd,Jcn c0 cn,d8]
    refine sto (p:=⟨a3,u,none⟩) (au.cell u |>.trans (Jkf a1)) (au.frozen _) ?_;rw [e7];have bj:=au.set u (.int .u32 (nw:Int));rw [Jpv a' a1]at bj;have du:GrN (λk=>k=a3) am.drew (am.drew.setCell ⟨a3,u,none⟩ (.int .u32 (nw:Int))):=GrN.set _ rfl;refine ω5 ?_;refine Jbv ?_;refine ρn ?_;refine ρ ?_;refine Jqc (u+1) (upd a' u nw) ah sO ⟨by omega,?_,bj,af.far (λe=>bg e.symm) _,λx J=>?_,λx J y=>?_,d3⟩ (by omega)
    ·exact ((a5.trans (GrN.ext az)).trans (cp.mono λk _ hk=>.inr hk)).trans ((GrN.ext ay).trans (du.mono λk _ hk=>.inl hk))
    ·by_cases e:x=u
     ·rw [e,Jjl];exact ek
     ·rw [Jjj _ _ e];exact ao x J
    ·by_cases e:x=u
     ·subst e;rw [Jjl,if_pos (Nat.lt_succ_self x),d8,Jsn c0 cn,Nat.testBit_or,Nat.testBit_or,Jpn,Jpn,bh x J,if_neg (Nat.lt_irrefl x),bv v b2,Jnc,if_pos bu];rw [Qsq x y,Qsq v y];cases D x y<;>cases D v y<;>cases (y != x)<;>cases (y != v)<;>rfl
     ·rw [Jjj _ _ e,bh x J];by_cases G:x<u
      ·rw [if_pos G,if_pos (by omega)]
      ·rw [if_neg G,if_neg (by omega)]
  ·have ed:u=i:=by have:=oF U;omega
   subst ed;clear U;have cm:Ext w' a4:=a5.old (b1.trans C) (λk hk=>by
    rcases hk with rfl|rfl
    ·have:=bt.size;omega
    ·have:=b1.size;omega)
   have b8:∀ {g t:Nat} {cs:List Value},Blk a9 g t cs->g≠a3->Blk a4 g t cs:=λhB G=>Jjw (hB.ext C) a5 (by
    rintro (h|h)
    ·exact G h
    ·have:=hB.lt;omega)
   have ap:a4.ownsRow bs.heap.size 195 3 (.slice B u u) u (Jxn u (Qcw ord kf pf j)):=Jjq (Jjb aq C) a5 (λg eg hk=>by
    obtain ⟨_,_,_,_,c3⟩:=Jjd aq;have h5:=c3 g eg;rcases hk with rfl|rfl<;>omega)
   refine ρ ?_;refine ldW a6 ?_;refine ρ ?_;refine ixq 3 v (Rd.own ap) b2 ?_;refine ρ ?_;refine stoE (cs:=[.int .i64 (v:Int),.int .u32 (a v:Int),.int .i64 par]) ap b2 ?_ Jlf;intro br b9 bf;rw [Qhd (λv _=>Qrb ord kf pf j v) b2 rfl]at b9;have eg:Jxn u (upd (Qcw ord kf pf j) v [.int .i64 (v:Int),.int .u32 (a v:Int),.int .i64 par])=Jxn u (Qcw ord (upd kf v (a v)) (upd pf v par) (j+1)):=by
    refine Jvq λx J=>?_;by_cases e:x=v
    ·subst e;rw [Jjl,Qcw,if_pos (by omega)];simp only [Jvt,Jjl]
    ·rw [Jjj _ _ e];have dn:plc ord x≠j:=λe'=>by
      have G:=(Jyq a2 (b5.2 J)).2;rw [e',<-ev]at G;exact e G.symm
     unfold Qcw;by_cases G:plc ord x<j
     ·rw [if_pos G,if_pos (by omega)];simp only [Jvt,Jjj _ _ e]
     ·rw [if_neg G,if_neg (by omega)]
   rw [eg]at b9;have aa:∀ {g t:Nat} {cs:List Value},Blk a4 g t cs->g<bs.heap.size->Blk br g t cs:=λhB G=>hB.grown bf (λe=>by
    obtain ⟨_,_,_,_,c3⟩:=Jjd ap;have h5:=c3 _ e.symm;omega)
   have az:Ext w' br:=Jjk cm bf (λg eg=>by
    obtain ⟨_,_,_,_,c3⟩:=Jjd ap;have h5:=c3 g eg;have:=bt.size;have:=ad.size;omega)
   have ex:=ad.size;refine ρ ?_;refine Jvk (j+1) a' (upd kf v (a v)) (upd pf v par) sO ⟨by omega,az,by have:=C.size;have:=a5.size;have:=bf.size;omega,by have:=C.size;have:=a5.size;have:=bf.size;omega,aa (b8 c6 (by omega)) (by omega),aa (b8 bo (by omega)) (by omega),aa (b8 aw (by omega)) (by omega),aa av da,b9,ao,λx J y=>?_,λx J em=>?_⟩ (by omega)
   ·rw [bh x J,if_pos J,Jjp 0 (c1.symm ▸ lj),<-ev,Qwh,<-bq];rfl
   ·by_cases e:x=v
    ·subst e;rw [Jjl,Jjl];refine ⟨c2,λy=>by rw [bv x b2,ak],?_⟩;rcases ai with ⟨G,h2⟩|⟨p,G,h2,h3,h4⟩
     ·refine .inl ⟨G,λy=>?_⟩;rw [ak];cases hb:D x y with
      | false=>rfl
      | true=>exact absurd (h2 y (dq y hb)) (by rw [hb];simp)
     ·exact .inr ⟨p,G,by rw [ak];exact h3,λy hy=>h4 y (dq y (by rw [<-ak];exact hy)) (by rw [<-ak];exact hy)⟩
    ·rw [Jjj _ _ e,Jjj _ _ e];refine dw x J ?_;have dn:plc ord x≠j:=λe'=>by
      have G:=(Jyq a2 (b5.2 J)).2;rw [e',<-ev]at G;exact e G.symm
     omega
 ·have eo:j=i:=by have:=oF U;omega
  subst eo;clear U;refine ρ ?_;refine Qwv ⟨bd.trans b1,B,kf,pf,rfl,?_,λv hv=>?_⟩
  ·have e:Jxn j (Qcw ord kf pf j)=Jxn j (Jvt kf pf):=Jvq λv hv=>by
    have:=(Jyq a2 (b5.2 hv)).1;rw [Qcw,if_pos (by omega)]
   rw [e]at aq;exact Jrf aq (by have:=bw.size;have:=ad.size;omega)
  ·have:=dw v hv (by have:=(Jyq a2 (b5.2 hv)).1;omega);rw [<-aj];exact this
open Go.RowKit Pl Go.Wk
theorem Qhp{kf:Nat->Nat}{pf:Nat->Int}{v:Nat}(hv:v<32)(hk:kf v<4294967296)(w:World): Ret Tryz.prog 123 [.agg (Jvt kf pf v).toArray] w λu w'=>u=.int .u32 ((kf v ||| 2^v:Nat):Int)/\Ext w w':=by
 refine Jjc Tryz.func123 Tryz.ntmps123 rfl (by kernel_rfl) rfl ?_;refine ρ ?_;refine bx (cs:=Jvt kf pf v) ?_;intro C b D J G;refine ρ ?_;refine ld (G.at (i:=0) rfl) ?_;refine ρ ?_;refine ld (G.at (i:=0) rfl) ?_;refine ρ ?_;refine cf ?_ ?_
 ·exact dF (by omega)
 have j:Ext C C.drew:=(Ext.refl C).drew;have o:=G.ext j;refine ρ ?_;refine dr [(0,0),(0,1),(0,2),(0,3),(0,4),(0,5),(0,6)] (by kernel_rfl) ?_;refine ρd ?_;refine dld (o.at (i:=1) rfl) ?_;refine ρd ?_;refine dld (o.at (i:=0) rfl) ?_;refine ρd ?_;refine dsl32 hv ?_;refine ρd ?_;refine ρ ?_;refine Jjr ⟨?_,D.trans j⟩;rw [Jfn hk (Jvl hv)]
def Jsq(n m:Nat)(vars:Nat->List Nat)(rs:Nat->List Row)(s:Nat)(l:List Row): Prop:=Lt [] l/\(∀ x,x∈l↔∃ z:Row,z.length=n/\x=pmR (bk s 32) z/\Qrj m vars rs s z)/\l.length<=65536
def Jkm(s:Nat)(l:List Row): Atm:=⟨nz (bk s 32),(bk s 32).length,l⟩
theorem Qzp{w:World}{n:Nat}{ts:List TA}{Aa B:Option Addr}{ca cb:Nat}{vars:Nat->List Nat}{rs:Nat->List Row}{kf:Nat->Nat}{pf:Nat->Int}(hn32:n<=32)(hok:∀ v,v<n->MOk n ts vars rs (kf v ||| 2^v))(hR:Rd w 3 Aa ts.length (atC ts))(hle:ts.length<=ca)(hat:∀ p∈ts,AtV w p.1 p.2)(hB:Rd w 3 B n (Jxn n (Jvt kf pf)))(hk:∀ v,v<n->kf v<4294967296)(hcap:∀ v,v<n->∀ l:List Row,Lt [] l->(∀ x∈l,∃ z:Row,z.length=n/\x=pmR (bk (kf v ||| 2^v) 32) z/\Qrj ts.length vars rs (kf v ||| 2^v) z)->l.length<=65536):
  Ret Tryz.prog 81 [.int .i64 (n:Int),.slice B n cb,.slice Aa ts.length ca] w λu w'=>Ext w w'/\∃ (va:Value) (st:Int) (R:Nat->List Row),u=.tuple #[va,.int .i64 st,.int .i64 0] /\
   Off (λk=>k<w.heap.size) w' (λx=>GV 3 AtG x va ((List.range n).map λv=>Jkm (kf v ||| 2^v) (R v)))/\∀ v,v<n->Jsq n ts.length vars rs (kf v ||| 2^v) (R v):=by
 refine Jjc Tryz.func81 Tryz.ntmps81 rfl (by kernel_rfl) rfl ?_;refine ρ ?_;refine Jnk (fun (v:Nat) (va:Value) (st:Int) (R:Nat->List Row)=>[(0,.int .i64 (n:Int)),(2,.slice Aa ts.length ca),(9,va),(10,.int .i64 st),(16,.slice B n cb),(17,.int .i64 (n:Int)),(18,.int .i64 (v:Int))])
  (λv va st R w'=>v<=n/\Ext w w'/\OwnG 69 3 AtG w' w.heap.size va ((List.range v).map λu=>Jkm (kf u ||| 2^u) (R u))/\∀ u,u<v->Jsq n ts.length vars rs (kf u ||| 2^u) (R u)) (λv _ _ _=>n-v) 0 (.slice none 0 0) 0 (λ_=>[]) sB
  ⟨Nat.zero_le _,Ext.refl _,OwnG.nil _ _,λu hu=>by omega⟩ ?_
 rintro v va st R w1 ⟨hv,D,a4,ac⟩;refine ρ ?_;refine ci (λhc=>?_) (λhc=>?_)
 ·have lv:v<n:=by have:=oT hc;omega
  clear hc;have ae:=hB.ext D;have a3:∀ j u,(Jvt kf pf v)[j]?=some u->w1.cell? ((adr B (v*3)).add j)=some u:=λj u hu=>by
   have hj:j<3:=by
    rcases Nat.lt_or_ge j 3 with h'|h'
    ·exact h'
    ·rw [List.getElem?_eq_none (by simp [Jvt];omega)]at hu;cases hu
   rw [Jqr];exact ae.cell ((Jwd (sz:=3) (λ_ _=>rfl) lv hj).trans hu)
  refine ρ ?_;refine ixq 3 v ae lv ?_;refine ρ ?_;refine lds (cs:=Jvt kf pf v) a3 ?_;refine ρ ?_;refine alc zBag ?_;intro w2 bc ar ab J;refine ρ ?_;refine stb (cs':=Jvt kf pf v) J ?_ Jlf;intro w3 J b9 aq;have a7:Ext w1 w3:=aq w1 ar ab;refine ρ ?_;refine lds (cs:=Jvt kf pf v) (λj u hu=>J.at hu) ?_;refine ρ ?_;refine cl (Qhp (by omega) (hk v lv) w3) ?_;rintro u w4 ⟨rfl,ap⟩;have C:=a7.trans ap;have i:=D.trans C;refine ρ ?_;refine cl (Jlj (hok v lv) (hR.ext i) hle (λp hp=>(hat p hp).ext i) (hcap v lv)) ?_;rintro u w5 ⟨ao,⟨p1,p2,p3⟩,aj,l,rfl,Z,av,a9,aw⟩;have b2:=Z.here;obtain ⟨⟨PA,pc,ah,b5,b4,b3⟩,ag,O⟩:=id b2;simp only at ah ag;obtain ⟨a5,PG,a2,_,af,_⟩:=id O;simp only at af;subst ah;subst ag;subst af;refine ρ ?_;refine alc Jcp ?_;intro w6 bb an aa G;refine ρ ?_;refine stb (cs':=[.slice PA (nz (bk (kf v ||| 2^v) 32)).length pc,.int .i64 ((bk (kf v ||| 2^v) 32).length:Int),.slice PG a5.length a2]) G ?_ (Qsd rfl)
  intro w7 G b7 am;have U:Ext w5 w7:=am w5 an aa;refine ρ ?_;refine ldW G ?_;refine ρ ?_;refine bsl (Qzl _ _ _ PA PG _ pc _ a2 _ rfl rfl rfl) ?_;intro w8 b8 a6 ba b1;have o:=((C.trans ao).trans U).trans a6;obtain ⟨_,_,_,_,ad⟩:=a4.form;have hΦ:Off (Jyz w.heap.size va) w8 (λu=>AtG u [.slice PA (nz (bk (kf v ||| 2^v) 32)).length pc,.int .i64 ((bk (kf v ||| 2^v) 32).length:Int),.slice PG a5.length a2] (Jkm (kf v ||| 2^v) l)):=by
   refine ((Z.imp λu h=>⟨_,rfl,h⟩).mono λk _ ax=>?_).ext (U.trans a6);rcases ax with h'|h'
   ·exact nM h' i.size
   ·exact nM (ad k h').2 C.size
  refine ρ ?_;refine apG EA (Φ:=AtG) (a4.ext o) b1 rfl (Qsd rfl) hΦ (by simp;omega) (by omega) (D.trans o).size ?_;intro ai w9 az ay b6;have ak:Ext w w9:=Jjk (D.trans o) ay (λg eg=>(ad g eg).1);obtain ⟨a1,a8⟩:∃ a1:Int,a1=IntKind.i64.wrap (st+aj):=⟨_,rfl⟩;refine ρ ?_;rw [<-a8];refine ρ ?_;refine Jvk (v+1) ai a1 (upd R v l) sO ⟨by omega,ak,?_,λu hu=>?_⟩ (by omega)
  ·rw [List.range_succ,List.map_append,List.map_singleton,Jjl];have e:(List.range v).map (λu=>Jkm (kf u ||| 2^u) (upd R v l u))=(List.range v).map (λu=>Jkm (kf u ||| 2^u) (R u)):=by
    refine List.map_congr_left λj hj=>?_;have:=List.mem_range.1 hj;rw [Jjj _ _ (by omega)]
   rw [e];exact az
  ·by_cases e:u=v
   ·subst e;rw [Jjl];exact ⟨av,a9,aw⟩
   ·rw [Jjj _ _ e];exact ac u (by omega)
 ·have au:v=n:=by have:=oF hc;omega
  subst au;clear hc;refine ρ ?_;exact Qhk ⟨D,va,st,R,rfl,a4.off (by simp;omega),ac⟩
end Go.Proofs.YtefpailelagbkaaGreatDoor
