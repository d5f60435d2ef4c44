/- Part 1 of the proof: Rf4, Rf5, Rf6. -/
import Derived.Test.YtefpailelagbkaaGreatDoorKso42
set_option linter.unusedVariables false
set_option maxRecDepth 100000
set_option maxHeartbeats 40000000
namespace Go.Proofs.YtefpailelagbkaaGreatDoor
open Go.RowKit Pl Go.Wk
attribute [local irreducible] WC WL QX WD WDB WP WN WG WH
theorem EVv: ElT Tryz.prog 39 71 3 32 (.agg #[.int .i64 0,.int .i64 0,.string ⟨#[]⟩]):=⟨Tryz.underlying39,info_parts (by kernel_rfl),rfl,by decide⟩
theorem bs1VVs(v:V)(w:World): (Instr.buildSlice 39 1 #[(0,v.val)]).run Tryz.prog w=.ok (.slice (some ⟨w.heap.size,0,none⟩) 1 1) (w.alloc (.cells v.cells.toArray 71)):=by kernel_rfl
theorem Blk.rowV{w:World}{b t:Nat}{v:V}(h:Blk w b t v.cells): RowV w (.slice (some ⟨b,0,none⟩) 1 1) [v]:=⟨some ⟨b,0,none⟩,1,rfl,Nat.le_refl _,by simp,by
 have:=h.rd (n:=1) (sz:=3) rfl;unfold RdR;rw [rowC_one''];exact this⟩
def enI(vars:Nat->List Nat)(rs:Nat->List Row)(v i:Nat): List Row:=(List.range (vars i).length).flatMap λk=>if (vars i).getD k 0=v then (rs i).map λr=>[r.getD k V0] else []
def enD(vars:Nat->List Nat)(rs:Nat->List Row)(v i k:Nat): List Row:=(List.range i).flatMap (enI vars rs v)++(List.range k).flatMap λk=>if (vars i).getD k 0=v then (rs i).map λr=>[r.getD k V0] else []
def putF(D:List Row): List Row:=D.foldl (Xkv []) []
theorem putF_set(D:List Row): Jvg [] D (putF D):=by
 have:=Jlv (ds:=[]) D (done:=[]) (l:=[]) ⟨List.Pairwise.nil,λx=>Iff.rfl⟩;rwa [List.nil_append]at this
theorem putF_snoc(D:List Row)(r:Row): putF (D++[r])=Xkv [] (putF D) r:=by simp [putF]
theorem putF_len(D:List Row)(r:Row): (putF (D++[r])).length<=(putF D).length+1:=by
 rw [putF_snoc];unfold Xkv;split
 ·omega
 ·have:=Xvh [] (putF D) r;simp;omega
section
variable {n f:Int} {pA VA RA:Option Addr} {pn pc vc rc N m:Nat} {vars:Nat->List Nat} {rs:Nat->List Row} {w:World}
theorem rValues_any(hP:RefP N m vars rs)(hM:RInM w VA RA m vars rs)(v:Nat):
  Ret Tryz.prog 161 [.agg (rinC n f pA pn pc VA vc RA rc m).toArray,.int .i64 (v:Int)] w λu w'=>(RowV w' u (Xzz m vars rs v)/\(Xzz m vars rs v).length<=10240)/\Ext w w':=by
 have be:=hP.m32;refine Jjc Tryz.func161 Tryz.ntmps161 rfl (by kernel_rfl) rfl ?_;refine ρ ?_;refine bx (cs:=rinC n f pA pn pc VA vc RA rc m) ?_;intro w1 b a9 hb hB;refine ρ ?_;refine Jqb (fun (i:Nat) (lv:Value)=>[(1,.int .i64 (v:Int)),(2,.pointer (some ⟨b,0,none⟩)),(5,lv),(6,.int .i64 (i:Int))])
  (λi lv w'=>i<=m/\Ext w1 w'/\RowsV w' lv (putF ((List.range i).flatMap (enI vars rs v)))/\(putF ((List.range i).flatMap (enI vars rs v))).length<=320*i) (λi _=>m-i) 0 (.slice none 0 0) sB
  ⟨Nat.zero_le _,Ext.refl _,⟨[],none,0,rfl,rfl,Nat.le_refl _,Nat.zero_le _,Rd.nil,λp hp=>by cases hp⟩,Nat.le_refl _⟩ ?_
 rintro i lv w2 ⟨hi,a8,o,J⟩;have an:=hB.ext a8;refine ρ ?_;refine ld (an.at (i:=3) rfl) ?_;refine ρ ?_;refine ci (λh=>?_) (λh=>?_)
 ·have U:i<m:=by have:=oT h;omega
  clear h;have aa:∀ u∈vars i,u<32:=λu hu=>by have:=hP.lt i U u hu;have:=hP.n32;omega
  have ai:=Jsl (hP.asc i U) aa;have ba:=hP.row i U;refine ρ ?_;refine Jqb (fun (k:Nat) (lv:Value)=>[(1,.int .i64 (v:Int)),(2,.pointer (some ⟨b,0,none⟩)),(5,lv),(6,.int .i64 (i:Int)),(7,.int .i64 (k:Int))])
   (λk lv w'=>k<=(vars i).length/\Ext w2 w'/\RowsV w' lv (putF (enD vars rs v i k))/\(putF (enD vars rs v i k)).length<=320*i+10*k) (λk _=>(vars i).length-k) 0 lv sB
   ⟨Nat.zero_le _,Ext.refl _,by unfold enD;simpa using o,by unfold enD;simpa using J⟩ ?_
  clear o J lv;rintro k lv w3 ⟨hk,C,o,J⟩;have Z:=a8.trans C;have ad:=an.ext C;obtain ⟨bb,a4,ar⟩:=(hM.ext (a9.trans Z)).v;obtain ⟨vi,aj,b7⟩:=ar i U;obtain ⟨PA,bd,rfl,bi,bg,am⟩:=b7.n;refine ρ ?_;refine ld (ad.at (i:=3) rfl) ?_;refine ρ ?_;refine ix i a4 U ?_;refine ρ ?_;refine ld (a4.cell aj) ?_;refine ρ ?_;refine ci (λh=>?_) (λh=>?_)
  ·have lk:k<(vars i).length:=by have:=oT h;omega
   clear h;refine ρ ?_;refine ld (ad.at (i:=3) rfl) ?_;refine ρ ?_;refine ix i a4 U ?_;refine ρ ?_;refine ld (a4.cell aj) ?_;refine ρ ?_;refine ix k am lk ?_;refine ρ ?_;refine ld (am.cell (Jzc lk)) ?_;refine ρ ?_;have O:∀ D,enD vars rs v i (k+1)=D->D=enD vars rs v i k++(if (vars i).getD k 0=v then (rs i).map λr=>[r.getD k V0] else []):=λD hD=>by
    rw [<-hD];unfold enD;rw [List.range_succ,List.flatMap_append,List.append_assoc];simp
   have O:=O _ rfl;refine ci (λh=>?_) (λh=>?_)
   ·have ay:(vars i).getD k 0≠v:=λe=>by have:=Jwp h;omega
    rw [if_neg ay,List.append_nil]at O;refine ρ ?_;refine Jjm (k+1) lv sO ⟨lk,C,by rw [O];exact o,by rw [O];omega⟩ (by omega)
   ·have he:(vars i).getD k 0=v:=by have:=Jwq h;omega
    rw [if_pos he]at O;clear h;refine ρ ?_;refine Jqb (fun (j:Nat) (lv:Value)=>[(1,.int .i64 (v:Int)),(2,.pointer (some ⟨b,0,none⟩)),(5,lv),(6,.int .i64 (i:Int)),(7,.int .i64 (k:Int)),(8,.int .i64 (j:Int))])
     (λj lv w'=>j<=(rs i).length/\Ext w3 w'/\RowsV w' lv (putF (enD vars rs v i k++((rs i).take j).map λr=>[r.getD k V0]))/\(putF (enD vars rs v i k++((rs i).take j).map λr=>[r.getD k V0])).length<=320*i+10*k+j) (λj _=>(rs i).length-j) 0 lv sB
     ⟨Nat.zero_le _,Ext.refl _,by simpa using o,by simpa using J⟩ ?_
    clear o J lv;rintro j lv w4 ⟨hj,G,o,J⟩;have ah:=Z.trans G;have a6:=ad.ext G;obtain ⟨bc,a5,aw⟩:=(hM.ext (a9.trans ah)).r;obtain ⟨ri,ak,b8⟩:=aw i U;obtain ⟨TA,tc,rfl,av,au,ao,a2,ac⟩:=b8.parts;refine ρ ?_;refine ld (a6.at (i:=4) rfl) ?_;refine ρ ?_;refine ix i a5 U ?_;refine ρ ?_;refine ld (a5.cell ak) ?_;refine ρ ?_;refine ci (λh=>?_) (λh=>?_)
    ·have lj:j<(rs i).length:=by have:=oT h;omega
     clear h;obtain ⟨xv,a7,a3⟩:=ac j lj;have bf:=hP.len i U _ (getD_mem' [] (rs i) lj);obtain ⟨XA,xc,rfl,af,ae,a1⟩:=id a3;refine ρ ?_;refine ld (a6.at (i:=4) rfl) ?_;refine ρ ?_;refine ix i a5 U ?_;refine ρ ?_;refine ld (a5.cell ak) ?_;refine ρ ?_;refine ix j a2 lj ?_;refine ρ ?_;refine ld (a2.cell a7) ?_;refine ρ ?_;refine ixq 3 k a1 (by omega) ?_;refine ρ ?_;refine lds (cs:=(((rs i).getD j []).getD k V0).cells) (λq u hu=>RdR.cell a1 (by omega) hu) ?_;refine ρ ?_;refine bsl (Xqs _) ?_;intro w5 b5 ag bm b9;refine ρ ?_;refine cl (refPut_any (o.ext ag) (Blk.rowV b9) (BoolsV.nil _ none 0) (putF_set _).1 (by omega)) ?_;rintro ap w6 ⟨az,aq,_⟩;have e:enD vars rs v i k++((rs i).take (j+1)).map (λr=>[r.getD k V0])=(enD vars rs v i k++((rs i).take j).map λr=>[r.getD k V0])++[[((rs i).getD j []).getD k V0]]:=by
      rw [Jjp [] lj,List.map_append,List.append_assoc];rfl
     have bh:=putF_len (enD vars rs v i k++((rs i).take j).map λr=>[r.getD k V0]) [((rs i).getD j []).getD k V0];refine ρ ?_;refine Jjm (j+1) ap sO ⟨lj,(G.trans ag).trans aq,by rw [e,putF_snoc];exact az,by rw [e];omega⟩ (by omega)
    ·have b1:j=(rs i).length:=by have:=oF h;omega
     subst b1;clear h;rw [List.take_length,<-O]at o J;refine ρ ?_;exact Jjm (k+1) lv sO ⟨lk,C.trans G,o,by omega⟩ (by omega)
  ·have ab:k=(vars i).length:=by have:=oF h;omega
   subst ab;clear h;have e:(List.range (i+1)).flatMap (enI vars rs v)=enD vars rs v i (vars i).length:=by
    unfold enD;rw [List.range_succ,List.flatMap_append];simp [enI]
   refine ρ ?_;refine Jjm (i+1) lv sO ⟨U,Z,by rw [e];exact o,by rw [e];omega⟩ (by omega)
 ·have b2:i=m:=by have:=oF h;omega
  subst b2;clear h;have eR:putF ((List.range i).flatMap (enI vars rs v))=valR i vars rs v:=rfl;rw [eR]at o J;obtain ⟨TA,tc,rfl,av,au,ao,a2,ac⟩:=o.parts;refine ρ ?_;refine Jqb (fun (k:Nat) (vo:Value)=>[(5,.slice TA (valR i vars rs v).length tc),(9,vo),(10,.int .i64 (k:Int))])
   (λk vo w'=>k<=(valR i vars rs v).length/\Ext w2 w'/\Qzv w' w2.heap.size vo ((Xzz i vars rs v).take k)) (λk _=>(valR i vars rs v).length-k) 0 (.slice none 0 0) sB
   ⟨Nat.zero_le _,Ext.refl _,Jxm _ _ _ _⟩ ?_
  have ai:(Xzz i vars rs v).length=(valR i vars rs v).length:=by simp [Xzz]
  rintro k vo w3 ⟨hk,C,ho⟩;refine ρ ?_;refine ci (λh=>?_) (λh=>?_)
  ·have lk:k<(valR i vars rs v).length:=by have:=oT h;omega
   clear h;obtain ⟨xv,a7,a3⟩:=ac k lk;obtain ⟨x,hx⟩:=Qkh (getD_mem' [] _ lk);rw [hx]at a3;obtain ⟨XA,xc,rfl,af,ae,a1⟩:=id (a3.ext C);refine ρ ?_;refine ix k (a2.ext C) lk ?_;refine ρ ?_;refine ld ((a2.ext C).cell a7) ?_;refine ρ ?_;refine ixq 3 0 a1 (by simp) ?_;refine ρ ?_;refine lds (cs:=x.cells) (λq u hu=>RdR.cell (r:=[x]) a1 (i:=0) (by simp) hu) ?_;refine ρ ?_;refine bsl (bs1VVs x) ?_;intro w4 b4 G bn a6;have bl:((Xzz i vars rs v).take k).length=k:=by rw [List.length_take];omega
   refine ρ ?_;refine apb (m':=1) (news:=x.cells) EVv (Jjb ho G) (a6.rd (n:=1) rfl) (V.one _) (by unfold maxLen;omega) (by omega) (C.trans G).size ?_;intro v5 w5 ax b3 bj;have e:(Xzz i vars rs v).take (k+1)=(Xzz i vars rs v).take k++[x]:=by
    rw [Jjp V0 (by omega)];congr 2
    have:(Xzz i vars rs v).getD k V0=((valR i vars rs v).getD k []).getD 0 V0:=by
     unfold Xzz;simp only [List.getD,List.getElem?_map,List.getElem?_eq_getElem lk,Option.map_some,Option.getD_some]
    rw [this,hx];rfl
   refine ρ ?_;refine Jjm (k+1) v5 sO ⟨lk,Jjk (C.trans G) b3 (Jyx (Jjb ho G)),?_⟩ (by omega);rw [Qzv,e,List.length_append,rowC_app',rowC_one''];exact ax
  ·have ab:k=(valR i vars rs v).length:=by have:=oF h;omega
   rw [ab,<-ai,List.take_length]at ho;obtain ⟨A3,c3,rfl,b6,_⟩:=Jjd ho;refine ρ ?_;exact Jjr ⟨⟨⟨A3,c3,rfl,b6,by omega,Rd.own ho⟩,by omega⟩,(a9.trans a8).trans C⟩
end
open Go.RowKit Pl Go.Wk
attribute [local irreducible] WM
theorem putD_len(ds:List Bool)(l:List Row)(r:Row): (Xkv ds l r).length<=l.length+1:=by
 unfold Xkv;split
 ·omega
 ·have:=Xvh ds l r;simp;omega
section
variable {n f:Int} {pA VA RA:Option Addr} {pn pc vc rc N m:Nat} {vars:Nat->List Nat} {rs:Nat->List Row} {w:World}
theorem bagR_len(hP:RefP N m vars rs){k:Nat}(hk:k<=N): (Qrc m vars rs (List.range N) k).length<=5000:=nL (Qcp hP.asc hP.len hP.cov hk) hP.cnt
def rndB(m:Nat)(vars:Nat->List Nat)(rs:Nat->List Row)(vl:List Nat)(k:Nat)(r:Row)(j:Nat): List Row:=(((Xzz m vars rs (vl.getD k 0)).take j).map λx=>r++[x]).filter (fitB m vars rs (vl.take (k+1)))
theorem rBag_any{s:Nat}(hP:RefP N m vars rs)(hM:RInM w VA RA m vars rs)(hs:s<4294967296)(hbk:bk s 32=List.range N):
  Ret Tryz.prog 136 [.agg (rinC n f pA pn pc VA vc RA rc m).toArray,.int .u32 (s:Int)] w λu w'=>RowsV w' u (Qxs m vars rs N)/\Ext w w':=by
 have cw:=hP.m32;have cv:=hP.n32;refine Jjc Tryz.func136 Tryz.ntmps136 rfl (by kernel_rfl) rfl ?_;refine ρ ?_;refine bx (cs:=rinC n f pA pn pc VA vc RA rc m) ?_;intro w1 b a8 hb hB;refine ρ ?_;refine cl (rList_any hs w1) ?_;rintro lv w2 ⟨bo,c5⟩;rw [hbk]at bo;obtain ⟨LA,lc,rfl,ca,c9,ba⟩:=id bo.n;rw [List.length_range]at ca c9 ba ⊢;refine ρ ?_;refine bsl Qlh ?_;intro w3 b3 bh d5 d7;refine ρ ?_;refine bsl (λw=>Xvq (.slice (some ⟨b3,0,none⟩) 0 0) w _ _ _ rfl) ?_;intro w4 b4 bg d4 ck;have bl:=(c5.trans bh).trans bg;have bj:=bh.trans bg;have h0:RowsV w4 (.slice (some ⟨b4,0,none⟩) 1 1) (Qrc m vars rs (List.range N) 0):=⟨[(.slice (some ⟨b3,0,none⟩) 0 0,[])],_,_,rfl,rfl,by simp,by simp,ck.rd (n:=1) rfl,λp hp=>by
  rw [List.mem_singleton.1 hp];exact ⟨_,_,rfl,by simp,by simp,Rd.nil⟩⟩
 refine ρ ?_;refine Jqb (fun (i:Nat) (ov:Value)=>[(2,.pointer (some ⟨b,0,none⟩)),(5,.slice LA N lc),(6,ov),(7,.int .i64 (i:Int))])
  (λi ov w'=>i<=N/\Ext w4 w'/\RowsV w' ov (Qrc m vars rs (List.range N) i)) (λi _=>N-i) 0 (.slice (some ⟨b4,0,none⟩) 1 1) sB ⟨Nat.zero_le _,Ext.refl _,h0⟩ ?_
 clear h0;rintro i ov w5 ⟨hi,az,b5⟩;have G:=bl.trans az;have ao:=bj.trans az;have bw:=hB.ext G;refine ρ ?_;refine ci (λh=>?_) (λh=>?_)
 ·have li:i<N:=by have:=oT h;omega
  clear h;have bp:=bagR_len hP hi;have ag:=bagR_len hP (show i+1<=N by omega);have ak:Ext w5 w5.drew:=(Ext.refl w5).drew;have bu:=ba.ext (ao.trans ak);have b9:(Jkg (nz (List.range N)))[i]?=some (.int .i64 (i:Int)):=by
   have:=Jzc (cs:=List.range N) (show i<(List.range N).length by simpa using li);rwa [Jnp li]at this
  refine ρ ?_;refine dr [(0,0),(0,1),(0,2),(0,3),(0,4),(1,5),(0,6)] (by kernel_rfl) ?_;refine ρd ?_;refine Jws (cs:=rinC n f pA pn pc VA vc RA rc m) (λj u hu=>(bw.ext ak).at hu) ?_;refine ρd ?_;refine dix i bu li ?_;refine ρd ?_;refine dld (bu.cell b9) ?_;refine ρd ?_;refine dcl (rValues_any hP (hM.ext (a8.trans (G.trans ak))) i) ?_;rintro xv w6 ⟨⟨c4,cy⟩,a4⟩;refine ⟨a4,?_⟩;have a6:=ak.trans a4;obtain ⟨OA,oc,rfl,d2,d1,cr,cj,ch⟩:=id (b5.ext a6).parts;obtain ⟨XA,xc,rfl,cz,cx,cg⟩:=id c4;refine ρd ?_;refine ρ ?_;refine Jqb (fun (k:Nat) (nv:Value)=>[(2,.pointer (some ⟨b,0,none⟩)),(5,.slice LA N lc),(6,.slice OA (Qrc m vars rs (List.range N) i).length oc),(7,.int .i64 (i:Int)),(8,nv),(9,.slice XA (Xzz m vars rs i).length xc),(10,.int .i64 (k:Int))])
   (λk nv w'=>k<=(Qrc m vars rs (List.range N) i).length/\Ext w6 w'/\OwnR w' w6.heap.size nv (((Qrc m vars rs (List.range N) i).take k).flatMap λr=>rndB m vars rs (List.range N) i r (Xzz m vars rs i).length)) (λk _=>(Qrc m vars rs (List.range N) i).length-k) 0 (.slice none 0 0) sB
   ⟨Nat.zero_le _,Ext.refl _,OwnR.nil _ _⟩ ?_
  rintro k nv Z ⟨J,C,a1⟩;refine ρ ?_;refine ci (λh=>?_) (λh=>?_)
  ·have lk:k<(Qrc m vars rs (List.range N) i).length:=by have:=oT h;omega
   clear h;obtain ⟨r,hr⟩:∃ r,r=(Qrc m vars rs (List.range N) i).getD k []:=⟨_,rfl⟩;have d0:r.length=i:=((Jsk hP.asc hP.len hP.cov i hi r).1 (by rw [hr];exact getD_mem' [] _ lk)).1;obtain ⟨yv,c3,bd⟩:=ch k lk;rw [<-hr]at bd;obtain ⟨YA,yc,rfl,co,cn,ce⟩:=id bd;have b2:Qmt m vars rs (List.range N) i (Qrc m vars rs (List.range N) i)=(Qrc m vars rs (List.range N) i).flatMap λr=>rndB m vars rs (List.range N) i r (Xzz m vars rs i).length:=by
    unfold Qmt rndB;rw [Jnp li,List.take_length]
   have Qjk:∀ j,j<=(Xzz m vars rs i).length->(((Qrc m vars rs (List.range N) i).take k).flatMap (λr=>rndB m vars rs (List.range N) i r (Xzz m vars rs i).length)++rndB m vars rs (List.range N) i r j).length<=5000:=λj hj=>by
    refine nL ?_ ag;rw [Qrc,b2];conv=>rhs;rw [<-List.take_append_drop k (Qrc m vars rs (List.range N) i),List.flatMap_append,List.length_append]
    rw [List.length_append];refine Nat.add_le_add_left ?_ _;have hd:(Qrc m vars rs (List.range N) i).drop k=r::(Qrc m vars rs (List.range N) i).drop (k+1):=by
     rw [hr];simp [List.getD,List.getElem?_eq_getElem lk]
    rw [hd,List.flatMap_cons,List.length_append];refine nL ?_ (Nat.le_add_right _ _);unfold rndB;refine List.Sublist.length_le (List.Sublist.filter _ (List.Sublist.map _ ?_));rw [Jnp li,List.take_length];exact List.take_sublist _ _
   refine ρ ?_;refine Jqb (fun (j:Nat) (nv:Value)=>[(2,.pointer (some ⟨b,0,none⟩)),(5,.slice LA N lc),(6,.slice OA (Qrc m vars rs (List.range N) i).length oc),(7,.int .i64 (i:Int)),(8,nv),(9,.slice XA (Xzz m vars rs i).length xc),(10,.int .i64 (k:Int)),(11,.int .i64 (j:Int))])
    (λj nv w'=>j<=(Xzz m vars rs i).length/\Ext w6 w'/\OwnR w' w6.heap.size nv (((Qrc m vars rs (List.range N) i).take k).flatMap (λr=>rndB m vars rs (List.range N) i r (Xzz m vars rs i).length)++rndB m vars rs (List.range N) i r j)) (λj _=>(Xzz m vars rs i).length-j) 0 nv sB
    ⟨Nat.zero_le _,C,by simpa [rndB] using a1⟩ ?_
   clear a1 nv C Z;rintro j nv Z ⟨hj,C,a1⟩;refine ρ ?_;refine ci (λh=>?_) (λh=>?_)
   ·have lj:j<(Xzz m vars rs i).length:=by have:=oT h;omega
    clear h;obtain ⟨x,hx⟩:∃ x,x=(Xzz m vars rs i).getD j V0:=⟨_,rfl⟩;have bm:rndB m vars rs (List.range N) i r (j+1)=rndB m vars rs (List.range N) i r j++if fitB m vars rs ((List.range N).take (i+1)) (r++[x])=true then [r++[x]] else []:=by
     unfold rndB;rw [Jnp li,Jjp V0 lj,List.map_append,List.filter_append,<-hx];congr 1
     by_cases hf:fitB m vars rs ((List.range N).take (i+1)) (r++[x])=true
     ·rw [if_pos hf];exact List.filter_cons_of_pos hf
     ·rw [if_neg hf];exact List.filter_cons_of_neg hf
    have ay:Ext Z Z.drew:=(Ext.refl Z).drew;have a5:=C.trans ay;have ai:=Rd.ext ce a5;have au:=Rd.ext cg a5;have av:=cj.ext a5;have xt:∀ {W:World},GrN (λk=>Z.drew.heap.size<=k) Z.drew W->Ext Z.drew W:=λh=>h.old (Ext.refl _) λk J=>J;refine ρ ?_;refine drM (λk=>Z.drew.heap.size<=k) ?_;refine Qnl (fuel':=5) [(0,1),(0,2),(0,3),(0,4),(0,6),(0,7),(0,8),(0,9)] #[false,true,true,true,true,false,true,true,true,true,false,false,false] (by kernel_rfl) (by kernel_rfl) rfl ?_;refine ρn ?_;refine nix k av lk ?_;refine ρn ?_;refine nld (λw' hg=>(av.ext (xt hg)).cell c3) ?_;refine ρn ?_;refine Qbb 3 j au (by omega) ?_;refine ρn ?_;refine Jlg (cs:=x.cells) (λw' hg q u hu=>RdR.cell (Rd.ext au (xt hg)) lj (by rw [<-hx];exact hu)) ?_;refine ρn ?_;refine Jrk ?_;refine mcut 2 (lst 13 11) (fun (q:Value×Nat)=>[(46,q.1),(51,.slice (some ⟨q.2,0,none⟩) 1 1),(2,.pointer (some ⟨b,0,none⟩)),(5,.slice LA N lc),(6,.slice OA (Qrc m vars rs (List.range N) i).length oc),(7,.int .i64 (i:Int)),(8,nv),(9,.slice XA (Xzz m vars rs i).length xc),(10,.int .i64 (k:Int)),(11,.int .i64 (j:Int))])
     (λq W=>Ext Z.drew W/\W.ownsRow Z.drew.heap.size 71 3 q.1 r.length (Jzj r)/\Blk W q.2 71 x.cells) ?_ ?_
    ·rintro ⟨a7,aa⟩ W ⟨be,b7,bv⟩;simp only at b7 bv;refine Qmj 11 (by kernel_rfl) rfl rfl ?_;refine apb (m':=1) (news:=x.cells) EV b7 (bv.rd (n:=1) rfl) (V.one _) (by unfold maxLen;omega) (by omega) be.size ?_;intro cq W2 a9 b8 c8;obtain ⟨_,_,rfl,_,br⟩:=Jjd b7;have O:GrN (λk=>Z.drew.heap.size<=k) W W2:=GrN.by b8 λk J=>(br k J).1
     have bi:=O.old be λk J=>J;refine Jzr (Jzt O ?_);refine Qnl (fuel':=0) [(0,12)] (lst 13 13) (by kernel_rfl) (by kernel_rfl) rfl ?_;refine ρn ?_;refine Jrk ?_;refine mend (by kernel_rfl) ?_;have cm:Jzj r++x.cells=Jzj (r++[x]):=by rw [rowC_app',rowC_one'']
     have c2:r.length+1=(r++[x]).length:=by simp
     rw [cm,c2]at a9;obtain ⟨bc,bb,rfl,bs,bq⟩:=Jjd a9;have c0:RowX W2 (own w6.heap.size nv) (.slice bc (r++[x]).length bb) (r++[x]):=by
      refine ⟨bc,bb,rfl,bs,by simp;omega,Rd.own a9,λ_ ad e J=>?_⟩;have h1:=(bq ad.block (by rw [e];simp [Value.ownBlock])).1;have h2:=a5.size;rcases J with J|J
      ·omega
      ·have:=(a1.lt _ J).2;have:=ay.size;omega
     have ax:Ext W2 W2.drew:=(Ext.refl W2).drew;have am:=(ay.trans bi).trans ax;have an:=C.trans am;have ap:=G.trans (a6.trans an);have b1:=ao.trans (a6.trans an);have c6:IntsV W2.drew (.slice LA (i+1) lc) (nz ((List.range N).take (i+1))):=by
      have hl:((List.range N).take (i+1)).length=i+1:=by rw [List.length_take,List.length_range];omega
      refine ⟨LA,lc,by rw [Jqp,hl],by rw [Jqp,hl];omega,by rw [Jqp,hl];omega,?_⟩;have:=(ba.ext b1).take (m:=i+1) (by omega);rw [Jqp,hl];have e:(Jkg (nz (List.range N))).take ((i+1)*1)=Jkg (nz ((List.range N).take (i+1))):=by rw [Nat.mul_one];simp only [Jkg,nz,List.map_take]
      rw [e]at this;exact this
     refine ρ ?_;refine drN (λ_=>False) 10 [(0,0),(0,1),(0,2),(0,3),(0,4),(0,5),(1,6)] (by kernel_rfl) ?_;refine ρn ?_;refine Jlg (cs:=rinC n f pA pn pc VA vc RA rc m) (λw' hg j u hu=>((hB.ext ap).ext hg.toExt).at hu) ?_;refine ρn ?_;refine nslh (A:=LA) (m:=N) (c:=lc) (i+1) ?_ (by omega);refine ρn ?_;refine nop ?_;refine cl (rFits_any hP (hM.ext (a8.trans ap)) c6 (c0.v.ext ax) (λu hu=>by have:=List.mem_range.1 (List.mem_of_mem_take hu);omega) (by simp;omega)) ?_;rintro _ W3 ⟨rfl,ae⟩;refine ρ ?_;refine Jqt (GrN.ext ae) ?_;refine ρn ?_;have a3:=am.trans ae;have aq:=a1.ext a3;refine ρ ?_;refine ci (λhf=>?_) (λhf=>?_)
     ·refine ρ ?_;refine bsl (λw=>Xvq (.slice bc (r++[x]).length bb) w _ _ _ rfl) ?_;intro W4 d8 ac cp bz;refine ρ ?_;refine appR (a:=w6) (C.trans (a3.trans ac)) ER (aq.ext ac) bz ((((c0.ext ax).ext ae)).ext ac) (by have:=Qjk j (by omega);omega) ?_;intro c1 W5 bn bf _;refine ρ ?_;refine Jjm (j+1) c1 sO ⟨lj,bf,?_⟩ (by omega);rw [bm,if_pos hf,<-List.append_assoc];exact bn
     ·refine ρ ?_;refine Jjm (j+1) nv sO ⟨lj,C.trans a3,?_⟩ (by omega);rw [bm,if_neg (by rw [hf];simp),List.append_nil];exact aq
    ·intro rest;have ab:∀ {W:World} {g:Nat},Blk W g 71 ([]:List Value)->Z.drew.heap.size<=g->W.ownsRow Z.drew.heap.size 71 3 (.slice (some ⟨g,0,none⟩) 0 0) 0 []:=λhB hb=>hB.own (n:=0) hb rfl (Nat.zero_le _);refine mtwo 0 10 (by kernel_rfl) rfl rfl rfl ?_ ?_
     ·refine ρ ?_;refine bsl Qlh ?_;intro W1 b0 o a2 aj;refine Jzr (Jzt (GrN.ext o) ?_);refine mtwo 5 10 (by kernel_rfl) rfl rfl rfl ?_ ?_
      ·refine apb (m':=r.length) (news:=Jzj r) EV (ab aj a2) (ai.ext o) (Qkp r) (by unfold maxLen;omega) (by omega) o.size ?_;intro a7 W2 a9 b8 c8;rw [Nat.zero_add,List.nil_append]at a9;have O:GrN (λk=>Z.drew.heap.size<=k) W1 W2:=GrN.by b8 λk J=>by simp [Value.ownBlock]at J;omega
       refine Jzr (Jzt O ?_);refine Qmj 10 (by kernel_rfl) rfl rfl ?_;refine bsl (Qlg x) ?_;intro W3 aa aw ar U;refine Jzr (Jzt (GrN.ext aw) ?_);refine Qbf (listed':=lst 13 11) (by kernel_rfl) ?_;exact rest (a7,aa) _ _ ⟨(O.old o λk J=>J).trans aw,Jjb a9 aw,U⟩ sB
      ·refine ρ ?_;refine bsl (Qlg x) ?_;intro W2 aa D ar U;refine Jzr (Jzt (GrN.ext D) ?_);refine Qmj 5 (by kernel_rfl) rfl rfl ?_;refine apb (m':=r.length) (news:=Jzj r) EV (ab (aj.ext D) a2) (ai.ext (o.trans D)) (Qkp r) (by unfold maxLen;omega) (by omega) (o.trans D).size ?_;intro a7 W3 af ah c7;rw [Nat.zero_add,List.nil_append]at af;have O:GrN (λk=>Z.drew.heap.size<=k) W2 W3:=GrN.by ah λk J=>by simp [Value.ownBlock]at J;omega
       refine Jzr (Jzt O ?_);refine Qbf (listed':=lst 13 11) (by kernel_rfl) ?_;refine rest (a7,aa) _ _ ⟨O.old (o.trans D) λk J=>J,af,U.grown ah ?_⟩ sB;have:=aj.lt;simp [Value.ownBlock];omega
     ·refine ρ ?_;refine bsl (Qlg x) ?_;intro W1 aa o ar U;refine Jzr (Jzt (GrN.ext o) ?_);refine Qmj 0 (by kernel_rfl) rfl rfl ?_;refine bsl Qlh ?_;intro W2 b0 D a2 aj;refine Jzr (Jzt (GrN.ext D) ?_);refine Qmj 5 (by kernel_rfl) rfl rfl ?_;have bt:=nL o.size a2;refine apb (m':=r.length) (news:=Jzj r) EV (ab aj bt) (ai.ext (o.trans D)) (Qkp r) (by unfold maxLen;omega) (by omega) (o.trans D).size ?_;intro a7 W3 af ah c7;rw [Nat.zero_add,List.nil_append]at af;have O:GrN (λk=>Z.drew.heap.size<=k) W2 W3:=GrN.by ah λk J=>by simp [Value.ownBlock]at J;omega
      refine Jzr (Jzt O ?_);refine Qbf (listed':=lst 13 11) (by kernel_rfl) ?_;refine rest (a7,aa) _ _ ⟨O.old (o.trans D) λk J=>J,af,(U.ext D).grown ah ?_⟩ sB;have:=U.lt;simp [Value.ownBlock];omega
   ·have cc:j=(Xzz m vars rs i).length:=by have:=oF h;omega
    subst cc;clear h;refine ρ ?_;refine Jjm (k+1) nv sO ⟨lk,C,?_⟩ (by omega);rw [Jjp [] lk,List.flatMap_append,<-hr];simpa using a1
  ·have cb:k=(Qrc m vars rs (List.range N) i).length:=by have:=oF h;omega
   subst cb;clear h;rw [List.take_length]at a1;refine ρ ?_;refine Jjm (i+1) nv sO ⟨li,(az.trans a6).trans C,?_⟩ (by omega);have e:Qrc m vars rs (List.range N) (i+1)=(Qrc m vars rs (List.range N) i).flatMap λr=>rndB m vars rs (List.range N) i r (Xzz m vars rs i).length:=by
    rw [Qrc];unfold Qmt rndB;rw [Jnp li,List.take_length]
   rw [e]at ag ⊢;exact a1.rows (by omega)
 ·have cd:i=N:=by have:=oF h;omega
  subst cd;clear h;have bp:=bagR_len hP (Nat.le_refl i);refine ρ ?_;refine ki 68 (λh=>?_) (λh=>?_)
  ·have h0:i=0:=by have:=Jqn h;omega
   clear h;refine ρ ?_;refine lds (cs:=rinC n f pA pn pc VA vc RA rc m) (λj u hu=>bw.at hu) ?_;refine ρ ?_;refine bsl Qlh ?_;intro w6 b6 a4 d3 d6;refine ρ ?_;refine cl (rFits_any (vl:=[]) (r:=[]) hP (hM.ext (a8.trans (G.trans a4))) ⟨none,0,rfl,Nat.le_refl _,Nat.zero_le _,Rd.nil⟩ ⟨some ⟨b6,0,none⟩,0,rfl,Nat.le_refl _,Nat.zero_le _,Rd.nil⟩ (λu hu=>by cases hu) rfl) ?_;rintro _ Z ⟨rfl,C⟩;refine ρ ?_;subst h0;refine ci (λhf=>?_) (λhf=>?_)
   ·have a2:fitB m vars rs [] []=false:=by cases hh:fitB m vars rs [] []<;>first|rfl|(rw [hh]at hf;cases hf)
    refine ρ ?_;refine Jjr ⟨?_,(a8.trans G).trans (a4.trans C)⟩;unfold Qxs;rw [if_pos rfl,a2];exact ⟨[],none,0,rfl,rfl,Nat.le_refl _,Nat.zero_le _,Rd.nil,λp hp=>by cases hp⟩
   ·have a2:fitB m vars rs [] []=true:=by cases hh:fitB m vars rs [] []<;>first|rfl|(rw [hh]at hf;cases hf)
    refine ρ ?_;refine Jjr ⟨?_,(a8.trans G).trans (a4.trans C)⟩;unfold Qxs;rw [if_pos rfl,if_pos a2];exact b5.ext (a4.trans C)
  ·have h0:i≠0:=λe=>by have:=Jqk h;omega
   clear h;refine ρ ?_;refine Jjr ⟨?_,a8.trans G⟩;unfold Qxs;rw [if_neg h0];exact b5
end
open Go.RowKit Pl Go.Wk
theorem bk_ones{N:Nat}(hN:N<=32): bk (2^N-1) 32=List.range N:=by
 have key:∀ k,bk (2^N-1) k=List.range (min k N):=by
  intro k;induction k with
  | zero=>rfl
  | succ k ih=>
   rw [Jyp,ih,Nat.testBit_two_pow_sub_one];by_cases h:k<N
   ·rw [if_pos (by simpa using h),Nat.min_eq_left (by omega),Nat.min_eq_left (by omega),List.range_succ]
   ·rw [if_neg (by simpa using h),Nat.min_eq_right (by omega),Nat.min_eq_right (by omega),List.append_nil]
 rw [key,Nat.min_eq_right hN]
theorem joinF_row{m N:Nat}{vars:Nat->List Nat}{rs:Nat->List Row}(hP:RefP N m vars rs){z:Row}(hz:z∈Qxs m vars rs N): z.length=N:=((Jtx hP.asc hP.len hP.lt hP.cov z).1 hz).1
section
variable {pA VA RA:Option Addr} {pn pc vc rc N m:Nat} {f:Int} {vars:Nat->List Nat} {rs:Nat->List Row} {w:World}
theorem rJoin_any(hP:RefP N m vars rs)(hM:RInM w VA RA m vars rs)(hN:N<=31):
  Ret Tryz.prog 92 [.agg (rinC (N:Int) f pA pn pc VA vc RA rc m).toArray] w λu w'=>RowsV w' u (Qxs m vars rs N)/\Ext w w':=by
 refine Jjc Tryz.func92 Tryz.ntmps92 rfl (by kernel_rfl) rfl ?_;refine ρ ?_;refine bx (cs:=rinC (N:Int) f pA pn pc VA vc RA rc m) ?_;intro O b o U G;refine ρ ?_;refine lds (cs:=rinC (N:Int) f pA pn pc VA vc RA rc m) (λj u D=>G.at D) ?_;refine ρ ?_;refine ld (G.at (i:=0) rfl) ?_;refine ρ ?_;refine Go.Wk.kv 6 (congrArg (λz=>Value.int .u64 z) (Xxr (z:=(N:Int)) (by omega))) ?_;refine sl32g (v:=N) (by omega) ?_;refine ρ ?_;have h1:1<=2^N:=Nat.pow_pos (by decide);have Z:=Jvl (show N<32 by omega);have e:IntKind.u32.wrap (((2^N:Nat):Int)-1)=((2^N-1:Nat):Int):=by rw [IntKind.wrap_u32];omega
 refine Go.Wk.kv 8 (congrArg (λz=>Value.int .u32 z) e) ?_;refine cl (rBag_any hP (hM.ext o) (by omega) (bk_ones (by omega))) ?_;rintro u J ⟨D,C⟩;refine ρ ?_;exact Jjr ⟨D,o.trans C⟩
theorem rAnswersF_any{F:Nat}{ds:List Bool}{dv:Value}(hP:RefP N m vars rs)(hM:RInM w VA RA m vars rs)(hN:N<=31)(hF:F<=N)(hd:BoolsV w dv ds):
  Ret Tryz.prog 55 [.agg (rinC (N:Int) (F:Int) pA pn pc VA vc RA rc m).toArray,dv] w λu w'=>RowsV w' u (ansF m vars rs N F ds)/\Ext w w'/\Fresh w u:=by
 have an:(Qxs m vars rs N).length<=5000:=nL (Qgr hP.asc hP.len hP.cov) hP.cnt;refine Jjc Tryz.func55 Tryz.ntmps55 rfl (by kernel_rfl) rfl ?_;refine ρ ?_;refine bx (cs:=rinC (N:Int) (F:Int) pA pn pc VA vc RA rc m) ?_;intro w1 b G hb hB;refine ρ ?_;refine lds (cs:=rinC (N:Int) (F:Int) pA pn pc VA vc RA rc m) (λj u hu=>hB.at hu) ?_;refine ρ ?_;refine cl (rJoin_any hP (hM.ext G) hN) ?_;rintro jv w2 ⟨hj,a3⟩;obtain ⟨JA,jc,rfl,ao,am,ai,ac,ab⟩:=hj.parts;refine ρ ?_;refine Jqb (fun (i:Nat) (U:Value)=>[(1,dv),(2,.pointer (some ⟨b,0,none⟩)),(5,U),(6,.slice JA (Qxs m vars rs N).length jc),(7,.int .i64 (i:Int))])
  (λi U w'=>i<=(Qxs m vars rs N).length/\Ext w2 w'/\Fresh w2 U/\RowsV w' U ((((Qxs m vars rs N).take i).map (List.take F)).foldl (Xkv ds) [])/\((((Qxs m vars rs N).take i).map (List.take F)).foldl (Xkv ds) []).length<=i) (λi _=>(Qxs m vars rs N).length-i) 0 (.slice none 0 0) sB
  ⟨Nat.zero_le _,Ext.refl _,(λad n c e=>by cases e),⟨[],none,0,rfl,rfl,Nat.le_refl _,Nat.zero_le _,Rd.nil,λp hp=>by cases hp⟩,Nat.le_refl _⟩ ?_
 rintro i U w3 ⟨hi,C,J,O,ak⟩;have D:=a3.trans C;refine ρ ?_;refine ci (λh=>?_) (λh=>?_)
 ·have Z:i<(Qxs m vars rs N).length:=by have:=oT h;omega
  clear h;obtain ⟨xv,a7,a1⟩:=ab i Z;obtain ⟨z,hz⟩:∃ z,z=(Qxs m vars rs N).getD i []:=⟨_,rfl⟩;have aj:z.length=N:=joinF_row hP (by rw [hz];exact getD_mem' [] _ Z);rw [<-hz]at a1;obtain ⟨XA,xc,rfl,ah,ag,aa⟩:=id a1;have o:Ext w3 w3.drew:=(Ext.refl w3).drew;have a4:=Jlv (ds:=ds) (((Qxs m vars rs N).take i).map (List.take F)) (done:=[]) (l:=[]) ⟨List.Pairwise.nil,λx=>Iff.rfl⟩;refine ρ ?_;refine drN (λ_=>False) 10 [(0,0),(0,1),(0,2),(0,3),(0,4),(0,5),(0,6),(0,7),(0,8),(1,9),(0,10)] (by kernel_rfl) ?_;have a5:=ac.ext (C.trans o);have ae:=(hB.ext D).ext o;refine ρn ?_;refine nix i a5 Z ?_;refine ρn ?_;refine nld (λw' hg=>(a5.ext hg.toExt).cell a7) ?_;refine ρn ?_;refine nld (Jjg (ae.at (i:=1) rfl) (λe=>e)) ?_;refine ρn ?_;refine nslh (A:=XA) (m:=z.length) (c:=xc) F ?_ (by omega);refine ρn ?_;refine nop ?_;have a8:RowV w3.drew (.slice XA F xc) (z.take F):=by
   have hl:(z.take F).length=F:=by rw [List.length_take];omega
   refine ⟨XA,xc,by rw [hl],by rw [hl];omega,by rw [hl];omega,?_⟩;have:=(Rd.ext aa (C.trans o)).take (m:=F) (by omega);rw [Qfq z (by omega)]at this;unfold RdR;rw [hl];exact this
  refine cl (refPut_any (O.ext o) a8 (hd.ext ((G.trans D).trans o)) a4.1 (by omega)) ?_;rintro a6 w4 ⟨h4,a2,af⟩;refine ρ ?_;refine Jqt (GrN.ext a2) ?_;refine ρn ?_;have e:(((Qxs m vars rs N).take (i+1)).map (List.take F)).foldl (Xkv ds) []=Xkv ds ((((Qxs m vars rs N).take i).map (List.take F)).foldl (Xkv ds) []) (z.take F):=by
   rw [Jjp [] Z,<-hz,List.map_append,List.foldl_append];rfl
  refine ρ ?_;refine Jjm (i+1) a6 sO ⟨Z,(C.trans o).trans a2,?_,by rw [e];exact h4,?_⟩ (by omega)
  ·rcases af with h'|h'
   ·rw [h'];exact J
   ·exact λad n c e=>nL (C.trans o).size (h' ad n c e)
  rw [e];have:=putD_len ds ((((Qxs m vars rs N).take i).map (List.take F)).foldl (Xkv ds) []) (z.take F);omega
 ·have a9:i=(Qxs m vars rs N).length:=by have:=oF h;omega
  rw [a9,List.take_length]at O;refine ρ ?_;exact Jjr ⟨O,G.trans D,λad n c e=>nL (G.trans a3).size (J ad n c e)⟩
theorem rAnswers_any{F:Nat}{ds:List Bool}{dv:Value}(hP:RefP N m vars rs)(hM:RInM w VA RA m vars rs)(hN:N<=31)(hF:F<=N)(hd:BoolsV w dv ds):
  Ret Tryz.prog 55 [.agg (rinC (N:Int) (F:Int) pA pn pc VA vc RA rc m).toArray,dv] w λu w'=>RowsV w' u (ansF m vars rs N F ds)/\Ext w w':=(rAnswersF_any hP hM hN hF hd).mono λu w' h=>⟨h.1,h.2.1⟩
end
end Go.Proofs.YtefpailelagbkaaGreatDoor
