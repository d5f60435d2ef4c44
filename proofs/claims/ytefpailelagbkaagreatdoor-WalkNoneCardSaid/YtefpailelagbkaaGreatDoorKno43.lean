/- Part 1 of the proof: Rf5, Rf6, Lw1, Lw2, Lw4. -/
import Derived.Test.YtefpailelagbkaaGreatDoorKno42
set_option linter.unusedVariables false
set_option maxRecDepth 100000
set_option maxHeartbeats 40000000
namespace Go.Proofs.YtefpailelagbkaaGreatDoor
open Go.RowKit Pl Go.Wk
attribute [local irreducible] WC WL QX WD WDB WP WN WG WH WM
theorem putD_len(ds:List Bool)(l:List Row)(r:Row): (Xkv ds l r).length<=l.length+1:=by
 unfold Xkv;split
 ·omega
 ·have:=Xvh ds l r;simp;omega
section
variable {n f:Int} {pA VA RA:Option Addr} {pn pc vc rc N m:Nat} {vars:Nat->List Nat} {rs:Nat->List Row} {w:World}
theorem bagR_len(hP:RefP N m vars rs){k:Nat}(hk:k<=N): (Qrc m vars rs (List.range N) k).length<=5000:=nL (Qcp hP.asc hP.len hP.cov hk) hP.cnt
def rndB(m:Nat)(vars:Nat->List Nat)(rs:Nat->List Row)(vl:List Nat)(k:Nat)(r:Row)(j:Nat): List Row:=(((Xzz m vars rs (vl.getD k 0)).take j).map λx=>r++[x]).filter (fitB m vars rs (vl.take (k+1)))
theorem rBag_any{s:Nat}(hP:RefP N m vars rs)(hM:RInM w VA RA m vars rs)(hs:s<4294967296)(hbk:bk s 32=List.range N):
  Ret Tryz.prog 136 [.agg (rinC n f pA pn pc VA vc RA rc m).toArray,.int .u32 (s:Int)] w λu w'=>RowsV w' u (Qxs m vars rs N)/\Ext w w':=by
 have cw:=hP.m32;have cv:=hP.n32;refine Jjc Tryz.func136 Tryz.ntmps136 rfl (by kernel_rfl) rfl ?_;refine ρ ?_;refine bx (cs:=rinC n f pA pn pc VA vc RA rc m) ?_;intro w1 b a8 hb hB;refine ρ ?_;refine cl (rList_any hs w1) ?_;rintro lv w2 ⟨bo,c5⟩;rw [hbk]at bo;obtain ⟨LA,lc,rfl,ca,c9,ba⟩:=id bo.n;rw [List.length_range]at ca c9 ba ⊢;refine ρ ?_;refine bsl Qlh ?_;intro w3 b3 bh d5 d7;refine ρ ?_;refine bsl (λw=>Xvq (.slice (some ⟨b3,0,none⟩) 0 0) w _ _ _ rfl) ?_;intro w4 b4 bg d4 ck;have bl:=(c5.trans bh).trans bg;have bj:=bh.trans bg;have h0:RowsV w4 (.slice (some ⟨b4,0,none⟩) 1 1) (Qrc m vars rs (List.range N) 0):=⟨[(.slice (some ⟨b3,0,none⟩) 0 0,[])],_,_,rfl,rfl,by simp,by simp,ck.rd (n:=1) rfl,λp hp=>by
  rw [List.mem_singleton.1 hp];exact ⟨_,_,rfl,by simp,by simp,Rd.nil⟩⟩
 refine ρ ?_;refine Jqb (fun (i:Nat) (ov:Value)=>[(2,.pointer (some ⟨b,0,none⟩)),(5,.slice LA N lc),(6,ov),(7,.int .i64 (i:Int))])
  (λi ov w'=>i<=N/\Ext w4 w'/\RowsV w' ov (Qrc m vars rs (List.range N) i)) (λi _=>N-i) 0 (.slice (some ⟨b4,0,none⟩) 1 1) sB ⟨Nat.zero_le _,Ext.refl _,h0⟩ ?_
 clear h0;rintro i ov w5 ⟨hi,az,b5⟩;have G:=bl.trans az;have ao:=bj.trans az;have bw:=hB.ext G;refine ρ ?_;refine ci (λh=>?_) (λh=>?_)
 ·have li:i<N:=by have:=oT h;omega
  clear h;have bp:=bagR_len hP hi;have ag:=bagR_len hP (show i+1<=N by omega);have ak:Ext w5 w5.drew:=(Ext.refl w5).drew;have bu:=ba.ext (ao.trans ak);have b9:(Jkg (nz (List.range N)))[i]?=some (.int .i64 (i:Int)):=by
   have:=Jzc (cs:=List.range N) (show i<(List.range N).length by simpa using li);rwa [Jnp li]at this
  refine ρ ?_;refine dr [(0,0),(0,1),(0,2),(0,3),(0,4),(1,5),(0,6)] (by kernel_rfl) ?_;refine ρd ?_;refine Jws (cs:=rinC n f pA pn pc VA vc RA rc m) (λj u hu=>(bw.ext ak).at hu) ?_;refine ρd ?_;refine dix i bu li ?_;refine ρd ?_;refine dld (bu.cell b9) ?_;refine ρd ?_;refine dcl (rValues_any hP (hM.ext (a8.trans (G.trans ak))) i) ?_;rintro xv w6 ⟨⟨c4,cy⟩,a4⟩;refine ⟨a4,?_⟩;have a6:=ak.trans a4;obtain ⟨OA,oc,rfl,d2,d1,cr,cj,ch⟩:=id (b5.ext a6).parts;obtain ⟨XA,xc,rfl,cz,cx,cg⟩:=id c4;refine ρd ?_;refine ρ ?_;refine Jqb (fun (k:Nat) (nv:Value)=>[(2,.pointer (some ⟨b,0,none⟩)),(5,.slice LA N lc),(6,.slice OA (Qrc m vars rs (List.range N) i).length oc),(7,.int .i64 (i:Int)),(8,nv),(9,.slice XA (Xzz m vars rs i).length xc),(10,.int .i64 (k:Int))])
   (λk nv w'=>k<=(Qrc m vars rs (List.range N) i).length/\Ext w6 w'/\OwnR w' w6.heap.size nv (((Qrc m vars rs (List.range N) i).take k).flatMap λr=>rndB m vars rs (List.range N) i r (Xzz m vars rs i).length)) (λk _=>(Qrc m vars rs (List.range N) i).length-k) 0 (.slice none 0 0) sB
   ⟨Nat.zero_le _,Ext.refl _,OwnR.nil _ _⟩ ?_
  rintro k nv Z ⟨J,C,a1⟩;refine ρ ?_;refine ci (λh=>?_) (λh=>?_)
  ·have lk:k<(Qrc m vars rs (List.range N) i).length:=by have:=oT h;omega
   clear h;obtain ⟨r,hr⟩:∃ r,r=(Qrc m vars rs (List.range N) i).getD k []:=⟨_,rfl⟩;have d0:r.length=i:=((Jsk hP.asc hP.len hP.cov i hi r).1 (by rw [hr];exact getD_mem' [] _ lk)).1;obtain ⟨yv,c3,bd⟩:=ch k lk;rw [<-hr]at bd;obtain ⟨YA,yc,rfl,co,cn,ce⟩:=id bd;have b2:Qmt m vars rs (List.range N) i (Qrc m vars rs (List.range N) i)=(Qrc m vars rs (List.range N) i).flatMap λr=>rndB m vars rs (List.range N) i r (Xzz m vars rs i).length:=by
    unfold Qmt rndB;rw [Jnp li,List.take_length]
   have Qjk:∀ j,j<=(Xzz m vars rs i).length->(((Qrc m vars rs (List.range N) i).take k).flatMap (λr=>rndB m vars rs (List.range N) i r (Xzz m vars rs i).length)++rndB m vars rs (List.range N) i r j).length<=5000:=λj hj=>by
    refine nL ?_ ag;rw [Qrc,b2];conv=>rhs;rw [<-List.take_append_drop k (Qrc m vars rs (List.range N) i),List.flatMap_append,List.length_append]
    rw [List.length_append];refine Nat.add_le_add_left ?_ _;have hd:(Qrc m vars rs (List.range N) i).drop k=r::(Qrc m vars rs (List.range N) i).drop (k+1):=by
     rw [hr];simp [List.getD,List.getElem?_eq_getElem lk]
    rw [hd,List.flatMap_cons,List.length_append];refine nL ?_ (Nat.le_add_right _ _);unfold rndB;refine List.Sublist.length_le (List.Sublist.filter _ (List.Sublist.map _ ?_));rw [Jnp li,List.take_length];exact List.take_sublist _ _
   refine ρ ?_;refine Jqb (fun (j:Nat) (nv:Value)=>[(2,.pointer (some ⟨b,0,none⟩)),(5,.slice LA N lc),(6,.slice OA (Qrc m vars rs (List.range N) i).length oc),(7,.int .i64 (i:Int)),(8,nv),(9,.slice XA (Xzz m vars rs i).length xc),(10,.int .i64 (k:Int)),(11,.int .i64 (j:Int))])
    (λj nv w'=>j<=(Xzz m vars rs i).length/\Ext w6 w'/\OwnR w' w6.heap.size nv (((Qrc m vars rs (List.range N) i).take k).flatMap (λr=>rndB m vars rs (List.range N) i r (Xzz m vars rs i).length)++rndB m vars rs (List.range N) i r j)) (λj _=>(Xzz m vars rs i).length-j) 0 nv sB
    ⟨Nat.zero_le _,C,by simpa [rndB] using a1⟩ ?_
   clear a1 nv C Z;rintro j nv Z ⟨hj,C,a1⟩;refine ρ ?_;refine ci (λh=>?_) (λh=>?_)
   ·have lj:j<(Xzz m vars rs i).length:=by have:=oT h;omega
    clear h;obtain ⟨x,hx⟩:∃ x,x=(Xzz m vars rs i).getD j V0:=⟨_,rfl⟩;have bm:rndB m vars rs (List.range N) i r (j+1)=rndB m vars rs (List.range N) i r j++if fitB m vars rs ((List.range N).take (i+1)) (r++[x])=true then [r++[x]] else []:=by
     unfold rndB;rw [Jnp li,Jjp V0 lj,List.map_append,List.filter_append,<-hx];congr 1
     by_cases hf:fitB m vars rs ((List.range N).take (i+1)) (r++[x])=true
     ·rw [if_pos hf];exact List.filter_cons_of_pos hf
     ·rw [if_neg hf];exact List.filter_cons_of_neg hf
    have ay:Ext Z Z.drew:=(Ext.refl Z).drew;have a5:=C.trans ay;have ai:=Rd.ext ce a5;have au:=Rd.ext cg a5;have av:=cj.ext a5;have xt:∀ {W:World},GrN (λk=>Z.drew.heap.size<=k) Z.drew W->Ext Z.drew W:=λh=>h.old (Ext.refl _) λk J=>J;refine ρ ?_;refine drM (λk=>Z.drew.heap.size<=k) ?_;refine Qnl (fuel':=5) [(0,1),(0,2),(0,3),(0,4),(0,6),(0,7),(0,8),(0,9)] #[false,true,true,true,true,false,true,true,true,true,false,false,false] (by kernel_rfl) (by kernel_rfl) rfl ?_;refine ρn ?_;refine nix k av lk ?_;refine ρn ?_;refine nld (λw' hg=>(av.ext (xt hg)).cell c3) ?_;refine ρn ?_;refine Qbb 3 j au (by omega) ?_;refine ρn ?_;refine Jlg (cs:=x.cells) (λw' hg q u hu=>RdR.cell (Rd.ext au (xt hg)) lj (by rw [<-hx];exact hu)) ?_;refine ρn ?_;refine Jrk ?_;refine mcut 2 (lst 13 11) (fun (q:Value×Nat)=>[(46,q.1),(51,.slice (some ⟨q.2,0,none⟩) 1 1),(2,.pointer (some ⟨b,0,none⟩)),(5,.slice LA N lc),(6,.slice OA (Qrc m vars rs (List.range N) i).length oc),(7,.int .i64 (i:Int)),(8,nv),(9,.slice XA (Xzz m vars rs i).length xc),(10,.int .i64 (k:Int)),(11,.int .i64 (j:Int))])
     (λq W=>Ext Z.drew W/\W.ownsRow Z.drew.heap.size 71 3 q.1 r.length (Jzj r)/\Blk W q.2 71 x.cells) ?_ ?_
    ·rintro ⟨a7,aa⟩ W ⟨be,b7,bv⟩;simp only at b7 bv;refine Qmj 11 (by kernel_rfl) rfl rfl ?_;refine apb (m':=1) (news:=x.cells) EV b7 (bv.rd (n:=1) rfl) (V.one _) (by unfold maxLen;omega) (by omega) be.size ?_;intro cq W2 a9 b8 c8;obtain ⟨_,_,rfl,_,br⟩:=Jjd b7;have O:GrN (λk=>Z.drew.heap.size<=k) W W2:=GrN.by b8 λk J=>(br k J).1
     have bi:=O.old be λk J=>J;refine Jzr (Jzt O ?_);refine Qnl (fuel':=0) [(0,12)] (lst 13 13) (by kernel_rfl) (by kernel_rfl) rfl ?_;refine ρn ?_;refine Jrk ?_;refine mend (by kernel_rfl) ?_;have cm:Jzj r++x.cells=Jzj (r++[x]):=by rw [rowC_app',rowC_one'']
     have c2:r.length+1=(r++[x]).length:=by simp
     rw [cm,c2]at a9;obtain ⟨bc,bb,rfl,bs,bq⟩:=Jjd a9;have c0:RowX W2 (own w6.heap.size nv) (.slice bc (r++[x]).length bb) (r++[x]):=by
      refine ⟨bc,bb,rfl,bs,by simp;omega,Rd.own a9,λ_ ad e J=>?_⟩;have h1:=(bq ad.block (by rw [e];simp [Value.ownBlock])).1;have h2:=a5.size;rcases J with J|J
      ·omega
      ·have:=(a1.lt _ J).2;have:=ay.size;omega
     have ax:Ext W2 W2.drew:=(Ext.refl W2).drew;have am:=(ay.trans bi).trans ax;have an:=C.trans am;have ap:=G.trans (a6.trans an);have b1:=ao.trans (a6.trans an);have c6:IntsV W2.drew (.slice LA (i+1) lc) (nz ((List.range N).take (i+1))):=by
      have hl:((List.range N).take (i+1)).length=i+1:=by rw [List.length_take,List.length_range];omega
      refine ⟨LA,lc,by rw [Jqp,hl],by rw [Jqp,hl];omega,by rw [Jqp,hl];omega,?_⟩;have:=(ba.ext b1).take (m:=i+1) (by omega);rw [Jqp,hl];have e:(Jkg (nz (List.range N))).take ((i+1)*1)=Jkg (nz ((List.range N).take (i+1))):=by rw [Nat.mul_one];simp only [Jkg,nz,List.map_take]
      rw [e]at this;exact this
     refine ρ ?_;refine drN (λ_=>False) 10 [(0,0),(0,1),(0,2),(0,3),(0,4),(0,5),(1,6)] (by kernel_rfl) ?_;refine ρn ?_;refine Jlg (cs:=rinC n f pA pn pc VA vc RA rc m) (λw' hg j u hu=>((hB.ext ap).ext hg.toExt).at hu) ?_;refine ρn ?_;refine nslh (A:=LA) (m:=N) (c:=lc) (i+1) ?_ (by omega);refine ρn ?_;refine nop ?_;refine cl (rFits_any hP (hM.ext (a8.trans ap)) c6 (c0.v.ext ax) (λu hu=>by have:=List.mem_range.1 (List.mem_of_mem_take hu);omega) (by simp;omega)) ?_;rintro _ W3 ⟨rfl,ae⟩;refine ρ ?_;refine Jqt (GrN.ext ae) ?_;refine ρn ?_;have a3:=am.trans ae;have aq:=a1.ext a3;refine ρ ?_;refine ci (λhf=>?_) (λhf=>?_)
     ·refine ρ ?_;refine bsl (λw=>Xvq (.slice bc (r++[x]).length bb) w _ _ _ rfl) ?_;intro W4 d8 ac cp bz;refine ρ ?_;refine appR (a:=w6) (C.trans (a3.trans ac)) ER (aq.ext ac) bz ((((c0.ext ax).ext ae)).ext ac) (by have:=Qjk j (by omega);omega) ?_;intro c1 W5 bn bf _;refine ρ ?_;refine Jjm (j+1) c1 sO ⟨lj,bf,?_⟩ (by omega);rw [bm,if_pos hf,<-List.append_assoc];exact bn
     ·refine ρ ?_;refine Jjm (j+1) nv sO ⟨lj,C.trans a3,?_⟩ (by omega);rw [bm,if_neg (by rw [hf];simp),List.append_nil];exact aq
    ·intro rest;have ab:∀ {W:World} {g:Nat},Blk W g 71 ([]:List Value)->Z.drew.heap.size<=g->W.ownsRow Z.drew.heap.size 71 3 (.slice (some ⟨g,0,none⟩) 0 0) 0 []:=λhB hb=>hB.own (n:=0) hb rfl (Nat.zero_le _);refine mtwo 0 10 (by kernel_rfl) rfl rfl rfl ?_ ?_
     ·refine ρ ?_;refine bsl Qlh ?_;intro W1 b0 o a2 aj;refine Jzr (Jzt (GrN.ext o) ?_);refine mtwo 5 10 (by kernel_rfl) rfl rfl rfl ?_ ?_
      ·refine apb (m':=r.length) (news:=Jzj r) EV (ab aj a2) (ai.ext o) (Qkp r) (by unfold maxLen;omega) (by omega) o.size ?_;intro a7 W2 a9 b8 c8;rw [Nat.zero_add,List.nil_append]at a9;have O:GrN (λk=>Z.drew.heap.size<=k) W1 W2:=GrN.by b8 λk J=>by simp [Value.ownBlock]at J;omega
       refine Jzr (Jzt O ?_);refine Qmj 10 (by kernel_rfl) rfl rfl ?_;refine bsl (Qlg x) ?_;intro W3 aa aw ar U;refine Jzr (Jzt (GrN.ext aw) ?_);refine Qbf (listed':=lst 13 11) (by kernel_rfl) ?_;exact rest (a7,aa) _ _ ⟨(O.old o λk J=>J).trans aw,Jjb a9 aw,U⟩ sB
      ·refine ρ ?_;refine bsl (Qlg x) ?_;intro W2 aa D ar U;refine Jzr (Jzt (GrN.ext D) ?_);refine Qmj 5 (by kernel_rfl) rfl rfl ?_;refine apb (m':=r.length) (news:=Jzj r) EV (ab (aj.ext D) a2) (ai.ext (o.trans D)) (Qkp r) (by unfold maxLen;omega) (by omega) (o.trans D).size ?_;intro a7 W3 af ah c7;rw [Nat.zero_add,List.nil_append]at af;have O:GrN (λk=>Z.drew.heap.size<=k) W2 W3:=GrN.by ah λk J=>by simp [Value.ownBlock]at J;omega
       refine Jzr (Jzt O ?_);refine Qbf (listed':=lst 13 11) (by kernel_rfl) ?_;refine rest (a7,aa) _ _ ⟨O.old (o.trans D) λk J=>J,af,U.grown ah ?_⟩ sB;have:=aj.lt;simp [Value.ownBlock];omega
     ·refine ρ ?_;refine bsl (Qlg x) ?_;intro W1 aa o ar U;refine Jzr (Jzt (GrN.ext o) ?_);refine Qmj 0 (by kernel_rfl) rfl rfl ?_;refine bsl Qlh ?_;intro W2 b0 D a2 aj;refine Jzr (Jzt (GrN.ext D) ?_);refine Qmj 5 (by kernel_rfl) rfl rfl ?_;have bt:=nL o.size a2;refine apb (m':=r.length) (news:=Jzj r) EV (ab aj bt) (ai.ext (o.trans D)) (Qkp r) (by unfold maxLen;omega) (by omega) (o.trans D).size ?_;intro a7 W3 af ah c7;rw [Nat.zero_add,List.nil_append]at af;have O:GrN (λk=>Z.drew.heap.size<=k) W2 W3:=GrN.by ah λk J=>by simp [Value.ownBlock]at J;omega
      refine Jzr (Jzt O ?_);refine Qbf (listed':=lst 13 11) (by kernel_rfl) ?_;refine rest (a7,aa) _ _ ⟨O.old (o.trans D) λk J=>J,af,(U.ext D).grown ah ?_⟩ sB;have:=U.lt;simp [Value.ownBlock];omega
   ·have cc:j=(Xzz m vars rs i).length:=by have:=oF h;omega
    subst cc;clear h;refine ρ ?_;refine Jjm (k+1) nv sO ⟨lk,C,?_⟩ (by omega);rw [Jjp [] lk,List.flatMap_append,<-hr];simpa using a1
  ·have cb:k=(Qrc m vars rs (List.range N) i).length:=by have:=oF h;omega
   subst cb;clear h;rw [List.take_length]at a1;refine ρ ?_;refine Jjm (i+1) nv sO ⟨li,(az.trans a6).trans C,?_⟩ (by omega);have e:Qrc m vars rs (List.range N) (i+1)=(Qrc m vars rs (List.range N) i).flatMap λr=>rndB m vars rs (List.range N) i r (Xzz m vars rs i).length:=by
    rw [Qrc];unfold Qmt rndB;rw [Jnp li,List.take_length]
   rw [e]at ag ⊢;exact a1.rows (by omega)
 ·have cd:i=N:=by have:=oF h;omega
  subst cd;clear h;have bp:=bagR_len hP (Nat.le_refl i);refine ρ ?_;refine ki 68 (λh=>?_) (λh=>?_)
  ·have h0:i=0:=by have:=Jqn h;omega
   clear h;refine ρ ?_;refine lds (cs:=rinC n f pA pn pc VA vc RA rc m) (λj u hu=>bw.at hu) ?_;refine ρ ?_;refine bsl Qlh ?_;intro w6 b6 a4 d3 d6;refine ρ ?_;refine cl (rFits_any (vl:=[]) (r:=[]) hP (hM.ext (a8.trans (G.trans a4))) ⟨none,0,rfl,Nat.le_refl _,Nat.zero_le _,Rd.nil⟩ ⟨some ⟨b6,0,none⟩,0,rfl,Nat.le_refl _,Nat.zero_le _,Rd.nil⟩ (λu hu=>by cases hu) rfl) ?_;rintro _ Z ⟨rfl,C⟩;refine ρ ?_;subst h0;refine ci (λhf=>?_) (λhf=>?_)
   ·have a2:fitB m vars rs [] []=false:=by cases hh:fitB m vars rs [] []<;>first|rfl|(rw [hh]at hf;cases hf)
    refine ρ ?_;refine Jjr ⟨?_,(a8.trans G).trans (a4.trans C)⟩;unfold Qxs;rw [if_pos rfl,a2];exact ⟨[],none,0,rfl,rfl,Nat.le_refl _,Nat.zero_le _,Rd.nil,λp hp=>by cases hp⟩
   ·have a2:fitB m vars rs [] []=true:=by cases hh:fitB m vars rs [] []<;>first|rfl|(rw [hh]at hf;cases hf)
    refine ρ ?_;refine Jjr ⟨?_,(a8.trans G).trans (a4.trans C)⟩;unfold Qxs;rw [if_pos rfl,if_pos a2];exact b5.ext (a4.trans C)
  ·have h0:i≠0:=λe=>by have:=Jqk h;omega
   clear h;refine ρ ?_;refine Jjr ⟨?_,a8.trans G⟩;unfold Qxs;rw [if_neg h0];exact b5
end
open Go.RowKit Pl Go.Wk
theorem bk_ones{N:Nat}(hN:N<=32): bk (2^N-1) 32=List.range N:=by
 have key:∀ k,bk (2^N-1) k=List.range (min k N):=by
  intro k;induction k with
  | zero=>rfl
  | succ k ih=>
   rw [Jyp,ih,Nat.testBit_two_pow_sub_one];by_cases h:k<N
   ·rw [if_pos (by simpa using h),Nat.min_eq_left (by omega),Nat.min_eq_left (by omega),List.range_succ]
   ·rw [if_neg (by simpa using h),Nat.min_eq_right (by omega),Nat.min_eq_right (by omega),List.append_nil]
 rw [key,Nat.min_eq_right hN]
theorem joinF_row{m N:Nat}{vars:Nat->List Nat}{rs:Nat->List Row}(hP:RefP N m vars rs){z:Row}(hz:z∈Qxs m vars rs N): z.length=N:=((Jtx hP.asc hP.len hP.lt hP.cov z).1 hz).1
section
variable {pA VA RA:Option Addr} {pn pc vc rc N m:Nat} {f:Int} {vars:Nat->List Nat} {rs:Nat->List Row} {w:World}
theorem rJoin_any(hP:RefP N m vars rs)(hM:RInM w VA RA m vars rs)(hN:N<=31):
  Ret Tryz.prog 92 [.agg (rinC (N:Int) f pA pn pc VA vc RA rc m).toArray] w λu w'=>RowsV w' u (Qxs m vars rs N)/\Ext w w':=by
 refine Jjc Tryz.func92 Tryz.ntmps92 rfl (by kernel_rfl) rfl ?_;refine ρ ?_;refine bx (cs:=rinC (N:Int) f pA pn pc VA vc RA rc m) ?_;intro O b o U G;refine ρ ?_;refine lds (cs:=rinC (N:Int) f pA pn pc VA vc RA rc m) (λj u D=>G.at D) ?_;refine ρ ?_;refine ld (G.at (i:=0) rfl) ?_;refine ρ ?_;refine Go.Wk.kv 6 (congrArg (λz=>Value.int .u64 z) (Xxr (z:=(N:Int)) (by omega))) ?_;refine sl32g (v:=N) (by omega) ?_;refine ρ ?_;have h1:1<=2^N:=Nat.pow_pos (by decide);have Z:=Jvl (show N<32 by omega);have e:IntKind.u32.wrap (((2^N:Nat):Int)-1)=((2^N-1:Nat):Int):=by rw [IntKind.wrap_u32];omega
 refine Go.Wk.kv 8 (congrArg (λz=>Value.int .u32 z) e) ?_;refine cl (rBag_any hP (hM.ext o) (by omega) (bk_ones (by omega))) ?_;rintro u J ⟨D,C⟩;refine ρ ?_;exact Jjr ⟨D,o.trans C⟩
theorem rAnswersF_any{F:Nat}{ds:List Bool}{dv:Value}(hP:RefP N m vars rs)(hM:RInM w VA RA m vars rs)(hN:N<=31)(hF:F<=N)(hd:BoolsV w dv ds):
  Ret Tryz.prog 55 [.agg (rinC (N:Int) (F:Int) pA pn pc VA vc RA rc m).toArray,dv] w λu w'=>RowsV w' u (ansF m vars rs N F ds)/\Ext w w'/\Fresh w u:=by
 have an:(Qxs m vars rs N).length<=5000:=nL (Qgr hP.asc hP.len hP.cov) hP.cnt;refine Jjc Tryz.func55 Tryz.ntmps55 rfl (by kernel_rfl) rfl ?_;refine ρ ?_;refine bx (cs:=rinC (N:Int) (F:Int) pA pn pc VA vc RA rc m) ?_;intro w1 b G hb hB;refine ρ ?_;refine lds (cs:=rinC (N:Int) (F:Int) pA pn pc VA vc RA rc m) (λj u hu=>hB.at hu) ?_;refine ρ ?_;refine cl (rJoin_any hP (hM.ext G) hN) ?_;rintro jv w2 ⟨hj,a3⟩;obtain ⟨JA,jc,rfl,ao,am,ai,ac,ab⟩:=hj.parts;refine ρ ?_;refine Jqb (fun (i:Nat) (U:Value)=>[(1,dv),(2,.pointer (some ⟨b,0,none⟩)),(5,U),(6,.slice JA (Qxs m vars rs N).length jc),(7,.int .i64 (i:Int))])
  (λi U w'=>i<=(Qxs m vars rs N).length/\Ext w2 w'/\Fresh w2 U/\RowsV w' U ((((Qxs m vars rs N).take i).map (List.take F)).foldl (Xkv ds) [])/\((((Qxs m vars rs N).take i).map (List.take F)).foldl (Xkv ds) []).length<=i) (λi _=>(Qxs m vars rs N).length-i) 0 (.slice none 0 0) sB
  ⟨Nat.zero_le _,Ext.refl _,(λad n c e=>by cases e),⟨[],none,0,rfl,rfl,Nat.le_refl _,Nat.zero_le _,Rd.nil,λp hp=>by cases hp⟩,Nat.le_refl _⟩ ?_
 rintro i U w3 ⟨hi,C,J,O,ak⟩;have D:=a3.trans C;refine ρ ?_;refine ci (λh=>?_) (λh=>?_)
 ·have Z:i<(Qxs m vars rs N).length:=by have:=oT h;omega
  clear h;obtain ⟨xv,a7,a1⟩:=ab i Z;obtain ⟨z,hz⟩:∃ z,z=(Qxs m vars rs N).getD i []:=⟨_,rfl⟩;have aj:z.length=N:=joinF_row hP (by rw [hz];exact getD_mem' [] _ Z);rw [<-hz]at a1;obtain ⟨XA,xc,rfl,ah,ag,aa⟩:=id a1;have o:Ext w3 w3.drew:=(Ext.refl w3).drew;have a4:=Jlv (ds:=ds) (((Qxs m vars rs N).take i).map (List.take F)) (done:=[]) (l:=[]) ⟨List.Pairwise.nil,λx=>Iff.rfl⟩;refine ρ ?_;refine drN (λ_=>False) 10 [(0,0),(0,1),(0,2),(0,3),(0,4),(0,5),(0,6),(0,7),(0,8),(1,9),(0,10)] (by kernel_rfl) ?_;have a5:=ac.ext (C.trans o);have ae:=(hB.ext D).ext o;refine ρn ?_;refine nix i a5 Z ?_;refine ρn ?_;refine nld (λw' hg=>(a5.ext hg.toExt).cell a7) ?_;refine ρn ?_;refine nld (Jjg (ae.at (i:=1) rfl) (λe=>e)) ?_;refine ρn ?_;refine nslh (A:=XA) (m:=z.length) (c:=xc) F ?_ (by omega);refine ρn ?_;refine nop ?_;have a8:RowV w3.drew (.slice XA F xc) (z.take F):=by
   have hl:(z.take F).length=F:=by rw [List.length_take];omega
   refine ⟨XA,xc,by rw [hl],by rw [hl];omega,by rw [hl];omega,?_⟩;have:=(Rd.ext aa (C.trans o)).take (m:=F) (by omega);rw [Qfq z (by omega)]at this;unfold RdR;rw [hl];exact this
  refine cl (refPut_any (O.ext o) a8 (hd.ext ((G.trans D).trans o)) a4.1 (by omega)) ?_;rintro a6 w4 ⟨h4,a2,af⟩;refine ρ ?_;refine Jqt (GrN.ext a2) ?_;refine ρn ?_;have e:(((Qxs m vars rs N).take (i+1)).map (List.take F)).foldl (Xkv ds) []=Xkv ds ((((Qxs m vars rs N).take i).map (List.take F)).foldl (Xkv ds) []) (z.take F):=by
   rw [Jjp [] Z,<-hz,List.map_append,List.foldl_append];rfl
  refine ρ ?_;refine Jjm (i+1) a6 sO ⟨Z,(C.trans o).trans a2,?_,by rw [e];exact h4,?_⟩ (by omega)
  ·rcases af with h'|h'
   ·rw [h'];exact J
   ·exact λad n c e=>nL (C.trans o).size (h' ad n c e)
  rw [e];have:=putD_len ds ((((Qxs m vars rs N).take i).map (List.take F)).foldl (Xkv ds) []) (z.take F);omega
 ·have a9:i=(Qxs m vars rs N).length:=by have:=oF h;omega
  rw [a9,List.take_length]at O;refine ρ ?_;exact Jjr ⟨O,G.trans D,λad n c e=>nL (G.trans a3).size (J ad n c e)⟩
end
open Go.RowKit Pl Go.Wk
theorem Xys.ext{w w':World}{v:Value}{zss:List (List Int)}(h:Xys w v zss)(hx:Ext w w'): Xys w' v zss:=by
 obtain ⟨A,c,cs,J,G,D,C,o⟩:=h;exact ⟨A,c,cs,J,G,D,C.ext hx,λi hi=>by obtain ⟨u,e,j⟩:=o i hi;exact ⟨u,e,j.ext hx⟩⟩
theorem Xym.ext{w w':World}{v:Value}{zss:List (List Row)}(h:Xym w v zss)(hx:Ext w w'): Xym w' v zss:=by
 obtain ⟨A,c,cs,J,G,D,C,o⟩:=h;exact ⟨A,c,cs,J,G,D,C.ext hx,λi hi=>by obtain ⟨u,e,j⟩:=o i hi;exact ⟨u,e,j.ext hx⟩⟩
theorem CseV.ext{w w':World}{cs:List Value}{c:Cse}(h:CseV w cs c)(hx:Ext w w'): CseV w' cs c:=by
 obtain ⟨U,O,pA,pc,i,vc,j,rc,J,G,D,C,u,o⟩:=h;exact ⟨U,O,pA,pc,i,vc,j,rc,J,G.ext hx,D.ext hx,C.ext hx,u.ext hx,o⟩
theorem few_any{w:World}{cs:List Value}{c:Cse}(h:CseV w cs c): Ret Tryz.prog 54 [.agg cs.toArray] w λu w'=>Ext w w'/\∃ b:Bool,u=.bool b/\(b=true->FewP c)/\(FewS c->b=true):=by
 obtain ⟨dA,dc,pA,pc,vA,vc,rA,rc,rfl,hD,hP,hV,hR,hn,hf⟩:=h;obtain ⟨_,_,ae,e1,_,_,a1,ac⟩:=id hR;injection e1 with e1 e2 e3
 subst e1;subst e3;obtain ⟨_,_,ad,e1,_,_,a5,ab⟩:=id hV;injection e1 with e1 e2 e3
 subst e1;subst e3;refine Jjc Tryz.func54 Tryz.ntmps54 rfl (by kernel_rfl) rfl ?_;refine ρ ?_;refine bx ?_;intro w1 b C hb J;refine ρ ?_;refine Jqb (fun (i:Nat) (o:Nat)=>[(1,.pointer (some ⟨b,0,none⟩)),(2,.bool false),(3,.int .i64 (o:Int)),(4,.int .i64 (i:Int))])
  (λi o w'=>i<=6/\i<=c.rss.length/\w'=w1/\o=(Jjz i λi=>max 1 (c.rss.getD i []).length)/\o<=10^i/\∀ j,j<i->(c.rss.getD j []).length<=10) (λi _=>6-i) 0 1 sB ⟨by omega,Nat.zero_le _,rfl,rfl,by simp,λj hj=>by omega⟩ ?_
 rintro i o w2 ⟨h6,hi,rfl,G,a2,O⟩;refine ρ ?_;refine ld (J.at (i:=5) rfl) ?_;refine ρ ?_;refine Jwr (fun (t:Bool)=>[(14,.bool t),(1,.pointer (some ⟨b,0,none⟩)),(2,.bool false),(3,.int .i64 (o:Int)),(4,.int .i64 (i:Int))]) (λt w3=>w3=w2/\(t=true↔i<c.rss.length/\i<6)) ?_ ?_
 ·refine ki 11 (λh=>?_) (λh=>?_)
  ·have:=oT h;refine ρ ?_;refine Jjn (decide ((i:Int)<6)) sB ⟨rfl,?_⟩;rw [decide_eq_true_eq];omega
  ·have:=oF h;refine ρ ?_;refine Jjn false sB ⟨rfl,?_⟩;constructor
   ·intro h;cases h
   ·omega
 rintro t w3 ⟨rfl,ht⟩;refine ρ ?_;refine ci (λh=>?_) (λh=>?_)
 ·obtain ⟨li,l6⟩:=ht.1 h;clear h;obtain ⟨ru,a4,a9⟩:=ac i li;obtain ⟨TA,tc,rfl,_,_,_⟩:=id (a9.ext C).parts;refine ρ ?_;refine ld (J.at (i:=5) rfl) ?_;refine ρ ?_;refine ix i (a1.ext C) li ?_;refine ρ ?_;refine ld ((a1.ext C).cell a4) ?_;refine ρ ?_;refine ci (λh=>?_) (λh=>?_)
  ·refine ρ ?_;exact Jjr ⟨C,false,rfl,λh=>(by cases h),λD=>by have h1:=D.row i li;have h2:=oT h;exact False.elim (by omega)⟩
  ·have a6:(c.rss.getD i []).length<=10:=by have:=oF h;omega
   clear h;refine ρ ?_;refine ld (J.at (i:=5) rfl) ?_;refine ρ ?_;refine ix i (a1.ext C) li ?_;refine ρ ?_;refine ld ((a1.ext C).cell a4) ?_;refine ρ ?_;have aa:(if (1:Int)<((c.rss.getD i []).length:Int) then ((c.rss.getD i []).length:Int) else 1)=((max 1 (c.rss.getD i []).length:Nat):Int):=by
    split<;>omega
   have a3:o<=100000:=nL a2 (Nat.pow_le_pow_right (by decide) (show i<=5 by omega));have af:o*max 1 (c.rss.getD i []).length<=o*10:=Nat.mul_le_mul_left _ (by omega);have e:IntKind.i64.wrap ((o:Int)*(if (1:Int)<((c.rss.getD i []).length:Int) then ((c.rss.getD i []).length:Int) else 1))=((o*max 1 (c.rss.getD i []).length:Nat):Int):=by
    rw [aa,<-Int.natCast_mul];exact Qsm (by omega)
   rw [e];refine Jjm (i+1) (o*max 1 (c.rss.getD i []).length) sO ⟨by omega,by omega,rfl,?_,?_,λj hj=>?_⟩ (by omega)
   ·rw [Jjz,<-G]
   ·rw [Nat.pow_succ];exact Nat.mul_le_mul a2 (by omega)
   ·by_cases e:j=i
    ·rw [e];exact a6
    ·exact O j (by omega)
 have ag:¬ (i<c.rss.length/\i<6):=λh'=>by have:=ht.2 h';rw [h]at this;cases this
 clear h ht;refine ρ ?_;refine ci (λh=>?_) (λh=>?_)
 ·refine ρ ?_;exact Jjr ⟨C,false,rfl,λh=>(by cases h),λD=>by
   have h1:=D.cnt;have h2:=D.r5;have h3:=oT h;have h4:i=c.rss.length:=by omega
   rw [<-h4,<-G]at h1;exact False.elim (by omega)⟩
 have a3:o<=5000:=by have:=oF h;omega
 clear h;refine ρ ?_;refine Jqw (fun (k:Nat)=>[(1,.pointer (some ⟨b,0,none⟩)),(2,.bool false),(5,.int .i64 (k:Int))])
  (λk w'=>k<=6/\k<=c.vs.length/\w'=w3) (λk=>6-k) 0 sB ⟨by omega,Nat.zero_le _,rfl⟩ ?_
 rintro k w4 ⟨k6,hk,rfl⟩;refine ρ ?_;refine ld (J.at (i:=4) rfl) ?_;refine ρ ?_;refine Jwr (fun (t:Bool)=>[(43,.bool t),(1,.pointer (some ⟨b,0,none⟩)),(2,.bool false),(5,.int .i64 (k:Int))]) (λt w5=>w5=w4/\(t=true->k<c.vs.length/\k<6)) ?_ ?_
 ·refine ki 40 (λh=>?_) (λh=>?_)
  ·have:=oT h;refine ρ ?_;refine Jjn (decide ((k:Int)<6)) sB ⟨rfl,?_⟩;rw [decide_eq_true_eq];omega
  ·refine ρ ?_;exact Jjn false sB ⟨rfl,λh=>by cases h⟩
 rintro t w5 ⟨rfl,ht⟩;refine ρ ?_;refine ci (λh=>?_) (λh=>?_)
 ·obtain ⟨lk,l6⟩:=ht h;clear h;obtain ⟨vu,a7,a8⟩:=ab k lk;obtain ⟨QA,qc,rfl,_⟩:=id a8;refine ρ ?_;refine ld (J.at (i:=4) rfl) ?_;refine ρ ?_;refine ix k (a5.ext C) lk ?_;refine ρ ?_;refine ld ((a5.ext C).cell a7) ?_;refine ρ ?_;refine ci (λh=>?_) (λh=>?_)
  ·refine ρ ?_;exact Jjr ⟨C,false,rfl,λh=>(by cases h),λD=>by have h1:=D.v8 k lk;have h2:=oT h;exact False.elim (by omega)⟩
  ·refine ρ ?_;exact Jjx (k+1) sO ⟨by omega,by omega,rfl⟩ (by omega)
 clear h ht;refine ρ ?_;refine ld (J.at (i:=0) rfl) ?_;refine ρ ?_;refine ki 56 (λh=>?_) (λh=>?_)
 ·have hN:c.n<=6:=oT h;clear h;refine ρ ?_;refine ld (J.at (i:=4) rfl) ?_;refine ρ ?_;refine ki 67 (λh4=>?_) (λh4=>?_)
  ·refine ρ ?_;refine ld (J.at (i:=5) rfl) ?_;refine ρ ?_;refine ki 73 (λh5=>?_) (λh5=>?_)
   ·have r5:c.rss.length<=5:=by have:=oT h5;omega
    have v5:c.vs.length<=5:=by have:=oT h4;omega
    have ir:i=c.rss.length:=by omega
    have Z:FewP c:=⟨λj hj=>O j (by omega),by rw [<-ir,<-G];exact a3,.inl hN,v5,r5⟩;refine ρ ?_;refine ld (J.at (i:=2) rfl) ?_;refine ρ ?_;refine ki 79 (λh6=>?_) (λh6=>?_)
    ·refine ρ ?_;refine ld (J.at (i:=3) rfl) ?_;refine ρ ?_;exact Jjr ⟨C,decide ((c.pm.length:Int)<=10),rfl,λ_=>Z,λD=>by have:=D.p10;exact decide_eq_true (by omega)⟩
    ·refine ρ ?_;exact Jjr ⟨C,false,rfl,λh=>(by cases h),λD=>by have h1:=D.d10;have h2:=oF h6;exact False.elim (by omega)⟩
   ·refine ρ ?_;exact Jjr ⟨C,false,rfl,λh=>(by cases h),λD=>by have h1:=D.r5;have h2:=oF h5;exact False.elim (by omega)⟩
  ·refine ρ ?_;exact Jjr ⟨C,false,rfl,λh=>(by cases h),λD=>by have h1:=D.v5;have h2:=oF h4;exact False.elim (by omega)⟩
 ·have U:¬ c.n<=6:=oF h;clear h;refine ρ ?_;refine ld (J.at (i:=0) rfl) ?_;refine ρ ?_;refine ki 61 (λh=>?_) (λh=>?_)
  ·have hN:32<c.n:=oT h;clear h;refine ρ ?_;refine ld (J.at (i:=4) rfl) ?_;refine ρ ?_;refine ki 67 (λh4=>?_) (λh4=>?_)
   ·refine ρ ?_;refine ld (J.at (i:=5) rfl) ?_;refine ρ ?_;refine ki 73 (λh5=>?_) (λh5=>?_)
    ·have r5:c.rss.length<=5:=by have:=oT h5;omega
     have v5:c.vs.length<=5:=by have:=oT h4;omega
     have ir:i=c.rss.length:=by omega
     have Z:FewP c:=⟨λj hj=>O j (by omega),by rw [<-ir,<-G];exact a3,.inr hN,v5,r5⟩;refine ρ ?_;refine ld (J.at (i:=2) rfl) ?_;refine ρ ?_;refine ki 79 (λh6=>?_) (λh6=>?_)
     ·refine ρ ?_;refine ld (J.at (i:=3) rfl) ?_;refine ρ ?_;exact Jjr ⟨C,decide ((c.pm.length:Int)<=10),rfl,λ_=>Z,λD=>absurd D.n6 U⟩
     ·refine ρ ?_;exact Jjr ⟨C,false,rfl,λh=>(by cases h),λD=>absurd D.n6 U⟩
    ·refine ρ ?_;exact Jjr ⟨C,false,rfl,λh=>(by cases h),λD=>absurd D.n6 U⟩
   ·refine ρ ?_;exact Jjr ⟨C,false,rfl,λh=>(by cases h),λD=>absurd D.n6 U⟩
  ·refine ρ ?_;exact Jjr ⟨C,false,rfl,λh=>(by cases h),λD=>absurd D.n6 U⟩
end Go.Proofs.YtefpailelagbkaaGreatDoor
namespace Go.Wk
open Go.RowKit
section
variable {α:Type} {E:TypeId} {sz base:Nat} {Φ:World->List Value->α->Prop} {N0:Nat->Prop} {w w':World} {v:Value} {ls:List α}
end
end Go.Wk
namespace Go.Proofs.YtefpailelagbkaaGreatDoor
open Go.RowKit Pl Go.Wk
attribute [local irreducible] WC WL QX WD WDB WP WN WG WH WM
theorem zRin: Jxd Tryz.prog 114=some (.agg #[.int .i64 0,.int .i64 0,.slice none 0 0,.slice none 0 0,.slice none 0 0]):=by kernel_rfl
theorem bldRin(n f:Int)(A B C:Option Addr)(a a' b b' c c':Nat)(w:World): (Instr.build 114 #[(0,.int .i64 n),(1,.int .i64 f),(2,.slice A a a'),(3,.slice B b b'),(4,.slice C c c')]).run Tryz.prog w=.ok (.agg #[.int .i64 n,.int .i64 f,.slice A a a',.slice B b b',.slice C c c']) w:=by kernel_rfl
theorem ref_any{w:World}{n f:Int}{dA pA vA rA:Option Addr}{d dc p pc v vc r rc:Nat}:
  Ret Tryz.prog 56 [.agg #[.int .i64 n,.int .i64 f,.slice dA d dc,.slice pA p pc,.slice vA v vc,.slice rA r rc]] w λu w'=>u=.agg #[.int .i64 n,.int .i64 f,.slice pA p pc,.slice vA v vc,.slice rA r rc]/\Ext w w':=by
 refine Jjc Tryz.func56 Tryz.ntmps56 rfl (by kernel_rfl) rfl ?_;refine ρ ?_;refine bx ?_;intro w1 b C hb Z;refine ρ ?_;refine alc zRin ?_;intro w2 b2 o G O;have j:=Z.ext o;refine ρ ?_;refine ld (j.at (i:=0) rfl) ?_;refine ρ ?_;refine ld (j.at (i:=1) rfl) ?_;refine ρ ?_;refine ld (j.at (i:=3) rfl) ?_;refine ρ ?_;refine ld (j.at (i:=4) rfl) ?_;refine ρ ?_;refine ld (j.at (i:=5) rfl) ?_;refine ρ ?_;refine bld (bldRin _ _ _ _ _ _ _ _ _ _ _ _) ?_;refine ρ ?_;refine stW O ?_;intro w3 J U D;refine ρ ?_;exact Qhj J ⟨rfl,D w (C.trans o) (nL C.size G)⟩
open Go.RowKit Pl Go.Wk
theorem bldIndex0(w:World): (Instr.build 34 #[]).run Tryz.prog w=.ok (.agg #[.slice none 0 0,.slice none 0 0,.slice none 0 0,.slice none 0 0,.slice none 0 0]) w:=by kernel_rfl
theorem CseV.rin{w:World}{c:Cse}{ats:List Atm}{vA rA:Option Addr}{vc rc:Nat}(hV:Xys w (.slice vA c.vs.length vc) c.vs)(hR:Xym w (.slice rA c.rss.length rc) c.rss)(h:CseOk c ats): RInM w vA rA c.m c.vars c.crs:=by
 obtain ⟨_,_,o,j,_,_,D,C⟩:=hV;injection j with j e2 e3
 subst j;subst e3;obtain ⟨_,_,u,j,_,_,J,G⟩:=hR;injection j with j e2 e3
 subst j;subst e3;refine ⟨⟨o,D,λi hi=>?_⟩,⟨u,?_,λi hi=>G i (by rw [<-h.len];exact hi)⟩⟩
 ·rw [(h.vars hi).1];exact C i hi
 ·have:=h.len;unfold Cse.m;rw [this];exact J
end Go.Proofs.YtefpailelagbkaaGreatDoor
