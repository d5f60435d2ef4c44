/- Part 43 of the proof: Rf5, Rf6, Lw1. -/
import Derived.Test.YtefpailelagbkaaGreatDoorJ42
set_option linter.unusedVariables false
set_option maxRecDepth 100000
set_option maxHeartbeats 40000000
namespace Go.Proofs.YtefpailelagbkaaGreatDoor
open Go.RowKit Pl Go.Wk
attribute [local irreducible] WC WL QX WD WDB WP WN WG WH WM
def Xdh(m:Nat)(vars:Nat->List Nat)(rs:Nat->List Row)(n f:Nat)(ds:List Bool): List Row:=((Jks m vars rs n).map (List.take f)).foldl (Jpv ds) []
theorem Qbw(m:Nat)(vars:Nat->List Nat)(rs:Nat->List Row)(n f:Nat)(ds:List Bool): Jvh ds ((Jks m vars rs n).map (List.take f)) (Xdh m vars rs n f ds):=by
 have:=Jyx (ds:=ds) ((Jks m vars rs n).map (List.take f)) (done:=[]) (l:=[]) ⟨List.Pairwise.nil,λx=>Iff.rfl⟩;rwa [List.nil_append]at this
theorem Qrh(ds:List Bool)(l:List Row)(r:Row): (Jpv ds l r).length<=l.length+1:=by
 unfold Jpv;split
 ·omega
 ·have:=Qmx ds l r;simp;omega
section
variable {n f:Int} {pA VA RA:Option Addr} {pn pc vc rc N m:Nat} {vars:Nat->List Nat} {rs:Nat->List Row} {w:World}
theorem Jtx(hP:RefP N m vars rs){k:Nat}(hk:k<=N): (Jcm m vars rs (List.range N) k).length<=5000:=Nat.le_trans (Jrs hP.asc hP.len hP.cov hk) hP.cnt
def Qvs(m:Nat)(vars:Nat->List Nat)(rs:Nat->List Row)(vl:List Nat)(k:Nat)(r:Row)(j:Nat): List Row:=(((Jdf m vars rs (vl.getD k 0)).take j).map λx=>r++[x]).filter (Qfs m vars rs (vl.take (k+1)))
theorem Qrd{s:Nat}(hP:RefP N m vars rs)(hM:RInM w VA RA m vars rs)(hs:s<4294967296)(hbk:bk s 32=List.range N):
  Ret Tryz.prog 136 [.agg (Qzk n f pA pn pc VA vc RA rc m).toArray,.int .u32 (s:Int)] w λu w'=>RowsV w' u (Jks m vars rs N)/\Ext w w':=by
 have m32:=hP.m32;have n32:=hP.n32;refine Jjb Tryz.func136 Tryz.ntmps136 rfl (by kernel_rfl) rfl ?_;refine ρ ?_;refine bx (cs:=Qzk n f pA pn pc VA vc RA rc m) ?_;intro w1 b hx1 hb hB;refine ρ ?_;refine cl (Qhs hs w1) ?_;rintro lv w2 ⟨hlv,hx2⟩;rw [hbk]at hlv;obtain ⟨LA,lc,rfl,hlc,hlm,hLR⟩:=id hlv.n;rw [List.length_range]at hlc hlm hLR ⊢;refine ρ ?_;refine bsl Jhf ?_;intro w3 b3 hx3 hb3 hB3;refine ρ ?_;refine bsl (λw=>Qbr (.slice (some ⟨b3,0,none⟩) 0 0) w _ _ _ rfl) ?_;intro w4 b4 hx4 hb4 hB4;have hx14:=(hx2.trans hx3).trans hx4;have hx24:=hx3.trans hx4;have h0:RowsV w4 (.slice (some ⟨b4,0,none⟩) 1 1) (Jcm m vars rs (List.range N) 0):=⟨[(.slice (some ⟨b3,0,none⟩) 0 0,[])],_,_,rfl,rfl,by simp,by simp,hB4.rd (n:=1) rfl,λp hp=>by
  rw [List.mem_singleton.1 hp];exact ⟨_,_,rfl,by simp,by simp,Rd.nil⟩⟩
 refine ρ ?_;refine Jjv (fun (i:Nat) (ov:Value)=>[(2,.pointer (some ⟨b,0,none⟩)),(5,.slice LA N lc),(6,ov),(7,.int .i64 (i:Int))])
  (λi ov w'=>i<=N/\Ext w4 w'/\RowsV w' ov (Jcm m vars rs (List.range N) i)) (λi _=>N-i) 0 (.slice (some ⟨b4,0,none⟩) 1 1) sB ⟨Nat.zero_le _,Ext.refl _,h0⟩ ?_
 clear h0;rintro i ov w5 ⟨hi,hx5,hov⟩;have hx15:=hx14.trans hx5;have hx25:=hx24.trans hx5;have hB5:=hB.ext hx15;refine ρ ?_;refine ci (λh=>?_) (λh=>?_)
 ·have li:i<N:=by have:=of_decide_eq_true h;omega
  clear h;have hlen:=Jtx hP hi;have hlen1:=Jtx hP (show i+1<=N by omega);have hxd:Ext w5 w5.drew:=(Ext.refl w5).drew;have hLd:=hLR.ext (hx25.trans hxd);have hcell:(Jzw (nz (List.range N)))[i]?=some (.int .i64 (i:Int)):=by
   have:=Jxw (cs:=List.range N) (show i<(List.range N).length by simpa using li);rwa [Jkg li]at this
  refine ρ ?_;refine dr [(0,0),(0,1),(0,2),(0,3),(0,4),(1,5),(0,6)] (by kernel_rfl) ?_;refine ρd ?_;refine Jwv (cs:=Qzk n f pA pn pc VA vc RA rc m) (λj u hu=>(hB5.ext hxd).at hu) ?_;refine ρd ?_;refine dix i hLd li ?_;refine ρd ?_;refine dld (hLd.cell hcell) ?_;refine ρd ?_;refine dcl (Qkj hP (hM.ext (hx1.trans (hx15.trans hxd))) i) ?_;rintro xv w6 ⟨⟨hxv,hxl⟩,hx6⟩;refine ⟨hx6,?_⟩;have hx56:=hxd.trans hx6;obtain ⟨OA,oc,rfl,hoc,hom,ocs,hOR,hOe⟩:=id (hov.ext hx56).parts;obtain ⟨XA,xc,rfl,hxc,hxm,hXR⟩:=id hxv;refine ρd ?_;refine ρ ?_;refine Jjv (fun (k:Nat) (nv:Value)=>[(2,.pointer (some ⟨b,0,none⟩)),(5,.slice LA N lc),(6,.slice OA (Jcm m vars rs (List.range N) i).length oc),(7,.int .i64 (i:Int)),(8,nv),(9,.slice XA (Jdf m vars rs i).length xc),(10,.int .i64 (k:Int))])
   (λk nv w'=>k<=(Jcm m vars rs (List.range N) i).length/\Ext w6 w'/\OwnR w' w6.heap.size nv (((Jcm m vars rs (List.range N) i).take k).flatMap λr=>Qvs m vars rs (List.range N) i r (Jdf m vars rs i).length)) (λk _=>(Jcm m vars rs (List.range N) i).length-k) 0 (.slice none 0 0) sB
   ⟨Nat.zero_le _,Ext.refl _,OwnR.nil _ _⟩ ?_
  rintro k nv w7 ⟨hk,hx7,hnv⟩;refine ρ ?_;refine ci (λh=>?_) (λh=>?_)
  ·have lk:k<(Jcm m vars rs (List.range N) i).length:=by have:=of_decide_eq_true h;omega
   clear h;obtain ⟨r,hr⟩:∃ r,r=(Jcm m vars rs (List.range N) i).getD k []:=⟨_,rfl⟩;have hrl:r.length=i:=((Jhv hP.asc hP.len hP.cov i hi r).1 (by rw [hr];exact getD_mem' [] _ lk)).1;obtain ⟨yv,hyc,hyV⟩:=hOe k lk;rw [<-hr]at hyV;obtain ⟨YA,yc,rfl,hyc1,hyc2,hYR⟩:=id hyV;have hstep:Qkb m vars rs (List.range N) i (Jcm m vars rs (List.range N) i)=(Jcm m vars rs (List.range N) i).flatMap λr=>Qvs m vars rs (List.range N) i r (Jdf m vars rs i).length:=by
    unfold Qkb Qvs;rw [Jkg li,List.take_length]
   have Jtj:∀ j,j<=(Jdf m vars rs i).length->(((Jcm m vars rs (List.range N) i).take k).flatMap (λr=>Qvs m vars rs (List.range N) i r (Jdf m vars rs i).length)++Qvs m vars rs (List.range N) i r j).length<=5000:=λj hj=>by
    refine Nat.le_trans ?_ hlen1;rw [Jcm,hstep];conv=>rhs;rw [<-List.take_append_drop k (Jcm m vars rs (List.range N) i),List.flatMap_append,List.length_append]
    rw [List.length_append];refine Nat.add_le_add_left ?_ _;have hd:(Jcm m vars rs (List.range N) i).drop k=r::(Jcm m vars rs (List.range N) i).drop (k+1):=by
     rw [hr];simp [List.getD,List.getElem?_eq_getElem lk]
    rw [hd,List.flatMap_cons,List.length_append];refine Nat.le_trans ?_ (Nat.le_add_right _ _);unfold Qvs;refine List.Sublist.length_le (List.Sublist.filter _ (List.Sublist.map _ ?_));rw [Jkg li,List.take_length];exact List.take_sublist _ _
   refine ρ ?_;refine Jjv (fun (j:Nat) (nv:Value)=>[(2,.pointer (some ⟨b,0,none⟩)),(5,.slice LA N lc),(6,.slice OA (Jcm m vars rs (List.range N) i).length oc),(7,.int .i64 (i:Int)),(8,nv),(9,.slice XA (Jdf m vars rs i).length xc),(10,.int .i64 (k:Int)),(11,.int .i64 (j:Int))])
    (λj nv w'=>j<=(Jdf m vars rs i).length/\Ext w6 w'/\OwnR w' w6.heap.size nv (((Jcm m vars rs (List.range N) i).take k).flatMap (λr=>Qvs m vars rs (List.range N) i r (Jdf m vars rs i).length)++Qvs m vars rs (List.range N) i r j)) (λj _=>(Jdf m vars rs i).length-j) 0 nv sB
    ⟨Nat.zero_le _,hx7,by simpa [Qvs] using hnv⟩ ?_
   clear hnv nv hx7 w7;rintro j nv w7 ⟨hj,hx7,hnv⟩;refine ρ ?_;refine ci (λh=>?_) (λh=>?_)
   ·have lj:j<(Jdf m vars rs i).length:=by have:=of_decide_eq_true h;omega
    clear h;obtain ⟨x,hx⟩:∃ x,x=(Jdf m vars rs i).getD j V0:=⟨_,rfl⟩;have hr1:Qvs m vars rs (List.range N) i r (j+1)=Qvs m vars rs (List.range N) i r j++if Qfs m vars rs ((List.range N).take (i+1)) (r++[x])=true then [r++[x]] else []:=by
     unfold Qvs;rw [Jkg li,Jjm V0 lj,List.map_append,List.filter_append,<-hx];congr 1
     by_cases hf:Qfs m vars rs ((List.range N).take (i+1)) (r++[x])=true
     ·rw [if_pos hf];exact List.filter_cons_of_pos hf
     ·rw [if_neg hf];exact List.filter_cons_of_neg hf
    have hxe:Ext w7 w7.drew:=(Ext.refl w7).drew;have hx7d:=hx7.trans hxe;have hYRd:=Rd.ext hYR hx7d;have hXRd:=Rd.ext hXR hx7d;have hORd:=hOR.ext hx7d;have xt:∀ {W:World},GrN (λk=>w7.drew.heap.size<=k) w7.drew W->Ext w7.drew W:=λh=>h.old (Ext.refl _) λk hk=>hk;refine ρ ?_;refine drM (λk=>w7.drew.heap.size<=k) ?_;refine Qlm (fuel':=5) [(0,1),(0,2),(0,3),(0,4),(0,6),(0,7),(0,8),(0,9)] #[false,true,true,true,true,false,true,true,true,true,false,false,false] (by kernel_rfl) (by kernel_rfl) rfl ?_;refine ρn ?_;refine nix k hORd lk ?_;refine ρn ?_;refine nld (λw' hg=>(hORd.ext (xt hg)).cell hyc) ?_;refine ρn ?_;refine Qyn 3 j hXRd (by omega) ?_;refine ρn ?_;refine Jfd (cs:=x.cells) (λw' hg q u hu=>RdR.cell (Rd.ext hXRd (xt hg)) lj (by rw [<-hx];exact hu)) ?_;refine ρn ?_;refine Jmk ?_;refine mcut 2 (lst 13 11) (fun (q:Value×Nat)=>[(46,q.1),(51,.slice (some ⟨q.2,0,none⟩) 1 1),(2,.pointer (some ⟨b,0,none⟩)),(5,.slice LA N lc),(6,.slice OA (Jcm m vars rs (List.range N) i).length oc),(7,.int .i64 (i:Int)),(8,nv),(9,.slice XA (Jdf m vars rs i).length xc),(10,.int .i64 (k:Int)),(11,.int .i64 (j:Int))])
     (λq W=>Ext w7.drew W/\W.ownsRow w7.drew.heap.size 71 3 q.1 r.length (Jxs r)/\Blk W q.2 71 x.cells) ?_ ?_
    ·rintro ⟨v46,b51⟩ W ⟨hxW,hoW,hBW⟩;simp only at hoW hBW;refine Qkq 11 (by kernel_rfl) rfl rfl ?_;refine apb (m':=1) (news:=x.cells) EV hoW (hBW.rd (n:=1) rfl) (V.one _) (by unfold maxLen;omega) (by omega) hxW.size ?_;intro v52 W2 ho2 hg2 hn2;obtain ⟨_,_,rfl,_,hl46⟩:=Jjd hoW;have hgN:GrN (λk=>w7.drew.heap.size<=k) W W2:=GrN.by hg2 λk hk=>(hl46 k hk).1
     have hx2W:=hgN.old hxW λk hk=>hk;refine Jxz (Jxp hgN ?_);refine Qlm (fuel':=0) [(0,12)] (lst 13 13) (by kernel_rfl) (by kernel_rfl) rfl ?_;refine ρn ?_;refine Jmk ?_;refine mend (by kernel_rfl) ?_;have e52:Jxs r++x.cells=Jxs (r++[x]):=by rw [rowC_app',rowC_one'']
     have l52:r.length+1=(r++[x]).length:=by simp
     rw [e52,l52]at ho2;obtain ⟨A52,c52,rfl,hc52,hl52⟩:=Jjd ho2;have h52:RowX W2 (own w6.heap.size nv) (.slice A52 (r++[x]).length c52) (r++[x]):=by
      refine ⟨A52,c52,rfl,hc52,by simp;omega,Rd.own ho2,λ_ ad e hk=>?_⟩;have h1:=(hl52 ad.block (by rw [e];simp [Value.ownBlock])).1;have h2:=hx7d.size;rcases hk with hk|hk
      ·omega
      ·have:=(hnv.lt _ hk).2;have:=hxe.size;omega
     have hxf:Ext W2 W2.drew:=(Ext.refl W2).drew;have hx7W:=(hxe.trans hx2W).trans hxf;have hx6W:=hx7.trans hx7W;have hx1W:=hx15.trans (hx56.trans hx6W);have hx2W':=hx25.trans (hx56.trans hx6W);have htk:IntsV W2.drew (.slice LA (i+1) lc) (nz ((List.range N).take (i+1))):=by
      have hl:((List.range N).take (i+1)).length=i+1:=by rw [List.length_take,List.length_range];omega
      refine ⟨LA,lc,by rw [Jqc,hl],by rw [Jqc,hl];omega,by rw [Jqc,hl];omega,?_⟩;have:=(hLR.ext hx2W').take (m:=i+1) (by omega);rw [Jqc,hl];have e:(Jzw (nz (List.range N))).take ((i+1)*1)=Jzw (nz ((List.range N).take (i+1))):=by rw [Nat.mul_one];simp only [Jzw,nz,List.map_take]
      rw [e]at this;exact this
     refine ρ ?_;refine drN (λ_=>False) 10 [(0,0),(0,1),(0,2),(0,3),(0,4),(0,5),(1,6)] (by kernel_rfl) ?_;refine ρn ?_;refine Jfd (cs:=Qzk n f pA pn pc VA vc RA rc m) (λw' hg j u hu=>((hB.ext hx1W).ext hg.toExt).at hu) ?_;refine ρn ?_;refine nslh (A:=LA) (m:=N) (c:=lc) (i+1) ?_ (by omega);refine ρn ?_;refine nop ?_;refine cl (Qqf hP (hM.ext (hx1.trans hx1W)) htk (h52.v.ext hxf) (λu hu=>by have:=List.mem_range.1 (List.mem_of_mem_take hu);omega) (by simp;omega)) ?_;rintro _ W3 ⟨rfl,hx3W⟩;refine ρ ?_;refine Jqm (GrN.ext hx3W) ?_;refine ρn ?_;have hx7W3:=hx7W.trans hx3W;have hnv3:=hnv.ext hx7W3;refine ρ ?_;refine ci (λhf=>?_) (λhf=>?_)
     ·refine ρ ?_;refine bsl (λw=>Qbr (.slice A52 (r++[x]).length c52) w _ _ _ rfl) ?_;intro W4 b4' hx4W hb4' hB4';refine ρ ?_;refine appR (a:=w6) (hx7.trans (hx7W3.trans hx4W)) ER (hnv3.ext hx4W) hB4' ((((h52.ext hxf).ext hx3W)).ext hx4W) (by have:=Jtj j (by omega);omega) ?_;intro nv5 W5 hnv5 hx5W _;refine ρ ?_;refine Jjj (j+1) nv5 sO ⟨lj,hx5W,?_⟩ (by omega);rw [hr1,if_pos hf,<-List.append_assoc];exact hnv5
     ·refine ρ ?_;refine Jjj (j+1) nv sO ⟨lj,hx7.trans hx7W3,?_⟩ (by omega);rw [hr1,if_neg (by rw [hf];simp),List.append_nil];exact hnv3
    ·intro rest;have own0:∀ {W:World} {g:Nat},Blk W g 71 ([]:List Value)->w7.drew.heap.size<=g->W.ownsRow w7.drew.heap.size 71 3 (.slice (some ⟨g,0,none⟩) 0 0) 0 []:=λhB hb=>hB.own (n:=0) hb rfl (Nat.zero_le _);refine Xwl 0 10 (by kernel_rfl) rfl rfl rfl ?_ ?_
     ·refine ρ ?_;refine bsl Jhf ?_;intro W1 b0 hy1 hb0 hB0;refine Jxz (Jxp (GrN.ext hy1) ?_);refine Xwl 5 10 (by kernel_rfl) rfl rfl rfl ?_ ?_
      ·refine apb (m':=r.length) (news:=Jxs r) EV (own0 hB0 hb0) (hYRd.ext hy1) (Jdn r) (by unfold maxLen;omega) (by omega) hy1.size ?_;intro v46 W2 ho2 hg2 hn2;rw [Nat.zero_add,List.nil_append]at ho2;have hgN:GrN (λk=>w7.drew.heap.size<=k) W1 W2:=GrN.by hg2 λk hk=>by simp [Value.ownBlock]at hk;omega
       refine Jxz (Jxp hgN ?_);refine Qkq 10 (by kernel_rfl) rfl rfl ?_;refine bsl (Jns x) ?_;intro W3 b51 hy3 hb51 hB51;refine Jxz (Jxp (GrN.ext hy3) ?_);refine Jsw (listed':=lst 13 11) (by kernel_rfl) ?_;exact rest (v46,b51) _ _ ⟨(hgN.old hy1 λk hk=>hk).trans hy3,Jjc ho2 hy3,hB51⟩ sB
      ·refine ρ ?_;refine bsl (Jns x) ?_;intro W2 b51 hy2 hb51 hB51;refine Jxz (Jxp (GrN.ext hy2) ?_);refine Qkq 5 (by kernel_rfl) rfl rfl ?_;refine apb (m':=r.length) (news:=Jxs r) EV (own0 (hB0.ext hy2) hb0) (hYRd.ext (hy1.trans hy2)) (Jdn r) (by unfold maxLen;omega) (by omega) (hy1.trans hy2).size ?_;intro v46 W3 ho3 hg3 hn3;rw [Nat.zero_add,List.nil_append]at ho3;have hgN:GrN (λk=>w7.drew.heap.size<=k) W2 W3:=GrN.by hg3 λk hk=>by simp [Value.ownBlock]at hk;omega
       refine Jxz (Jxp hgN ?_);refine Jsw (listed':=lst 13 11) (by kernel_rfl) ?_;refine rest (v46,b51) _ _ ⟨hgN.old (hy1.trans hy2) λk hk=>hk,ho3,hB51.grown hg3 ?_⟩ sB;have:=hB0.lt;simp [Value.ownBlock];omega
     ·refine ρ ?_;refine bsl (Jns x) ?_;intro W1 b51 hy1 hb51 hB51;refine Jxz (Jxp (GrN.ext hy1) ?_);refine Qkq 0 (by kernel_rfl) rfl rfl ?_;refine bsl Jhf ?_;intro W2 b0 hy2 hb0 hB0;refine Jxz (Jxp (GrN.ext hy2) ?_);refine Qkq 5 (by kernel_rfl) rfl rfl ?_;have hb0':=Nat.le_trans hy1.size hb0;refine apb (m':=r.length) (news:=Jxs r) EV (own0 hB0 hb0') (hYRd.ext (hy1.trans hy2)) (Jdn r) (by unfold maxLen;omega) (by omega) (hy1.trans hy2).size ?_;intro v46 W3 ho3 hg3 hn3;rw [Nat.zero_add,List.nil_append]at ho3;have hgN:GrN (λk=>w7.drew.heap.size<=k) W2 W3:=GrN.by hg3 λk hk=>by simp [Value.ownBlock]at hk;omega
      refine Jxz (Jxp hgN ?_);refine Jsw (listed':=lst 13 11) (by kernel_rfl) ?_;refine rest (v46,b51) _ _ ⟨hgN.old (hy1.trans hy2) λk hk=>hk,ho3,(hB51.ext hy2).grown hg3 ?_⟩ sB;have:=hB51.lt;simp [Value.ownBlock];omega
   ·have hj':j=(Jdf m vars rs i).length:=by have:=of_decide_eq_false h;omega
    subst hj';clear h;refine ρ ?_;refine Jjj (k+1) nv sO ⟨lk,hx7,?_⟩ (by omega);rw [Jjm [] lk,List.flatMap_append,<-hr];simpa using hnv
  ·have hk':k=(Jcm m vars rs (List.range N) i).length:=by have:=of_decide_eq_false h;omega
   subst hk';clear h;rw [List.take_length]at hnv;refine ρ ?_;refine Jjj (i+1) nv sO ⟨li,(hx5.trans hx56).trans hx7,?_⟩ (by omega);have e:Jcm m vars rs (List.range N) (i+1)=(Jcm m vars rs (List.range N) i).flatMap λr=>Qvs m vars rs (List.range N) i r (Jdf m vars rs i).length:=by
    rw [Jcm];unfold Qkb Qvs;rw [Jkg li,List.take_length]
   rw [e]at hlen1 ⊢;exact hnv.rows (by omega)
 ·have hi':i=N:=by have:=of_decide_eq_false h;omega
  subst hi';clear h;have hlen:=Jtx hP (Nat.le_refl i);refine ρ ?_;refine ki 68 (λh=>?_) (λh=>?_)
  ·have h0:i=0:=by have:=Jql h;omega
   clear h;refine ρ ?_;refine lds (cs:=Qzk n f pA pn pc VA vc RA rc m) (λj u hu=>hB5.at hu) ?_;refine ρ ?_;refine bsl Jhf ?_;intro w6 b6 hx6 hb6 hB6;refine ρ ?_;refine cl (Qqf (vl:=[]) (r:=[]) hP (hM.ext (hx1.trans (hx15.trans hx6))) ⟨none,0,rfl,Nat.le_refl _,Nat.zero_le _,Rd.nil⟩ ⟨some ⟨b6,0,none⟩,0,rfl,Nat.le_refl _,Nat.zero_le _,Rd.nil⟩ (λu hu=>by cases hu) rfl) ?_;rintro _ w7 ⟨rfl,hx7⟩;refine ρ ?_;subst h0;refine ci (λhf=>?_) (λhf=>?_)
   ·have hb0:Qfs m vars rs [] []=false:=by cases hh:Qfs m vars rs [] []<;>first|rfl|(rw [hh]at hf;cases hf)
    refine ρ ?_;refine Jjq ⟨?_,(hx1.trans hx15).trans (hx6.trans hx7)⟩;unfold Jks;rw [if_pos rfl,hb0];exact ⟨[],none,0,rfl,rfl,Nat.le_refl _,Nat.zero_le _,Rd.nil,λp hp=>by cases hp⟩
   ·have hb0:Qfs m vars rs [] []=true:=by cases hh:Qfs m vars rs [] []<;>first|rfl|(rw [hh]at hf;cases hf)
    refine ρ ?_;refine Jjq ⟨?_,(hx1.trans hx15).trans (hx6.trans hx7)⟩;unfold Jks;rw [if_pos rfl,if_pos hb0];exact hov.ext (hx6.trans hx7)
  ·have h0:i≠0:=λe=>by have:=Jqh h;omega
   clear h;refine ρ ?_;refine Jjq ⟨?_,hx1.trans hx15⟩;unfold Jks;rw [if_neg h0];exact hov
end
open Go.RowKit Pl Go.Wk
theorem Xks{N:Nat}(hN:N<=32): bk (2^N-1) 32=List.range N:=by
 have key:∀ k,bk (2^N-1) k=List.range (min k N):=by
  intro k;induction k with
  | zero=>rfl
  | succ k ih=>
   rw [Jwt,ih,Nat.testBit_two_pow_sub_one];by_cases h:k<N
   ·rw [if_pos (by simpa using h),Nat.min_eq_left (by omega),Nat.min_eq_left (by omega),List.range_succ]
   ·rw [if_neg (by simpa using h),Nat.min_eq_right (by omega),Nat.min_eq_right (by omega),List.append_nil]
 rw [key,Nat.min_eq_right hN]
theorem Qlt{m N:Nat}{vars:Nat->List Nat}{rs:Nat->List Row}(hP:RefP N m vars rs){z:Row}(hz:z∈Jks m vars rs N): z.length=N:=((Jms hP.asc hP.len hP.lt hP.cov z).1 hz).1
section
variable {pA VA RA:Option Addr} {pn pc vc rc N m:Nat} {f:Int} {vars:Nat->List Nat} {rs:Nat->List Row} {w:World}
theorem Qht(hP:RefP N m vars rs)(hM:RInM w VA RA m vars rs)(hN:N<=31):
  Ret Tryz.prog 92 [.agg (Qzk (N:Int) f pA pn pc VA vc RA rc m).toArray] w λu w'=>RowsV w' u (Jks m vars rs N)/\Ext w w':=by
 refine Jjb Tryz.func92 Tryz.ntmps92 rfl (by kernel_rfl) rfl ?_;refine ρ ?_;refine bx (cs:=Qzk (N:Int) f pA pn pc VA vc RA rc m) ?_;intro w1 b hx1 hb hB;refine ρ ?_;refine lds (cs:=Qzk (N:Int) f pA pn pc VA vc RA rc m) (λj u hu=>hB.at hu) ?_;refine ρ ?_;refine ld (hB.at (i:=0) rfl) ?_;refine ρ ?_;refine Go.Wk.kv 6 (congrArg (λz=>Value.int .u64 z) (Qpt (z:=(N:Int)) (by omega))) ?_;refine Xyb (v:=N) (by omega) ?_;refine ρ ?_;have h1:1<=2^N:=Nat.pow_pos (by decide);have h2:=Jwc (show N<32 by omega);have e:IntKind.u32.wrap (((2^N:Nat):Int)-1)=((2^N-1:Nat):Int):=by rw [IntKind.wrap_u32];omega
 refine Go.Wk.kv 8 (congrArg (λz=>Value.int .u32 z) e) ?_;refine cl (Qrd hP (hM.ext hx1) (by omega) (Xks (by omega))) ?_;rintro u w2 ⟨hu,hx2⟩;refine ρ ?_;exact Jjq ⟨hu,hx1.trans hx2⟩
theorem Jsn{F:Nat}{ds:List Bool}{dv:Value}(hP:RefP N m vars rs)(hM:RInM w VA RA m vars rs)(hN:N<=31)(hF:F<=N)(hd:BoolsV w dv ds):
  Ret Tryz.prog 55 [.agg (Qzk (N:Int) (F:Int) pA pn pc VA vc RA rc m).toArray,dv] w λu w'=>RowsV w' u (Xdh m vars rs N F ds)/\Ext w w'/\Fresh w u:=by
 have hjl:(Jks m vars rs N).length<=5000:=Nat.le_trans (Qqx hP.asc hP.len hP.cov) hP.cnt;refine Jjb Tryz.func55 Tryz.ntmps55 rfl (by kernel_rfl) rfl ?_;refine ρ ?_;refine bx (cs:=Qzk (N:Int) (F:Int) pA pn pc VA vc RA rc m) ?_;intro w1 b hx1 hb hB;refine ρ ?_;refine lds (cs:=Qzk (N:Int) (F:Int) pA pn pc VA vc RA rc m) (λj u hu=>hB.at hu) ?_;refine ρ ?_;refine cl (Qht hP (hM.ext hx1) hN) ?_;rintro jv w2 ⟨hj,hx2⟩;obtain ⟨JA,jc,rfl,hjc,hjm,jcs,hJR,hJe⟩:=hj.parts;refine ρ ?_;refine Jjv (fun (i:Nat) (ov:Value)=>[(1,dv),(2,.pointer (some ⟨b,0,none⟩)),(5,ov),(6,.slice JA (Jks m vars rs N).length jc),(7,.int .i64 (i:Int))])
  (λi ov w'=>i<=(Jks m vars rs N).length/\Ext w2 w'/\Fresh w2 ov/\RowsV w' ov ((((Jks m vars rs N).take i).map (List.take F)).foldl (Jpv ds) [])/\((((Jks m vars rs N).take i).map (List.take F)).foldl (Jpv ds) []).length<=i) (λi _=>(Jks m vars rs N).length-i) 0 (.slice none 0 0) sB
  ⟨Nat.zero_le _,Ext.refl _,(λad n c e=>by cases e),⟨[],none,0,rfl,rfl,Nat.le_refl _,Nat.zero_le _,Rd.nil,λp hp=>by cases hp⟩,Nat.le_refl _⟩ ?_
 rintro i ov w3 ⟨hi,hx3,hovf,hov,hol⟩;have hx13:=hx2.trans hx3;refine ρ ?_;refine ci (λh=>?_) (λh=>?_)
 ·have li:i<(Jks m vars rs N).length:=by have:=of_decide_eq_true h;omega
  clear h;obtain ⟨xv,hxc,hxV⟩:=hJe i li;obtain ⟨z,hz⟩:∃ z,z=(Jks m vars rs N).getD i []:=⟨_,rfl⟩;have hzl:z.length=N:=Qlt hP (by rw [hz];exact getD_mem' [] _ li);rw [<-hz]at hxV;obtain ⟨XA,xc,rfl,hxc1,hxc2,hXR⟩:=id hxV;have hxd:Ext w3 w3.drew:=(Ext.refl w3).drew;have hset:=Jyx (ds:=ds) (((Jks m vars rs N).take i).map (List.take F)) (done:=[]) (l:=[]) ⟨List.Pairwise.nil,λx=>Iff.rfl⟩;refine ρ ?_;refine drN (λ_=>False) 10 [(0,0),(0,1),(0,2),(0,3),(0,4),(0,5),(0,6),(0,7),(0,8),(1,9),(0,10)] (by kernel_rfl) ?_;have hJd:=hJR.ext (hx3.trans hxd);have hBd:=(hB.ext hx13).ext hxd;refine ρn ?_;refine nix i hJd li ?_;refine ρn ?_;refine nld (λw' hg=>(hJd.ext hg.toExt).cell hxc) ?_;refine ρn ?_;refine nld (Jjg (hBd.at (i:=1) rfl) (λe=>e)) ?_;refine ρn ?_;refine nslh (A:=XA) (m:=z.length) (c:=xc) F ?_ (by omega);refine ρn ?_;refine nop ?_;have htk:RowV w3.drew (.slice XA F xc) (z.take F):=by
   have hl:(z.take F).length=F:=by rw [List.length_take];omega
   refine ⟨XA,xc,by rw [hl],by rw [hl];omega,by rw [hl];omega,?_⟩;have:=(Rd.ext hXR (hx3.trans hxd)).take (m:=F) (by omega);rw [Qqd z (by omega)]at this;unfold RdR;rw [hl];exact this
  refine cl (Jps (hov.ext hxd) htk (hd.ext ((hx1.trans hx13).trans hxd)) hset.1 (by omega)) ?_;rintro ov4 w4 ⟨h4,hx4,h4f⟩;refine ρ ?_;refine Jqm (GrN.ext hx4) ?_;refine ρn ?_;have e:(((Jks m vars rs N).take (i+1)).map (List.take F)).foldl (Jpv ds) []=Jpv ds ((((Jks m vars rs N).take i).map (List.take F)).foldl (Jpv ds) []) (z.take F):=by
   rw [Jjm [] li,<-hz,List.map_append,List.foldl_append];rfl
  refine ρ ?_;refine Jjj (i+1) ov4 sO ⟨li,(hx3.trans hxd).trans hx4,?_,by rw [e];exact h4,?_⟩ (by omega)
  ·rcases h4f with h'|h'
   ·rw [h'];exact hovf
   ·exact λad n c e=>Nat.le_trans (hx3.trans hxd).size (h' ad n c e)
  rw [e];have:=Qrh ds ((((Jks m vars rs N).take i).map (List.take F)).foldl (Jpv ds) []) (z.take F);omega
 ·have hi':i=(Jks m vars rs N).length:=by have:=of_decide_eq_false h;omega
  rw [hi',List.take_length]at hov;refine ρ ?_;exact Jjq ⟨hov,hx1.trans hx13,λad n c e=>Nat.le_trans (hx1.trans hx2).size (hovf ad n c e)⟩
theorem Qqg{F:Nat}{ds:List Bool}{dv:Value}(hP:RefP N m vars rs)(hM:RInM w VA RA m vars rs)(hN:N<=31)(hF:F<=N)(hd:BoolsV w dv ds):
  Ret Tryz.prog 55 [.agg (Qzk (N:Int) (F:Int) pA pn pc VA vc RA rc m).toArray,dv] w λu w'=>RowsV w' u (Xdh m vars rs N F ds)/\Ext w w':=(Jsn hP hM hN hF hd).mono λu w' h=>⟨h.1,h.2.1⟩
end
open Go.RowKit Pl Go.Wk
def IntssV(w:World)(v:Value)(zss:List (List Int)): Prop:=∃ A c cs,v=.slice A zss.length c/\zss.length<=c/\zss.length<=1100000/\Rd w 1 A zss.length cs/\∀ i,i<zss.length->∃ u,cs[i]?=some u/\IntsV w u (zss.getD i [])
def RowssV(w:World)(v:Value)(rss:List (List Row)): Prop:=∃ A c cs,v=.slice A rss.length c/\rss.length<=c/\rss.length<=1100000/\Rd w 1 A rss.length cs/\∀ i,i<rss.length->∃ u,cs[i]?=some u/\RowsV w u (rss.getD i [])
theorem IntssV.ext{w w':World}{v:Value}{zss:List (List Int)}(h:IntssV w v zss)(hx:Ext w w'): IntssV w' v zss:=by
 obtain ⟨A,c,cs,h1,h2,h3,h4,h5⟩:=h;exact ⟨A,c,cs,h1,h2,h3,h4.ext hx,λi hi=>by obtain ⟨u,e,hu⟩:=h5 i hi;exact ⟨u,e,hu.ext hx⟩⟩
theorem RowssV.ext{w w':World}{v:Value}{zss:List (List Row)}(h:RowssV w v zss)(hx:Ext w w'): RowssV w' v zss:=by
 obtain ⟨A,c,cs,h1,h2,h3,h4,h5⟩:=h;exact ⟨A,c,cs,h1,h2,h3,h4.ext hx,λi hi=>by obtain ⟨u,e,hu⟩:=h5 i hi;exact ⟨u,e,hu.ext hx⟩⟩
structure Cse where
 n: Int
 f:Int
 ds:List Bool
 pm:List Int
 vs:List (List Int)
 rss:List (List Row)
def CseV(w:World)(cs:List Value)(c:Cse): Prop:=∃ dA dc pA pc vA vc rA rc,cs=[.int .i64 c.n,.int .i64 c.f,.slice dA c.ds.length dc,.slice pA c.pm.length pc,.slice vA c.vs.length vc,.slice rA c.rss.length rc] /\
 BoolsV w (.slice dA c.ds.length dc) c.ds/\IntsV w (.slice pA c.pm.length pc) c.pm/\IntssV w (.slice vA c.vs.length vc) c.vs/\RowssV w (.slice rA c.rss.length rc) c.rss/\(-9223372036854775808<=c.n/\c.n<=9223372036854775807)/\(-9223372036854775808<=c.f/\c.f<=9223372036854775807)
theorem CseV.ext{w w':World}{cs:List Value}{c:Cse}(h:CseV w cs c)(hx:Ext w w'): CseV w' cs c:=by
 obtain ⟨dA,dc,pA,pc,vA,vc,rA,rc,h1,h2,h3,h4,h5,h6⟩:=h;exact ⟨dA,dc,pA,pc,vA,vc,rA,rc,h1,h2.ext hx,h3.ext hx,h4.ext hx,h5.ext hx,h6⟩
structure FewP(c:Cse): Prop where
 row:∀ i,i<c.rss.length->(c.rss.getD i []).length<=10
 cnt:(Jjz c.rss.length λi=>max 1 (c.rss.getD i []).length)<=5000
 n6:c.n<=6∨32<c.n
 v5:c.vs.length<=5
 r5:c.rss.length<=5
structure FewS(c:Cse): Prop where
 row:∀ i,i<c.rss.length->(c.rss.getD i []).length<=10
 cnt:(Jjz c.rss.length λi=>max 1 (c.rss.getD i []).length)<=5000
 n6:c.n<=6
 v5:c.vs.length<=5
 r5:c.rss.length<=5
 v8:∀ i,i<c.vs.length->(c.vs.getD i []).length<=8
 d10:c.ds.length<=10
 p10:c.pm.length<=10
theorem Xkb{w:World}{cs:List Value}{c:Cse}(h:CseV w cs c): Ret Tryz.prog 54 [.agg cs.toArray] w λu w'=>Ext w w'/\∃ b:Bool,u=.bool b/\(b=true->FewP c)/\(FewS c->b=true):=by
 obtain ⟨dA,dc,pA,pc,vA,vc,rA,rc,rfl,hD,hP,hV,hR,hn,hf⟩:=h;obtain ⟨_,_,rcs,e1,_,_,hRR,hRe⟩:=id hR;injection e1 with e1 e2 e3
 subst e1;subst e3;obtain ⟨_,_,vcs,e1,_,_,hVR,hVe⟩:=id hV;injection e1 with e1 e2 e3
 subst e1;subst e3;refine Jjb Tryz.func54 Tryz.ntmps54 rfl (by kernel_rfl) rfl ?_;refine ρ ?_;refine bx (cs:=[.int .i64 c.n,.int .i64 c.f,.slice dA c.ds.length dc,.slice pA c.pm.length pc,.slice vA c.vs.length vc,.slice rA c.rss.length rc]) ?_;intro w1 b hx1 hb hB;refine ρ ?_;refine Jjv (fun (i:Nat) (many:Nat)=>[(1,.pointer (some ⟨b,0,none⟩)),(2,.bool false),(3,.int .i64 (many:Int)),(4,.int .i64 (i:Int))])
  (λi many w'=>i<=6/\i<=c.rss.length/\w'=w1/\many=(Jjz i λi=>max 1 (c.rss.getD i []).length)/\many<=10^i/\∀ j,j<i->(c.rss.getD j []).length<=10) (λi _=>6-i) 0 1 sB ⟨by omega,Nat.zero_le _,rfl,rfl,by simp,λj hj=>by omega⟩ ?_
 rintro i many w2 ⟨h6,hi,rfl,hmany,hm10,hrow⟩;refine ρ ?_;refine ld (hB.at (i:=5) rfl) ?_;refine ρ ?_;refine Jzm (fun (t:Bool)=>[(14,.bool t),(1,.pointer (some ⟨b,0,none⟩)),(2,.bool false),(3,.int .i64 (many:Int)),(4,.int .i64 (i:Int))]) (λt w3=>w3=w2/\(t=true↔i<c.rss.length/\i<6)) ?_ ?_
 ·refine ki 11 (λh=>?_) (λh=>?_)
  ·have:=of_decide_eq_true h;refine ρ ?_;refine Jjn (decide ((i:Int)<6)) sB ⟨rfl,?_⟩;rw [decide_eq_true_eq];omega
  ·have:=of_decide_eq_false h;refine ρ ?_;refine Jjn false sB ⟨rfl,?_⟩;constructor
   ·intro h;cases h
   ·omega
 rintro t w3 ⟨rfl,ht⟩;refine ρ ?_;refine ci (λh=>?_) (λh=>?_)
 ·obtain ⟨li,l6⟩:=ht.1 h;clear h;obtain ⟨ru,hrc,hrV⟩:=hRe i li;obtain ⟨TA,tc,rfl,_,_,_⟩:=id (hrV.ext hx1).parts;refine ρ ?_;refine ld (hB.at (i:=5) rfl) ?_;refine ρ ?_;refine ix i (hRR.ext hx1) li ?_;refine ρ ?_;refine ld ((hRR.ext hx1).cell hrc) ?_;refine ρ ?_;refine ci (λh=>?_) (λh=>?_)
  ·refine ρ ?_;exact Jjq ⟨hx1,false,rfl,λh=>(by cases h),λhS=>by have h1:=hS.row i li;have h2:=of_decide_eq_true h;exact False.elim (by omega)⟩
  ·have l10:(c.rss.getD i []).length<=10:=by have:=of_decide_eq_false h;omega
   clear h;refine ρ ?_;refine ld (hB.at (i:=5) rfl) ?_;refine ρ ?_;refine ix i (hRR.ext hx1) li ?_;refine ρ ?_;refine ld ((hRR.ext hx1).cell hrc) ?_;refine ρ ?_;have hmx:(if (1:Int)<((c.rss.getD i []).length:Int) then ((c.rss.getD i []).length:Int) else 1)=((max 1 (c.rss.getD i []).length:Nat):Int):=by
    split<;>omega
   have hm5:many<=100000:=Nat.le_trans hm10 (Nat.pow_le_pow_right (by decide) (show i<=5 by omega));have hmm:many*max 1 (c.rss.getD i []).length<=many*10:=Nat.mul_le_mul_left _ (by omega);have e:IntKind.i64.wrap ((many:Int)*(if (1:Int)<((c.rss.getD i []).length:Int) then ((c.rss.getD i []).length:Int) else 1))=((many*max 1 (c.rss.getD i []).length:Nat):Int):=by
    rw [hmx,<-Int.natCast_mul];exact Qsd (by omega)
   rw [e];refine Jjj (i+1) (many*max 1 (c.rss.getD i []).length) sO ⟨by omega,by omega,rfl,?_,?_,λj hj=>?_⟩ (by omega)
   ·rw [Jjz,<-hmany]
   ·rw [Nat.pow_succ];exact Nat.mul_le_mul hm10 (by omega)
   ·by_cases e:j=i
    ·rw [e];exact l10
    ·exact hrow j (by omega)
 have hex:¬ (i<c.rss.length/\i<6):=λh'=>by have:=ht.2 h';rw [h]at this;cases this
 clear h ht;refine ρ ?_;refine ci (λh=>?_) (λh=>?_)
 ·refine ρ ?_;exact Jjq ⟨hx1,false,rfl,λh=>(by cases h),λhS=>by
   have h1:=hS.cnt;have h2:=hS.r5;have h3:=of_decide_eq_true h;have h4:i=c.rss.length:=by omega
   rw [<-h4,<-hmany]at h1;exact False.elim (by omega)⟩
 have hm5:many<=5000:=by have:=of_decide_eq_false h;omega
 clear h;refine ρ ?_;refine Jqn (fun (k:Nat)=>[(1,.pointer (some ⟨b,0,none⟩)),(2,.bool false),(5,.int .i64 (k:Int))])
  (λk w'=>k<=6/\k<=c.vs.length/\w'=w3) (λk=>6-k) 0 sB ⟨by omega,Nat.zero_le _,rfl⟩ ?_
 rintro k w4 ⟨k6,hk,rfl⟩;refine ρ ?_;refine ld (hB.at (i:=4) rfl) ?_;refine ρ ?_;refine Jzm (fun (t:Bool)=>[(43,.bool t),(1,.pointer (some ⟨b,0,none⟩)),(2,.bool false),(5,.int .i64 (k:Int))]) (λt w5=>w5=w4/\(t=true->k<c.vs.length/\k<6)) ?_ ?_
 ·refine ki 40 (λh=>?_) (λh=>?_)
  ·have:=of_decide_eq_true h;refine ρ ?_;refine Jjn (decide ((k:Int)<6)) sB ⟨rfl,?_⟩;rw [decide_eq_true_eq];omega
  ·refine ρ ?_;exact Jjn false sB ⟨rfl,λh=>by cases h⟩
 rintro t w5 ⟨rfl,ht⟩;refine ρ ?_;refine ci (λh=>?_) (λh=>?_)
 ·obtain ⟨lk,l6⟩:=ht h;clear h;obtain ⟨vu,hvc,hvV⟩:=hVe k lk;obtain ⟨QA,qc,rfl,_⟩:=id hvV;refine ρ ?_;refine ld (hB.at (i:=4) rfl) ?_;refine ρ ?_;refine ix k (hVR.ext hx1) lk ?_;refine ρ ?_;refine ld ((hVR.ext hx1).cell hvc) ?_;refine ρ ?_;refine ci (λh=>?_) (λh=>?_)
  ·refine ρ ?_;exact Jjq ⟨hx1,false,rfl,λh=>(by cases h),λhS=>by have h1:=hS.v8 k lk;have h2:=of_decide_eq_true h;exact False.elim (by omega)⟩
  ·refine ρ ?_;exact Jjt (k+1) sO ⟨by omega,by omega,rfl⟩ (by omega)
 clear h ht;refine ρ ?_;refine ld (hB.at (i:=0) rfl) ?_;refine ρ ?_;refine ki 56 (λh=>?_) (λh=>?_)
 ·have hN:c.n<=6:=of_decide_eq_true h;clear h;refine ρ ?_;refine ld (hB.at (i:=4) rfl) ?_;refine ρ ?_;refine ki 67 (λh4=>?_) (λh4=>?_)
  ·refine ρ ?_;refine ld (hB.at (i:=5) rfl) ?_;refine ρ ?_;refine ki 73 (λh5=>?_) (λh5=>?_)
   ·have r5:c.rss.length<=5:=by have:=of_decide_eq_true h5;omega
    have v5:c.vs.length<=5:=by have:=of_decide_eq_true h4;omega
    have ir:i=c.rss.length:=by omega
    have hfew:FewP c:=⟨λj hj=>hrow j (by omega),by rw [<-ir,<-hmany];exact hm5,.inl hN,v5,r5⟩;refine ρ ?_;refine ld (hB.at (i:=2) rfl) ?_;refine ρ ?_;refine ki 79 (λh6=>?_) (λh6=>?_)
    ·refine ρ ?_;refine ld (hB.at (i:=3) rfl) ?_;refine ρ ?_;exact Jjq ⟨hx1,decide ((c.pm.length:Int)<=10),rfl,λ_=>hfew,λhS=>by have:=hS.p10;exact decide_eq_true (by omega)⟩
    ·refine ρ ?_;exact Jjq ⟨hx1,false,rfl,λh=>(by cases h),λhS=>by have h1:=hS.d10;have h2:=of_decide_eq_false h6;exact False.elim (by omega)⟩
   ·refine ρ ?_;exact Jjq ⟨hx1,false,rfl,λh=>(by cases h),λhS=>by have h1:=hS.r5;have h2:=of_decide_eq_false h5;exact False.elim (by omega)⟩
  ·refine ρ ?_;exact Jjq ⟨hx1,false,rfl,λh=>(by cases h),λhS=>by have h1:=hS.v5;have h2:=of_decide_eq_false h4;exact False.elim (by omega)⟩
 ·have hn6:¬ c.n<=6:=of_decide_eq_false h;clear h;refine ρ ?_;refine ld (hB.at (i:=0) rfl) ?_;refine ρ ?_;refine ki 61 (λh=>?_) (λh=>?_)
  ·have hN:32<c.n:=of_decide_eq_true h;clear h;refine ρ ?_;refine ld (hB.at (i:=4) rfl) ?_;refine ρ ?_;refine ki 67 (λh4=>?_) (λh4=>?_)
   ·refine ρ ?_;refine ld (hB.at (i:=5) rfl) ?_;refine ρ ?_;refine ki 73 (λh5=>?_) (λh5=>?_)
    ·have r5:c.rss.length<=5:=by have:=of_decide_eq_true h5;omega
     have v5:c.vs.length<=5:=by have:=of_decide_eq_true h4;omega
     have ir:i=c.rss.length:=by omega
     have hfew:FewP c:=⟨λj hj=>hrow j (by omega),by rw [<-ir,<-hmany];exact hm5,.inr hN,v5,r5⟩;refine ρ ?_;refine ld (hB.at (i:=2) rfl) ?_;refine ρ ?_;refine ki 79 (λh6=>?_) (λh6=>?_)
     ·refine ρ ?_;refine ld (hB.at (i:=3) rfl) ?_;refine ρ ?_;exact Jjq ⟨hx1,decide ((c.pm.length:Int)<=10),rfl,λ_=>hfew,λhS=>absurd hS.n6 hn6⟩
     ·refine ρ ?_;exact Jjq ⟨hx1,false,rfl,λh=>(by cases h),λhS=>absurd hS.n6 hn6⟩
    ·refine ρ ?_;exact Jjq ⟨hx1,false,rfl,λh=>(by cases h),λhS=>absurd hS.n6 hn6⟩
   ·refine ρ ?_;exact Jjq ⟨hx1,false,rfl,λh=>(by cases h),λhS=>absurd hS.n6 hn6⟩
  ·refine ρ ?_;exact Jjq ⟨hx1,false,rfl,λh=>(by cases h),λhS=>absurd hS.n6 hn6⟩
end Go.Proofs.YtefpailelagbkaaGreatDoor
