/- Part 7. -/
import Derived.Test.YtbcdghbonlifdaaGreatDoorZ06
import Derived.ProofKit
import Derived.OpenShut
import Derived.ShutString
import Derived.ChangeOld
import Derived.Deep.Slices
import Derived.Deep.Fields
import Derived.Test.YtbcdghbonlifdaaGreatDoorRows
import Derived.LaidSub
import Derived.Lib.LaidTab
set_option linter.unusedVariables false
set_option maxRecDepth 100000
set_option maxHeartbeats 40000000
namespace Go.Proofs.YtbcdghbonlifdaaGreatDoor
open Go.RowKit Pl Go.Wk
attribute [local irreducible] WC WL QX WD WDB WP WN WG WH WM
variable {k s:Nat}
def Jzq(m:Nat)(vars:Nat->List Nat)(rs:Nat->List Row)(n f:Nat)(ds:List Bool): List Row:=((Xs m vars rs n).map (List.take f)).foldl (Zd ds) []
theorem Qbq(m:Nat)(vars:Nat->List Nat)(rs:Nat->List Row)(n f:Nat)(ds:List Bool): Zz ds ((Xs m vars rs n).map (List.take f)) (Jzq m vars rs n f ds):=by
 have:=Jzc (ds:=ds) ((Xs m vars rs n).map (List.take f)) (done:=[]) (l:=[]) ⟨List.Pairwise.nil,λx=>Iff.rfl⟩;rwa [List.nil_append]at this
theorem Qnl(ds:List Bool)(l:List Row)(r:Row): (Zd ds l r).length<=l.length+1:=by
 unfold Zd;grind
section
variable {n f:Int} {pA VA RA:Option Addr} {pn pc vc rc N m:Nat} {vars:Nat->List Nat} {rs:Nat->List Row} {w:World}
theorem Jng(hP:RefP N m vars rs)(hk:k<=N): (Xv m vars rs (List.range N) k).length<=5000:=nL (Qbg hP.asc hP.len hP.cov hk) hP.cnt
def Yn(m:Nat)(vars:Nat->List Nat)(rs:Nat->List Row)(vl:List Nat)(k:Nat)(r:Row)(j:Nat): List Row:=(((Xc m vars rs (vl.getD k 0)).take j).map λx=>r++[x]).filter (Um m vars rs (vl.take (k+1)))
theorem Qmw(hP:RefP N m vars rs)(hM:RInM w VA RA m vars rs)(hs:s<4294967296)(hbk:bk s 32=List.range N):
  Ret Tryz.prog 130 [.agg (Vz n f pA pn pc VA vc RA rc m).toArray,.int .u32 (s:Int)] w λu w'=>RowsV w' u (Xs m vars rs N)/\Ext w w':=by
 have d1:=hP.m32;have d0:=hP.n32;refine Jz Tryz.func130 Tryz.ntmps130 rfl kr rfl ?_;refine ρ ?_;refine bx (cs:=Vz n f pA pn pc VA vc RA rc m) ?_;intro w1 b a8 hb hB;refine ρ ?_;refine cl (Qmt hs w1) ?_;rintro lv w2 ⟨bp,ca⟩;rw[hbk]at bp;obtain⟨LA,lc,rfl,cg,ce,bb⟩:=id bp.n;rw[List.length_range]at cg ce bb ⊢;refine ρ ?_;refine bsl Kt ?_;intro w3 b3 bi da dc;refine ρ ?_;refine bsl (λw=>Jdb (.slice (some ⟨b3,0,none⟩) 0 0) w _ _ _ rfl) ?_;intro w4 b4 bh d9 cq;have bm:=(ca.trans bi).trans bh;have bl:=bi.trans bh;have h0:RowsV w4 (.slice (some ⟨b4,0,none⟩) 1 1) (Xv m vars rs (List.range N) 0):=⟨[(.slice (some ⟨b3,0,none⟩) 0 0,[])],_,_,rfl,rfl,by simp,by simp,cq.rd (n:=1) rfl,λp hp=>by
  rw[List.mem_singleton.1 hp];exact⟨_,_,rfl,by simp,by simp,Rd.nil⟩⟩
 refine ρ ?_;refine Jt (fun (i:Nat) (ov:Value)=>[(2,.pointer (some ⟨b,0,none⟩)),(5,.slice LA N lc),(6,ov),(7,.int .i64 (i:Int))])
  (λi ov w'=>i<=N/\Ext w4 w'/\RowsV w' ov (Xv m vars rs (List.range N) i)) (λi _=>N-i) 0 (.slice (some ⟨b4,0,none⟩) 1 1) sB ⟨Nat.zero_le _,Ext.refl _,h0⟩ ?_
 clear h0;rintro i ov w5 ⟨hi,b1,b7⟩;have G:=bm.trans b1;have ao:=bl.trans b1;have c3:=hB.ext G;refine ρ ?_;refine ci (λh=>?_) (λh=>?_)
 .have li:i<N:=by have:=oT h;omega
  clear h;have bq:=Jng hP hi;have ag:=Jng hP (show i+1<=N by omega);have ak:Ext w5 w5.drew:=(Ext.refl w5).drew;have c1:=bb.ext (ao.trans ak);have ba:(Jp (nz (List.range N)))[i]?=some (.int .i64 (i:Int)):=by
   have:=Xt (cs:=List.range N) (show i<(List.range N).length by simpa using li);rwa [Jjn li]at this
  refine ρ ?_;refine dr [(0,0),(0,1),(0,2),(0,3),(0,4),(1,5),(0,6)] kr ?_;refine ρd ?_;refine Jo (cs:=Vz n f pA pn pc VA vc RA rc m) (λj u hu=>(c3.ext ak).at hu) ?_;refine ρd ?_;refine dix i c1 li ?_;refine ρd ?_;refine dld (c1.cell ba) ?_;refine ρd ?_;refine dcl (Qms hP (hM.ext (a8.trans (G.trans ak))) i) ?_;rintro xv w6 ⟨⟨c9,d3⟩,a4⟩;refine⟨a4,?_⟩;have a6:=ak.trans a4;obtain⟨OA,oc,rfl,d7,d6,cz,cp,co⟩:=id (b7.ext a6).parts;obtain⟨XA,xc,rfl,d4,d2,cn⟩:=id c9;refine ρd ?_;refine ρ ?_;refine Jt (fun (k:Nat) (nv:Value)=>[(2,.pointer (some ⟨b,0,none⟩)),(5,.slice LA N lc),(6,.slice OA (Xv m vars rs (List.range N) i).length oc),(7,.int .i64 (i:Int)),(8,nv),(9,.slice XA (Xc m vars rs i).length xc),(10,.int .i64 (k:Int))])
   (λk nv w'=>k<=(Xv m vars rs (List.range N) i).length/\Ext w6 w'/\OwnR w' w6.heap.size nv (((Xv m vars rs (List.range N) i).take k).flatMap λr=>Yn m vars rs (List.range N) i r (Xc m vars rs i).length)) (λk _=>(Xv m vars rs (List.range N) i).length-k) 0 (.slice none 0 0) sB
   ⟨Nat.zero_le _,Ext.refl _,OwnR.nil _ _⟩ ?_
  rintro k nv w7 ⟨J,C,a1⟩;refine ρ ?_;refine ci (λh=>?_) (λh=>?_)
  .have lk:k<(Xv m vars rs (List.range N) i).length:=by have:=oT h;omega
   clear h;obtain⟨r,hr⟩:∃ r,r=(Xv m vars rs (List.range N) i).getD k []:=⟨_,rfl⟩;have d5:r.length=i:=((Jdg hP.asc hP.len hP.cov i hi r).1 (by rw[hr];exact getD_mem' [] _ lk)).1;obtain⟨yv,c8,be⟩:=co k lk;rw[<-hr]at be;obtain⟨YA,yc,rfl,cw,cv,cm⟩:=id be;have b5:Jjk m vars rs (List.range N) i (Xv m vars rs (List.range N) i)=(Xv m vars rs (List.range N) i).flatMap λr=>Yn m vars rs (List.range N) i r (Xc m vars rs i).length:=by
    unfold Jjk Yn;rw[Jjn li,List.take_length]
   have Zv:∀ j,j<=(Xc m vars rs i).length->(((Xv m vars rs (List.range N) i).take k).flatMap (λr=>Yn m vars rs (List.range N) i r (Xc m vars rs i).length)++Yn m vars rs (List.range N) i r j).length<=5000:=λj hj=>by
    refine nL ?_ ag;rw[Xv,b5];conv=>rhs;rw[<-List.take_append_drop k (Xv m vars rs (List.range N) i),List.flatMap_append,List.length_append]
    rw[List.length_append];refine Nat.add_le_add_left ?_ _;have hd:(Xv m vars rs (List.range N) i).drop k=r::(Xv m vars rs (List.range N) i).drop (k+1):=by
     rw[hr];simp[List.getD,List.getElem?_eq_getElem lk]
    rw[hd,List.flatMap_cons,List.length_append];refine nL ?_ (Nat.le_add_right _ _);unfold Yn;refine List.Sublist.length_le (List.Sublist.filter _ (List.Sublist.map _ ?_));rw[Jjn li,List.take_length];exact List.take_sublist _ _
   refine ρ ?_;refine Jt (fun (j:Nat) (nv:Value)=>[(2,.pointer (some ⟨b,0,none⟩)),(5,.slice LA N lc),(6,.slice OA (Xv m vars rs (List.range N) i).length oc),(7,.int .i64 (i:Int)),(8,nv),(9,.slice XA (Xc m vars rs i).length xc),(10,.int .i64 (k:Int)),(11,.int .i64 (j:Int))])
    (λj nv w'=>j<=(Xc m vars rs i).length/\Ext w6 w'/\OwnR w' w6.heap.size nv (((Xv m vars rs (List.range N) i).take k).flatMap (λr=>Yn m vars rs (List.range N) i r (Xc m vars rs i).length)++Yn m vars rs (List.range N) i r j)) (λj _=>(Xc m vars rs i).length-j) 0 nv sB
    ⟨Nat.zero_le _,C,by simpa [Yn] using a1⟩ ?_
   clear a1 nv C w7;rintro j nv w7 ⟨hj,C,a1⟩;refine ρ ?_;refine ci (λh=>?_) (λh=>?_)
   .have lj:j<(Xc m vars rs i).length:=by have:=oT h;omega
    clear h;obtain⟨x,hx⟩:∃ x,x=(Xc m vars rs i).getD j V0:=⟨_,rfl⟩;have bn:Yn m vars rs (List.range N) i r (j+1)=Yn m vars rs (List.range N) i r j++if Um m vars rs ((List.range N).take (i+1)) (r++[x])=true then[r++[x]] else[]:=by
     unfold Yn;rw[Jjn li,Qc V0 lj,List.map_append,List.filter_append,<-hx];congr 1
     by_cases hf:Um m vars rs ((List.range N).take (i+1)) (r++[x])=true
     .rw[if_pos hf];exact List.filter_cons_of_pos hf
     rw[if_neg hf];exact List.filter_cons_of_neg hf
    have ay:Ext w7 w7.drew:=(Ext.refl w7).drew;have a5:=C.trans ay;have ai:=Rd.ext cm a5;have au:=Rd.ext cn a5;have av:=cp.ext a5;have xt:∀ {W:World},GrN (λk=>w7.drew.heap.size<=k) w7.drew W->Ext w7.drew W:=λh=>h.old (Ext.refl _) λk J=>J;refine ρ ?_;refine drM (λk=>w7.drew.heap.size<=k) ?_;refine Ux (fuel':=5) [(0,1),(0,2),(0,3),(0,4),(0,6),(0,7),(0,8),(0,9)] #[false,true,true,true,true,false,true,true,true,true,false,false,false] kr kr rfl ?_;refine ρn ?_;refine nix k av lk ?_;refine ρn ?_;refine nld (λw' hg=>(av.ext (xt hg)).cell c8) ?_;refine ρn ?_;refine Yr 3 j au om ?_;refine ρn ?_;refine Xl (cs:=x.cells) (λw' hg q u hu=>RdR.cell (Rd.ext au (xt hg)) lj (by rw[<-hx];exact hu)) ?_;refine ρn ?_;refine Uz ?_;refine mcut 2 (lst 13 11) (fun (q:Value×Nat)=>[(46,q.1),(51,.slice (some ⟨q.2,0,none⟩) 1 1),(2,.pointer (some ⟨b,0,none⟩)),(5,.slice LA N lc),(6,.slice OA (Xv m vars rs (List.range N) i).length oc),(7,.int .i64 (i:Int)),(8,nv),(9,.slice XA (Xc m vars rs i).length xc),(10,.int .i64 (k:Int)),(11,.int .i64 (j:Int))])
     (λq W=>Ext w7.drew W/\W.ownsRow w7.drew.heap.size 118 3 q.1 r.length (Jh r)/\Blk W q.2 118 x.cells) ?_ ?_
    .rintro⟨a7,aa⟩ W ⟨bf,b8,c2⟩;simp only at b8 c2;refine Ze 11 kr rfl rfl ?_;refine apb (m':=1) (news:=x.cells) EV b8 (c2.rd (n:=1) rfl) (V.one _) (by unfold maxLen;omega) om bf.size ?_;intro cy W2 a9 b9 cd;obtain⟨_,_,rfl,_,bs⟩:=Jy b8;have O:GrN (λk=>w7.drew.heap.size<=k) W W2:=GrN.by b9 λk J=>(bs k J).1
     have bj:=O.old bf λk J=>J;refine Jc (Xz O ?_);refine Ux (fuel':=0) [(0,12)] (lst 13 13) kr kr rfl ?_;refine ρn ?_;refine Uz ?_;refine Jwb kr ?_;have cr:Jh r++x.cells=Jh (r++[x]):=by rw[rowC_app',rowC_one'']
     have c7:r.length+1=(r++[x]).length:=by simp
     rw[cr,c7]at a9;obtain⟨bd,bc,rfl,bw,br⟩:=Jy a9;have c5:RowX W2 (own w6.heap.size nv) (.slice bd (r++[x]).length bc) (r++[x]):=by
      refine⟨bd,bc,rfl,bw,by simp;omega,Rd.own a9,λ_ ad e J=>?_⟩;have h1:=(br ad.block (by rw[e];simp[Value.ownBlock])).1;have h2:=a5.size;rcases J with J|J
      .omega
      have:=(a1.lt _ J).2;have:=ay.size;omega
     have ax:Ext W2 W2.drew:=(Ext.refl W2).drew;have am:=(ay.trans bj).trans ax;have an:=C.trans am;have ap:=G.trans (a6.trans an);have b2:=ao.trans (a6.trans an);have cb:IntsV W2.drew (.slice LA (i+1) lc) (nz ((List.range N).take (i+1))):=by
      have hl:((List.range N).take (i+1)).length=i+1:=by rw[List.length_take,List.length_range];omega
      refine⟨LA,lc,by rw[Je,hl],by rw[Je,hl];omega,by rw[Je,hl];omega,?_⟩;have:=(bb.ext b2).take (m:=i+1) om;rw[Je,hl];have e:(Jp (nz (List.range N))).take ((i+1)*1)=Jp (nz ((List.range N).take (i+1))):=by rw[Nat.mul_one];simp only[Jp,nz,List.map_take]
      rw[e]at this;exact this
     refine ρ ?_;refine drN (λ_=>False) 10 [(0,0),(0,1),(0,2),(0,3),(0,4),(0,5),(1,6)] kr ?_;refine ρn ?_;refine Xl (cs:=Vz n f pA pn pc VA vc RA rc m) (λw' hg j u hu=>((hB.ext ap).ext hg.toExt).at hu) ?_;refine ρn ?_;refine nslh (A:=LA) (m:=N) (c:=lc) (i+1) ?_ om;refine ρn ?_;refine nop ?_;refine cl (Qjl hP (hM.ext (a8.trans ap)) cb (c5.v.ext ax) (λu hu=>by have:=List.mem_range.1 (List.mem_of_mem_take hu);omega) (by simp;omega)) ?_;rintro _ W3 ⟨rfl,ae⟩;refine ρ ?_;refine Jm (GrN.ext ae) ?_;refine ρn ?_;have a3:=am.trans ae;have aq:=a1.ext a3;refine ρ ?_;refine ci (λhf=>?_) (λhf=>?_)
     .refine ρ ?_;refine bsl (λw=>Jdb (.slice bd (r++[x]).length bc) w _ _ _ rfl) ?_;intro W4 dd ac cx c4;refine ρ ?_;refine appR (a:=w6) (C.trans (a3.trans ac)) ER (aq.ext ac) c4 ((((c5.ext ax).ext ae)).ext ac) (by have:=Zv j om;omega) ?_;intro c6 W5 bo bg _;refine ρ ?_;refine Jf (j+1) c6 sO ⟨lj,bg,?_⟩ om;rw[bn,if_pos hf,<-List.append_assoc];exact bo
     refine ρ ?_;refine Jf (j+1) nv sO ⟨lj,C.trans a3,?_⟩ om;rw[bn,if_neg (by rw[hf];simp),List.append_nil];exact aq
    intro rest;have ab:∀ {W:World} {g:Nat},Blk W g 118 ([]:List Value)->w7.drew.heap.size<=g->W.ownsRow w7.drew.heap.size 118 3 (.slice (some ⟨g,0,none⟩) 0 0) 0 []:=λhB hb=>hB.own (n:=0) hb rfl (Nat.zero_le _);refine Jjv 0 10 kr rfl rfl rfl ?_ ?_
    .refine ρ ?_;refine bsl Kt ?_;intro W1 b0 o a2 aj;refine Jc (Xz (GrN.ext o) ?_);refine Jjv 5 10 kr rfl rfl rfl ?_ ?_
     .refine apb (m':=r.length) (news:=Jh r) EV (ab aj a2) (ai.ext o) (Jxb r) (by unfold maxLen;omega) om o.size ?_;intro a7 W2 a9 b9 cd;rw[Nat.zero_add,List.nil_append]at a9;have O:GrN (λk=>w7.drew.heap.size<=k) W1 W2:=GrN.by b9 λk J=>by simp[Value.ownBlock]at J;omega
      refine Jc (Xz O ?_);refine Ze 10 kr rfl rfl ?_;refine bsl (Jcz x) ?_;intro W3 aa aw ar Z;refine Jc (Xz (GrN.ext aw) ?_);refine Gx (listed':=lst 13 11) kr ?_;exact rest (a7,aa) _ _ ⟨(O.old o λk J=>J).trans aw,Jk a9 aw,Z⟩ sB
     refine ρ ?_;refine bsl (Jcz x) ?_;intro W2 aa D ar Z;refine Jc (Xz (GrN.ext D) ?_);refine Ze 5 kr rfl rfl ?_;refine apb (m':=r.length) (news:=Jh r) EV (ab (aj.ext D) a2) (ai.ext (o.trans D)) (Jxb r) (by unfold maxLen;omega) om (o.trans D).size ?_;intro a7 W3 af ah cc;rw[Nat.zero_add,List.nil_append]at af;have O:GrN (λk=>w7.drew.heap.size<=k) W2 W3:=GrN.by ah λk J=>by simp[Value.ownBlock]at J;omega
     refine Jc (Xz O ?_);refine Gx (listed':=lst 13 11) kr ?_;refine rest (a7,aa) _ _ ⟨O.old (o.trans D) λk J=>J,af,Z.grown ah ?_⟩ sB;have:=aj.lt;simp[Value.ownBlock];omega
    refine ρ ?_;refine bsl (Jcz x) ?_;intro W1 aa o ar Z;refine Jc (Xz (GrN.ext o) ?_);refine Ze 0 kr rfl rfl ?_;refine bsl Kt ?_;intro W2 b0 D a2 aj;refine Jc (Xz (GrN.ext D) ?_);refine Ze 5 kr rfl rfl ?_;have bz:=nL o.size a2;refine apb (m':=r.length) (news:=Jh r) EV (ab aj bz) (ai.ext (o.trans D)) (Jxb r) (by unfold maxLen;omega) om (o.trans D).size ?_;intro a7 W3 af ah cc;rw[Nat.zero_add,List.nil_append]at af;have O:GrN (λk=>w7.drew.heap.size<=k) W2 W3:=GrN.by ah λk J=>by simp[Value.ownBlock]at J;omega
    refine Jc (Xz O ?_);refine Gx (listed':=lst 13 11) kr ?_;refine rest (a7,aa) _ _ ⟨O.old (o.trans D) λk J=>J,af,(Z.ext D).grown ah ?_⟩ sB;have:=Z.lt;simp[Value.ownBlock];omega
   have cj:j=(Xc m vars rs i).length:=by have:=oF h;omega
   subst cj;clear h;refine ρ ?_;refine Jf (k+1) nv sO ⟨lk,C,?_⟩ om;rw[Qc [] lk,List.flatMap_append,<-hr];simpa using a1
  have ch:k=(Xv m vars rs (List.range N) i).length:=by have:=oF h;omega
  subst ch;clear h;rw[List.take_length]at a1;refine ρ ?_;refine Jf (i+1) nv sO ⟨li,(b1.trans a6).trans C,?_⟩ om;have e:Xv m vars rs (List.range N) (i+1)=(Xv m vars rs (List.range N) i).flatMap λr=>Yn m vars rs (List.range N) i r (Xc m vars rs i).length:=by
   rw[Xv];unfold Jjk Yn;rw[Jjn li,List.take_length]
  rw[e]at ag ⊢;exact a1.rows om
 have ck:i=N:=by have:=oF h;omega
 subst ck;clear h;have bq:=Jng hP (nR i);refine ρ ?_;refine ki 68 (λh=>?_) (λh=>?_)
 .have h0:i=0:=by have:=Xa h;omega
  clear h;refine ρ ?_;refine lds (cs:=Vz n f pA pn pc VA vc RA rc m) (λj u hu=>c3.at hu) ?_;refine ρ ?_;refine bsl Kt ?_;intro w6 b6 a4 d8 db;refine ρ ?_;refine cl (Qjl (vl:=[]) (r:=[]) hP (hM.ext (a8.trans (G.trans a4))) ⟨none,0,rfl,Nat.le_refl _,Nat.zero_le _,Rd.nil⟩ ⟨some ⟨b6,0,none⟩,0,rfl,Nat.le_refl _,Nat.zero_le _,Rd.nil⟩ (λu hu=>by cases hu) rfl) ?_;rintro _ w7 ⟨rfl,C⟩;refine ρ ?_;subst h0;refine ci (λhf=>?_) (λhf=>?_)
  .have a2:Um m vars rs [] []=false:=by cases hh:Um m vars rs [] []<;>first|rfl|(rw[hh]at hf;cases hf)
   refine ρ ?_;refine Jj ⟨?_,(a8.trans G).trans (a4.trans C)⟩;unfold Xs;rw[if_pos rfl,a2];exact⟨[],none,0,rfl,rfl,Nat.le_refl _,Nat.zero_le _,Rd.nil,λp hp=>by cases hp⟩
  have a2:Um m vars rs [] []=true:=by cases hh:Um m vars rs [] []<;>first|rfl|(rw[hh]at hf;cases hf)
  refine ρ ?_;refine Jj ⟨?_,(a8.trans G).trans (a4.trans C)⟩;unfold Xs;rw[if_pos rfl,if_pos a2];exact b7.ext (a4.trans C)
 have h0:i≠0:=λe=>by have:=Zq h;omega
 clear h;refine ρ ?_;refine Jj ⟨?_,a8.trans G⟩;unfold Xs;rw[if_neg h0];exact b7
end
open Go.RowKit Pl Go.Wk
variable {ds:List Bool}{F N m:Nat}{dv:Value}
theorem Xvx(hN:N<=32): bk (2^N-1) 32=List.range N:=by
 have key:∀ k,bk (2^N-1) k=List.range (min k N):=by
  intro k;induction k with
  | zero=>rfl
  | succ k ih=>
   grind [Gc,Nat.testBit_two_pow_sub_one,Nat.min_eq_left,List.range_succ,Nat.min_eq_right]
 grind
theorem Xjf{vars:Nat->List Nat}{rs:Nat->List Row}(hP:RefP N m vars rs){z:Row}(hz:z∈Xs m vars rs N): z.length=N:=((Jlf hP.asc hP.len hP.lt hP.cov z).1 hz).1
section
variable {pA VA RA:Option Addr} {pn pc vc rc N m:Nat} {f:Int} {vars:Nat->List Nat} {rs:Nat->List Row} {w:World}
theorem Qmv(hP:RefP N m vars rs)(hM:RInM w VA RA m vars rs)(hN:N<=31):
  Ret Tryz.prog 89 [.agg (Vz (N:Int) f pA pn pc VA vc RA rc m).toArray] w λu w'=>RowsV w' u (Xs m vars rs N)/\Ext w w':=by
 refine Jz Tryz.func89 Tryz.ntmps89 rfl kr rfl ?_;refine ρ ?_;refine bx (cs:=Vz (N:Int) f pA pn pc VA vc RA rc m) ?_;intro O b o Z G;refine ρ ?_;refine lds (cs:=Vz (N:Int) f pA pn pc VA vc RA rc m) (λj u D=>G.at D) ?_;refine ρ ?_;refine ld (G.at (i:=0) rfl) ?_;refine ρ ?_;refine Go.Wk.kv 6 (congrArg (λz=>Value.int .u64 z) (Gm (z:=(N:Int)) om)) ?_;refine Jst (v:=N) om ?_;refine ρ ?_;have h1:1<=2^N:=Nat.pow_pos (by decide);have h2:=Kd (show N<32 by omega);have e:IntKind.u32.wrap (((2^N:Nat):Int)-1)=((2^N-1:Nat):Int):=by rw[IntKind.wrap_u32];omega
 refine Go.Wk.kv 8 (congrArg (λz=>Value.int .u32 z) e) ?_;refine cl (Qmw hP (hM.ext o) om (Xvx om)) ?_;rintro u J ⟨D,C⟩;refine ρ ?_;exact Jj ⟨D,o.trans C⟩
theorem Qmz(hP:RefP N m vars rs)(hM:RInM w VA RA m vars rs)(hN:N<=31)(hF:F<=N)(hd:BoolsV w dv ds):
  Ret Tryz.prog 50 [.agg (Vz (N:Int) (F:Int) pA pn pc VA vc RA rc m).toArray,dv] w λu w'=>RowsV w' u (Jzq m vars rs N F ds)/\Ext w w'/\Fresh w u:=by
 have an:(Xs m vars rs N).length<=5000:=nL (Qzd hP.asc hP.len hP.cov) hP.cnt;refine Jz Tryz.func50 Tryz.ntmps50 rfl kr rfl ?_;refine ρ ?_;refine bx (cs:=Vz (N:Int) (F:Int) pA pn pc VA vc RA rc m) ?_;intro w1 b G hb hB;refine ρ ?_;refine lds (cs:=Vz (N:Int) (F:Int) pA pn pc VA vc RA rc m) (λj u hu=>hB.at hu) ?_;refine ρ ?_;refine cl (Qmv hP (hM.ext G) hN) ?_;rintro jv w2 ⟨hj,a3⟩;obtain⟨JA,jc,rfl,ao,am,ai,ac,ab⟩:=hj.parts;refine ρ ?_;refine Jt (fun (i:Nat) (Z:Value)=>[(1,dv),(2,.pointer (some ⟨b,0,none⟩)),(5,Z),(6,.slice JA (Xs m vars rs N).length jc),(7,.int .i64 (i:Int))])
  (λi Z w'=>i<=(Xs m vars rs N).length/\Ext w2 w'/\Fresh w2 Z/\RowsV w' Z ((((Xs m vars rs N).take i).map (List.take F)).foldl (Zd ds) [])/\((((Xs m vars rs N).take i).map (List.take F)).foldl (Zd ds) []).length<=i) (λi _=>(Xs m vars rs N).length-i) 0 (.slice none 0 0) sB
  ⟨Nat.zero_le _,Ext.refl _,(λad n c e=>by cases e),⟨[],none,0,rfl,rfl,Nat.le_refl _,Nat.zero_le _,Rd.nil,λp hp=>by cases hp⟩,Nat.le_refl _⟩ ?_
 rintro i Z w3 ⟨hi,C,J,O,ak⟩;have D:=a3.trans C;refine ρ ?_;refine ci (λh=>?_) (λh=>?_)
 .have li:i<(Xs m vars rs N).length:=by have:=oT h;omega
  clear h;obtain⟨xv,a7,a1⟩:=ab i li;obtain⟨z,hz⟩:∃ z,z=(Xs m vars rs N).getD i []:=⟨_,rfl⟩;have aj:z.length=N:=by grind [Xjf,getD_mem']
  rw[<-hz]at a1;obtain⟨XA,xc,rfl,ah,ag,aa⟩:=id a1;have o:Ext w3 w3.drew:=(Ext.refl w3).drew;have a4:=Jzc (ds:=ds) (((Xs m vars rs N).take i).map (List.take F)) (done:=[]) (l:=[]) ⟨List.Pairwise.nil,λx=>Iff.rfl⟩;refine ρ ?_;refine drN (λ_=>False) 10 [(0,0),(0,1),(0,2),(0,3),(0,4),(0,5),(0,6),(0,7),(0,8),(1,9),(0,10)] kr ?_;have a5:=ac.ext (C.trans o);have ae:=(hB.ext D).ext o;refine ρn ?_;refine nix i a5 li ?_;refine ρn ?_;refine nld (λw' hg=>(a5.ext hg.toExt).cell a7) ?_;refine ρn ?_;refine nld (Jl (ae.at (i:=1) rfl) (λe=>e)) ?_;refine ρn ?_;refine nslh (A:=XA) (m:=z.length) (c:=xc) F ?_ om;refine ρn ?_;refine nop ?_;have a8:RowV w3.drew (.slice XA F xc) (z.take F):=by
   have hl:(z.take F).length=F:=by rw[List.length_take];omega
   refine⟨XA,xc,by rw[hl],by rw[hl];omega,by rw[hl];omega,?_⟩;have:=(Rd.ext aa (C.trans o)).take (m:=F) om;rw[Jgj z om]at this;grind
  refine cl (Qjd (O.ext o) a8 (hd.ext ((G.trans D).trans o)) a4.1 om) ?_;rintro a6 w4 ⟨h4,a2,af⟩;refine ρ ?_;refine Jm (GrN.ext a2) ?_;refine ρn ?_;have e:(((Xs m vars rs N).take (i+1)).map (List.take F)).foldl (Zd ds) []=Zd ds ((((Xs m vars rs N).take i).map (List.take F)).foldl (Zd ds) []) (z.take F):=by grind [Qc]
  refine ρ ?_;refine Jf (i+1) a6 sO ⟨li,(C.trans o).trans a2,?_,by rw[e];exact h4,?_⟩ om
  .rcases af with h'|h'
   .rw[h'];exact J
   exactλad n c e=>nL (C.trans o).size (h' ad n c e)
  grind [Qnl,Xs,List.take,Zd]
 have a9:i=(Xs m vars rs N).length:=by have:=oF h;omega
 rw[a9,List.take_length]at O;refine ρ ?_;exact Jj ⟨O,G.trans D,λad n c e=>nL (G.trans a3).size (J ad n c e)⟩
theorem Qmx(hP:RefP N m vars rs)(hM:RInM w VA RA m vars rs)(hN:N<=31)(hF:F<=N)(hd:BoolsV w dv ds):
  Ret Tryz.prog 50 [.agg (Vz (N:Int) (F:Int) pA pn pc VA vc RA rc m).toArray,dv] w λu w'=>RowsV w' u (Jzq m vars rs N F ds)/\Ext w w':=(Qmz hP hM hN hF hd).mono λu w' h=>⟨h.1,h.2.1⟩
end
open Go.RowKit Pl Go.Wk
def IntssV(w:World)(v:Value)(zss:List (List Int)): Prop:=∃ A c cs,v=.slice A zss.length c/\zss.length<=c/\zss.length<=1100000/\Rd w 1 A zss.length cs/\∀ i,i<zss.length->∃ u,cs[i]?=some u/\IntsV w u (zss.getD i [])
def RowssV(w:World)(v:Value)(rss:List (List Row)): Prop:=∃ A c cs,v=.slice A rss.length c/\rss.length<=c/\rss.length<=1100000/\Rd w 1 A rss.length cs/\∀ i,i<rss.length->∃ u,cs[i]?=some u/\RowsV w u (rss.getD i [])
theorem IntssV.ext{w w':World}{v:Value}{zss:List (List Int)}(h:IntssV w v zss)(hx:Ext w w'): IntssV w' v zss:=by
 obtain⟨A,c,cs,O,J,G,D,C⟩:=h;exact⟨A,c,cs,O,J,G,D.ext hx,λi hi=>by obtain⟨u,e,o⟩:=C i hi;exact⟨u,e,o.ext hx⟩⟩
theorem RowssV.ext{w w':World}{v:Value}{zss:List (List Row)}(h:RowssV w v zss)(hx:Ext w w'): RowssV w' v zss:=by
 obtain⟨A,c,cs,O,J,G,D,C⟩:=h;exact⟨A,c,cs,O,J,G,D.ext hx,λi hi=>by obtain⟨u,e,o⟩:=C i hi;exact⟨u,e,o.ext hx⟩⟩
structure Cse where
 n: Int
 f:Int
 ds:List Bool
 pm:List Int
 vs:List (List Int)
 rss:List (List Row)
def CseV(w:World)(cs:List Value)(c:Cse): Prop:=∃ dA dc pA pc vA vc rA rc,cs=[.int .i64 c.n,.int .i64 c.f,.slice dA c.ds.length dc,.slice pA c.pm.length pc,.slice vA c.vs.length vc,.slice rA c.rss.length rc] /\
 BoolsV w (.slice dA c.ds.length dc) c.ds/\IntsV w (.slice pA c.pm.length pc) c.pm/\IntssV w (.slice vA c.vs.length vc) c.vs/\RowssV w (.slice rA c.rss.length rc) c.rss/\(-9223372036854775808<=c.n/\c.n<=9223372036854775807)/\(-9223372036854775808<=c.f/\c.f<=9223372036854775807)
theorem CseV.ext{w w':World}{cs:List Value}{c:Cse}(h:CseV w cs c)(hx:Ext w w'): CseV w' cs c:=by
 obtain⟨dA,dc,pA,pc,o,vc,u,rc,Z,O,J,G,D,C⟩:=h;exact⟨dA,dc,pA,pc,o,vc,u,rc,Z,O.ext hx,J.ext hx,G.ext hx,D.ext hx,C⟩
structure FewP(c:Cse): Prop where
 row:∀ i,i<c.rss.length->(c.rss.getD i []).length<=10
 cnt:(Jd c.rss.length λi=>max 1 (c.rss.getD i []).length)<=5000
 n6:c.n<=6∨32<c.n
 v5:c.vs.length<=5
 r5:c.rss.length<=5
structure FewS(c:Cse): Prop where
 row:∀ i,i<c.rss.length->(c.rss.getD i []).length<=10
 cnt:(Jd c.rss.length λi=>max 1 (c.rss.getD i []).length)<=5000
 n6:c.n<=6
 v5:c.vs.length<=5
 r5:c.rss.length<=5
 v8:∀ i,i<c.vs.length->(c.vs.getD i []).length<=8
 d10:c.ds.length<=10
 p10:c.pm.length<=10
theorem Xxm{w:World}{cs:List Value}{c:Cse}(h:CseV w cs c): Ret Tryz.prog 24 [.agg cs.toArray] w λu w'=>Ext w w'/\∃ b:Bool,u=.bool b/\(b=true->FewP c)/\(FewS c->b=true):=by
 obtain⟨dA,dc,pA,pc,vA,vc,rA,rc,rfl,hD,hP,hV,hR,hn,hf⟩:=h;obtain⟨_,_,ad,e1,_,_,a1,ab⟩:=id hR;injection e1 with e1 e2 e3
 subst e1;subst e3;obtain⟨_,_,ac,e1,_,_,a6,aa⟩:=id hV;injection e1 with e1 e2 e3
 subst e1;subst e3;refine Jz Tryz.func24 Tryz.ntmps24 rfl kr rfl ?_;refine ρ ?_;refine bx ?_;intro w1 b C hb G;refine ρ ?_;refine Jt (fun (i:Nat) (o:Nat)=>[(1,.pointer (some ⟨b,0,none⟩)),(2,.bool false),(3,.int .i64 (o:Int)),(4,.int .i64 (i:Int))])
  (λi o w'=>i<=6/\i<=c.rss.length/\w'=w1/\o=(Jd i λi=>max 1 (c.rss.getD i []).length)/\o<=10^i/\∀ j,j<i->(c.rss.getD j []).length<=10) (λi _=>6-i) 0 1 sB ⟨om,Nat.zero_le _,rfl,rfl,by simp,λj hj=>om⟩ ?_
 rintro i o w2 ⟨h6,hi,rfl,O,a5,a2⟩;refine ρ ?_;refine ld (G.at (i:=5) rfl) ?_;refine ρ ?_;refine Vn (fun (t:Bool)=>[(14,.bool t),(1,.pointer (some ⟨b,0,none⟩)),(2,.bool false),(3,.int .i64 (o:Int)),(4,.int .i64 (i:Int))]) (λt w3=>w3=w2/\(t=true↔i<c.rss.length/\i<6)) ?_ ?_
 .refine ki 11 (λh=>?_) (λh=>?_)
  .have:=oT h;refine ρ ?_;refine Jb (decide ((i:Int)<6)) sB ⟨rfl,?_⟩;rw[decide_eq_true_eq];omega
  have:=oF h;refine ρ ?_;refine Jb false sB ⟨rfl,?_⟩;grind
 rintro t w3 ⟨rfl,ht⟩;refine ρ ?_;refine ci (λh=>?_) (λh=>?_)
 .obtain⟨li,l6⟩:=ht.1 h;clear h;obtain⟨ru,a4,a9⟩:=ab i li;obtain⟨TA,tc,rfl,_,_,_⟩:=id (a9.ext C).parts;refine ρ ?_;refine ld (G.at (i:=5) rfl) ?_;refine ρ ?_;refine ix i (a1.ext C) li ?_;refine ρ ?_;refine ld ((a1.ext C).cell a4) ?_;refine ρ ?_;refine ci (λh=>?_) (λh=>?_)
  .refine ρ ?_;exact Jj ⟨C,false,rfl,λh=>(by cases h),λD=>by have h1:=D.row i li;grind⟩
  have ae:(c.rss.getD i []).length<=10:=by have:=oF h;omega
  clear h;refine ρ ?_;refine ld (G.at (i:=5) rfl) ?_;refine ρ ?_;refine ix i (a1.ext C) li ?_;refine ρ ?_;refine ld ((a1.ext C).cell a4) ?_;refine ρ ?_;have af:(if(1:Int)<((c.rss.getD i []).length:Int) then((c.rss.getD i []).length:Int) else 1)=((max 1 (c.rss.getD i []).length:Nat):Int):=by
   split<;>omega
  have a3:o<=100000:=nL a5 (Nat.pow_le_pow_right (by decide) (show i<=5 by omega));have ag:o*max 1 (c.rss.getD i []).length<=o*10:=Nat.mul_le_mul_left _ om;have e:IntKind.i64.wrap ((o:Int)*(if(1:Int)<((c.rss.getD i []).length:Int) then((c.rss.getD i []).length:Int) else 1))=((o*max 1 (c.rss.getD i []).length:Nat):Int):=by grind [Int.natCast_mul,Jqf]
  rw[e];refine Jf (i+1) (o*max 1 (c.rss.getD i []).length) sO ⟨om,om,rfl,?_,?_,λj hj=>?_⟩ om;repeat grind [Jd,Nat.pow_succ,Nat.mul_le_mul]
 have ah:¬ (i<c.rss.length/\i<6):=by grind
 clear h ht;refine ρ ?_;refine ci (λh=>?_) (λh=>?_)
 .refine ρ ?_;exact Jj ⟨C,false,rfl,λh=>(by cases h),λD=>by
   have h1:=D.cnt;have h2:=D.r5;grind⟩
 have a3:o<=5000:=by grind
 clear h;refine ρ ?_;refine Qf (fun (k:Nat)=>[(1,.pointer (some ⟨b,0,none⟩)),(2,.bool false),(5,.int .i64 (k:Int))])
  (λk w'=>k<=6/\k<=c.vs.length/\w'=w3) (λk=>6-k) 0 sB ⟨om,Nat.zero_le _,rfl⟩ ?_
 rintro k w4 ⟨k6,hk,rfl⟩;refine ρ ?_;refine ld (G.at (i:=4) rfl) ?_;refine ρ ?_;refine Vn (fun (t:Bool)=>[(43,.bool t),(1,.pointer (some ⟨b,0,none⟩)),(2,.bool false),(5,.int .i64 (k:Int))]) (λt w5=>w5=w4/\(t=true->k<c.vs.length/\k<6)) ?_ ?_
 .refine ki 40 (λh=>?_) (λh=>?_)
  .have:=oT h;refine ρ ?_;refine Jb (decide ((k:Int)<6)) sB ⟨rfl,?_⟩;rw[decide_eq_true_eq];omega
  refine ρ ?_;exact Jb false sB ⟨rfl,λh=>by cases h⟩
 rintro t w5 ⟨rfl,ht⟩;refine ρ ?_;refine ci (λh=>?_) (λh=>?_)
 .obtain⟨lk,l6⟩:=ht h;clear h;obtain⟨vu,a7,a8⟩:=aa k lk;obtain⟨QA,qc,rfl,_⟩:=id a8;refine ρ ?_;refine ld (G.at (i:=4) rfl) ?_;refine ρ ?_;refine ix k (a6.ext C) lk ?_;refine ρ ?_;refine ld ((a6.ext C).cell a7) ?_;refine ρ ?_;refine ci (λh=>?_) (λh=>?_)
  .refine ρ ?_;exact Jj ⟨C,false,rfl,λh=>(by cases h),λD=>by have h1:=D.v8 k lk;grind⟩
  refine ρ ?_;exact Qw (k+1) sO ⟨om,om,rfl⟩ om
 clear h ht;refine ρ ?_;refine ld (G.at (i:=0) rfl) ?_;refine ρ ?_;refine ki 56 (λh=>?_) (λh=>?_)
 .have hN:c.n<=6:=oT h;clear h;refine ρ ?_;refine ld (G.at (i:=4) rfl) ?_;refine ρ ?_;refine ki 67 (λh4=>?_) (λh4=>?_)
  .refine ρ ?_;refine ld (G.at (i:=5) rfl) ?_;refine ρ ?_;refine ki 73 (λh5=>?_) (λh5=>?_)
   .have r5:c.rss.length<=5:=by have:=oT h5;omega
    have v5:c.vs.length<=5:=by grind
    have ir:i=c.rss.length:=om
    have Z:FewP c:=⟨λj hj=>a2 j om,by rw[<-ir,<-O];exact a3,.inl hN,v5,r5⟩;refine ρ ?_;refine ld (G.at (i:=2) rfl) ?_;refine ρ ?_;refine ki 79 (λh6=>?_) (λh6=>?_)
    .refine ρ ?_;refine ld (G.at (i:=3) rfl) ?_;refine ρ ?_;exact Jj ⟨C,decide ((c.pm.length:Int)<=10),rfl,λ_=>Z,λD=>by have:=D.p10;grind⟩
    refine ρ ?_;exact Jj ⟨C,false,rfl,λh=>(by cases h),λD=>by have h1:=D.d10;grind⟩
   refine ρ ?_;exact Jj ⟨C,false,rfl,λh=>(by cases h),λD=>by have h1:=D.r5;grind⟩
  refine ρ ?_;exact Jj ⟨C,false,rfl,λh=>(by cases h),λD=>by have h1:=D.v5;grind⟩
 have J:¬ c.n<=6:=oF h;clear h;refine ρ ?_;refine ld (G.at (i:=0) rfl) ?_;refine ρ ?_;refine ki 61 (λh=>?_) (λh=>?_)
 .have hN:32<c.n:=oT h;clear h;refine ρ ?_;refine ld (G.at (i:=4) rfl) ?_;refine ρ ?_;refine ki 67 (λh4=>?_) (λh4=>?_)
  .refine ρ ?_;refine ld (G.at (i:=5) rfl) ?_;refine ρ ?_;refine ki 73 (λh5=>?_) (λh5=>?_)
   .have r5:c.rss.length<=5:=by have:=oT h5;omega
    have v5:c.vs.length<=5:=by grind
    have ir:i=c.rss.length:=om
    have Z:FewP c:=⟨λj hj=>a2 j om,by rw[<-ir,<-O];exact a3,.inr hN,v5,r5⟩;refine ρ ?_;refine ld (G.at (i:=2) rfl) ?_;refine ρ ?_;refine ki 79 (λh6=>?_) (λh6=>?_)
    .refine ρ ?_;refine ld (G.at (i:=3) rfl) ?_;refine ρ ?_;exact Jj ⟨C,decide ((c.pm.length:Int)<=10),rfl,λ_=>Z,λD=>absurd D.n6 J⟩
    refine ρ ?_;exact Jj ⟨C,false,rfl,λh=>(by cases h),λD=>absurd D.n6 J⟩
   refine ρ ?_;exact Jj ⟨C,false,rfl,λh=>(by cases h),λD=>absurd D.n6 J⟩
  refine ρ ?_;exact Jj ⟨C,false,rfl,λh=>(by cases h),λD=>absurd D.n6 J⟩
 refine ρ ?_;exact Jj ⟨C,false,rfl,λh=>(by cases h),λD=>absurd D.n6 J⟩
end Go.Proofs.YtbcdghbonlifdaaGreatDoor
namespace Go.Wk
open Go.RowKit
variable {b bytes d n t ty:Nat}
section
variable {α:Type} {E:TypeId} {sz base:Nat} {Φ:World->List Value->α->Prop} {N0:Nat->Prop} {w w':World} {v:Value} {ls:List α}
def OwnM(E:TypeId)(sz:Nat)(Φ:World->List Value->α->Prop)(N0:Nat->Prop)(w:World)(base:Nat)(v:Value)(ls:List α): Prop :=
 ∃ ps:List (List Value×α),ls=ps.map (·.2)/\w.ownsRow base E sz v ps.length (Ju ps)/\∀ p∈ps,p.1.length=sz/\Off (λk=>N0 k∨v.ownBlock=some k) w (λu=>Φ u p.1 p.2)
theorem OwnM.nil(w:World)(base:Nat): OwnM E sz Φ N0 w base (.slice none 0 0) []:=⟨[],rfl,Zj _ _ _ _,λp hp=>by cases hp⟩
theorem OwnM.gr(h:OwnM E sz Φ N0 w base v ls)(hg:GrN N0 w w')(hN:∀ g,v.ownBlock=some g->¬ N0 g): OwnM E sz Φ N0 w' base v ls:=by
 obtain⟨ps,D,C,o⟩:=h;exact⟨ps,D,Js C hg hN,λp hp=>⟨(o p hp).1,(o p hp).2.gr (hg.mono λk _ u=>.inl u)⟩⟩
theorem OwnM.ext(h:OwnM E sz Φ N0 w base v ls)(hx:Ext w w'): OwnM E sz Φ N0 w' base v ls:=by
 obtain⟨ps,C,u,o⟩:=h;exact⟨ps,C,Jk u hx,λp hp=>⟨(o p hp).1,(o p hp).2.ext hx⟩⟩
theorem OwnM.form(h:OwnM E sz Φ N0 w base v ls): ∃ A c,v=.slice A ls.length c/\ls.length<=c/\∀ g,v.ownBlock=some g->base<=g/\g<w.heap.size:=by
 obtain⟨ps,rfl,u,o⟩:=h;grind [Jy]
theorem OwnM.gv(h:OwnM E sz Φ N0 w base v ls)(hm:ls.length<=1100000): GV sz Φ w v ls:=by
 obtain⟨ps,rfl,u,o⟩:=h;obtain⟨A,c,rfl,C,D⟩:=Jy u;exact⟨ps,A,c,rfl,rfl,C,by simpa using hm,Rd.own u,λp hp=>⟨(o p hp).1,(o p hp).2.here⟩⟩
theorem apM{P:Program}{al:AL}{Q:Exit->Act->World->Prop}{ops:Array Oper}{rest:List Oper}{pos:String}{aft:Array Edge}{z:Value}(hE:ElT P t E sz bytes z){x y:Operand}{cs:List Value}{a:α}(ho:OwnM E sz Φ N0 w base v ls)(hb:Blk w b E cs)(hl:cs.length=sz)(h1:∀ u∈cs,u.oneCell'=true)(hΦ:Off (λk=>N0 k∨v.ownBlock=some k) w (λu=>Φ u cs a))(hm:ls.length<=1100000)(hby:bytes<=128)(hbase:base<=w.heap.size)(kk:∀ v' w',OwnM E sz Φ N0 w' base v' (ls++[a])->w.grownBy w' v.ownBlock->(∀ g,v'.ownBlock=some g->v.ownBlock=some g∨w.heap.size<=g)->WL P n ops Q rest ((d,v')::al) w')(hx:ev al x=some v:=by rfl)(hy:ev al y=some (.slice (some ⟨b,0,none⟩) 1 1):=by rfl)(hd:Nat.blt d n=true:=by rfl):
  WL P n ops Q (⟨some d,.call { callee:=.builtin .append,args:=#[x,y],argTypes:=#[t,t] },ty,pos,aft,none⟩::rest) al w:=by
 obtain⟨ps,e,hr,hp⟩:=ho;have a1:ps.length<=1100000:=by rw[e,List.length_map]at hm;exact hm
 have a2:(ps.length+1)*bytes<=1100001*128:=Nat.mul_le_mul om hby;refine apb hE hr (hb.rd (n:=1) om) h1 (by unfold maxLen;omega) om hbase ?_ hx hy hd;intro v' w' Z J G;have C:∀ {Ψ:World->Prop},Off (λk=>N0 k∨v.ownBlock=some k) w Ψ->Off (λk=>N0 k∨v'.ownBlock=some k) w' Ψ:=fun {Ψ} h W hW=>by
  refine h W ?_;have h1:GrN (λk=>(N0 k∨v.ownBlock=some k)∨w.heap.size<=k) w W:=(GrN.by J λk D=>.inl (.inr D)).trans (hW.mono λk _ D=>by
   rcases D with D|D
   .exact .inl (.inl D)
   rcases G k D with o|o
   .exact .inl (.inr o)
   exact .inr o)
  exact h1.mono λk D h=>h.elim id λo=>by omega
 refine kk v' w' ⟨ps++[(cs,a)],by rw[e];simp,?_,λp O=>?_⟩ J G
 .have e2:Ju (ps++[(cs,a)])=Ju ps++cs:=by simp[Ju]
  rw[List.length_append,e2];exact Z
 rcases List.mem_append.1 O with o|o
 .exact⟨(hp p o).1,C (hp p o).2⟩
 rw[List.mem_singleton.1 o];exact⟨hl,C hΦ⟩
end
end Go.Wk
namespace Go.Proofs.YtbcdghbonlifdaaGreatDoor
open Go.RowKit Pl Go.Wk
attribute [local irreducible] WC WL QX WD WDB WP WN WG WH WM
variable {w w0:World}
theorem zRin: Qm Tryz.prog 108=some (.agg #[.int .i64 0,.int .i64 0,.slice none 0 0,.slice none 0 0,.slice none 0 0]):=kr
theorem Xvb(n f:Int)(A B C:Option Addr)(a a' b b' c c':Nat)(w:World): (Instr.build 108 #[(0,.int .i64 n),(1,.int .i64 f),(2,.slice A a a'),(3,.slice B b b'),(4,.slice C c c')]).run Tryz.prog w=.ok (.agg #[.int .i64 n,.int .i64 f,.slice A a a',.slice B b b',.slice C c c']) w:=kr
theorem Yh: Qm Tryz.prog 42=some (.agg #[.int .i64 0,.int .i64 0,.slice none 0 0,.slice none 0 0,.slice none 0 0]):=kr
theorem Xvj(n f:Int)(A B:Option Addr)(a a' b b':Nat)(w:World): (Instr.build 42 #[(0,.int .i64 n),(1,.int .i64 f),(2,.slice A a a'),(3,.slice B b b')]).run Tryz.prog w=.ok (.agg #[.int .i64 n,.int .i64 f,.slice A a a',.slice B b b',.slice none 0 0]) w:=kr
theorem Qmj{n f:Int}{dA pA vA rA:Option Addr}{d dc p pc v vc r rc:Nat}:
  Ret Tryz.prog 47 [.agg #[.int .i64 n,.int .i64 f,.slice dA d dc,.slice pA p pc,.slice vA v vc,.slice rA r rc]] w λu w'=>u=.agg #[.int .i64 n,.int .i64 f,.slice pA p pc,.slice vA v vc,.slice rA r rc]/\Ext w w':=by
 refine Jz Tryz.func47 Tryz.ntmps47 rfl kr rfl ?_;refine ρ ?_;refine bx ?_;intro w1 b D hb hB;refine ρ ?_;refine alc zRin ?_;intro w2 b2 C J Z;have o:=hB.ext C;refine ρ ?_;refine ld (o.at (i:=0) rfl) ?_;refine ρ ?_;refine ld (o.at (i:=1) rfl) ?_;refine ρ ?_;refine ld (o.at (i:=3) rfl) ?_;refine ρ ?_;refine ld (o.at (i:=4) rfl) ?_;refine ρ ?_;refine ld (o.at (i:=5) rfl) ?_;refine ρ ?_;refine bld (Xvb _ _ _ _ _ _ _ _ _ _ _ _) ?_;refine ρ ?_;refine stW Z ?_;intro w3 O a1 G;refine ρ ?_;exact Jqh O ⟨rfl,G w (D.trans C) (nL D.size J)⟩
structure MkA(a:Atm)(zs:List Int)(rows:List Row): Prop where
 vars:a.vars=zs
 ar:a.ar=zs.length
 l32:zs.length<=32
 ok:∀ r∈rows,r.length=zs.length/\r.all Xk=true
 len:a.rows.length<=65536
 sub:∀ x∈a.rows,x∈rows
 set:rows.length<=1000->Zz [] rows a.rows
structure MkS(c:Cse): Prop where
 len:c.vs.length=c.rss.length
 l32:∀ i,i<c.vs.length->(c.vs.getD i []).length<=32
 ok:∀ i,i<c.vs.length->∀ r∈c.rss.getD i [],r.length=(c.vs.getD i []).length/\r.all Xk=true
 row:∀ i,i<c.vs.length->(c.rss.getD i []).length<=65536
theorem Qsz{cs:List Value}{c:Cse}(h:CseV w0 cs c)(h00:Ext w0 w): Ret Tryz.prog 23 [.agg cs.toArray] w λu w'=>Ext w w'/\∃(dA pA aA:Option Addr) (dc pc ac an:Nat) (ok:Bool),u=.tuple #[.agg #[.int .i64 c.n,.int .i64 c.f,.slice dA c.ds.length dc,.slice pA c.pm.length pc,.slice aA an ac],.bool ok] /\
  BoolsV w0 (.slice dA c.ds.length dc) c.ds/\IntsV w0 (.slice pA c.pm.length pc) c.pm/\(ok=true->c.vs.length=c.rss.length/\∃ ats:List Atm,ats.length=c.vs.length/\Off (λk=>w0.heap.size<=k/\k<w.heap.size) w' (λu=>GV 3 AtG u (.slice aA an ac) ats)/\∀ i,i<c.vs.length->MkA (ats.getD i a0) (c.vs.getD i []) (c.rss.getD i []))/\(MkS c->ok=true):=by
 obtain⟨dA,dc,pA,pc,vA,vc,rA,rc,rfl,hD,hP,d5,hR,hn,hf⟩:=h;have hV:=d5;obtain⟨_,_,cw,e1,_,dj,ch,ce⟩:=id hR;injection e1 with e1 e2 e3
 subst e1;subst e3;obtain⟨_,_,df,e1,_,di,cd,d4⟩:=id hV;injection e1 with e1 e2 e3
 subst e1;subst e3;have d7:=ch.ext h00;have bl:=cd.ext h00;have d6:∀ i,i<c.rss.length->∃ u,cw[i]?=some u/\RowsV w u (c.rss.getD i []):=λi hi=>by obtain⟨u,e,hu⟩:=ce i hi;exact⟨u,e,hu.ext h00⟩
 refine Jz Tryz.func23 Tryz.ntmps23 rfl kr rfl ?_;refine ρ ?_;refine bx ?_;intro w1 b aa hb hB;refine ρ ?_;refine alc Yh ?_;intro w2 b2 aw bj cr;have ab:=hB.ext aw;refine ρ ?_;refine ld (ab.at (i:=0) rfl) ?_;refine ρ ?_;refine ld (ab.at (i:=1) rfl) ?_;refine ρ ?_;refine ld (ab.at (i:=2) rfl) ?_;refine ρ ?_;refine ld (ab.at (i:=3) rfl) ?_;refine ρ ?_;refine bld (Xvj _ _ _ _ _ _ _ _ _) ?_;refine ρ ?_;refine alc Yh ?_;intro w3 G cz c6 db;refine ρ ?_;refine stW db ?_;intro w4 a8 dv cy;have ae:Ext w2 w4:=cy w2 cz c6;have a2:=(aa.trans aw).trans ae;have c7:¬ b=G:=λe=>by have:=ab.lt;omega
 have b1:¬ b2=G:=λe=>by have:=cr.lt;omega
 have ba:=ab.ext ae;have ap:=cr.ext ae;refine ρ ?_;refine Jt (fun (i:Nat) (av:Value)=>[(1,.pointer (some ⟨b,0,none⟩)),(2,.pointer (some ⟨b2,0,none⟩)),(3,.bool false),(4,.pointer (some ⟨G,0,none⟩)),(5,.int .i64 (i:Int))])
  (λi av w'=>i<=c.vs.length/\i<=c.rss.length/\GrN (λk=>k=G) w4 w'/\Blk w' G 42 [.int .i64 c.n,.int .i64 c.f,.slice dA c.ds.length dc,.slice pA c.pm.length pc,av]/\∃ ats:List Atm,ats.length=i/\OwnM 100 3 AtG (λk=>(k=b2∨k=G)∨(w0.heap.size<=k/\k<w.heap.size)) w' w4.heap.size av ats/\∀ j,j<i->MkA (ats.getD j a0) (c.vs.getD j []) (c.rss.getD j [])) (λi _=>c.vs.length-i) 0 (.slice none 0 0) sB
  ⟨Nat.zero_le _,Nat.zero_le _,GrN.refl _ _,a8,[],rfl,OwnM.nil _ _,λj hj=>om⟩ ?_
 rintro i av w5 ⟨dq,dt,ah,am,ats,ca,aj,hmk⟩;have a1:=Jv ba ah c7;have ao:=Jv ap ah b1;have au:Ext w w5:=ah.old a2 λk o=>by rw[o];have:=(aa.trans aw).size;omega
 refine ρ ?_;refine ld (a1.at (i:=4) rfl) ?_;refine ρ ?_;refine Vn (fun (t:Bool)=>[(28,.bool t),(1,.pointer (some ⟨b,0,none⟩)),(2,.pointer (some ⟨b2,0,none⟩)),(3,.bool false),(4,.pointer (some ⟨G,0,none⟩)),(5,.int .i64 (i:Int))]) (λt w6=>w6=w5/\(t=true↔i<c.vs.length/\i<c.rss.length)) ?_ ?_
 .refine ki 22 (λh=>?_) (λh=>?_)
  .have:=oT h;refine ρ ?_;refine ld (a1.at (i:=5) rfl) ?_;refine ρ ?_;refine Jb (decide ((i:Int)<(c.rss.length:Int))) sB ⟨rfl,?_⟩;rw[decide_eq_true_eq];omega
  have:=oF h;refine ρ ?_;refine Jb false sB ⟨rfl,?_⟩;constructor
  .intro h;cases h
  omega
 rintro t w6 ⟨rfl,ht⟩;refine ρ ?_;refine ci (λh=>?_) (λh=>?_)
 .obtain⟨lv,lr⟩:=ht.1 h;clear h;obtain⟨vu,bp,bq⟩:=d4 i lv;obtain⟨ru,d0,bc⟩:=d6 i lr;obtain⟨QA,qc,rfl,dl,dk,dm⟩:=id bq;have D:Ext w6 w6.drew:=(Ext.refl w6).drew;have J:=au.trans D;have cn:=a1.ext D;have cc:=bl.ext J;have cg:=d7.ext J;obtain⟨TA,tc,rfl,_,_,_⟩:=id (bc.ext J).parts;refine ρ ?_;refine drH (λi=>Nat.ble 16 i) ?_;refine Zv (fuel':=7) 8 [(0,0),(0,1),(0,2),(0,3),(0,4),(0,5),(0,6),(0,7),(0,8),(0,9),(0,10)] (lst 18 11) kr kr rfl ?_;refine ρd ?_;refine dld (cn.at (i:=4) rfl) ?_;refine ρd ?_;refine dix i cc lv ?_;refine ρd ?_;refine dld (cc.cell bp) ?_;refine ρd ?_;refine dld (cn.at (i:=5) rfl) ?_;refine ρd ?_;refine dix i cg lr ?_;refine ρd ?_;refine dld (cg.cell d0) ?_;refine ρd ?_;refine Xf ?_;refine Jwp 2 (lst 18 16) (fun (q:Value×Int×Nat)=>[(44,q.1),(45,.int .i64 q.2.1),(6,.pointer (some ⟨q.2.2,0,none⟩)),(1,.pointer (some ⟨b,0,none⟩)),(2,.pointer (some ⟨b2,0,none⟩)),(3,.bool false),(4,.pointer (some ⟨G,0,none⟩)),(5,.int .i64 (i:Int))])
   (λq W=>Ext w6.drew W/\Blk W q.2.2 98 [.int .i64 0,.slice none 0 0]/\w6.drew.heap.size<=q.2.2/\(∃ z B m d,q.1=.agg #[.int .i64 z,.slice B m d])/\((c.vs.getD i []).length<=32->(∀ r∈c.rss.getD i [],r.length=(c.vs.getD i []).length/\r.all Xk=true)->(c.rss.getD i []).length<=65536->q.2.1=0) /\
    (q.2.1=0->(c.vs.getD i []).length<=32/\(∀ r∈c.rss.getD i [],r.length=(c.vs.getD i []).length/\r.all Xk=true)/\∃ m,Off (λk=>k<w6.drew.heap.size∨k=q.2.2) W (λu=>RelV u q.1 (c.vs.getD i []).length m)/\m.length<=65536/\(∀ x∈m,x∈c.rss.getD i [])/\(((c.rss.getD i []).length<=1000∨Srt [] (c.rss.getD i []))->Zz [] (c.rss.getD i []) m))) ?_ ?_
  .rintro⟨rv,e,b6⟩ W ⟨cx,cp,c5,⟨z,B,mm,dd,cv⟩,O,Z⟩;simp only at cp c5 O Z cv;subst cv;refine Zv (fuel':=0) 8 [(2,16),(2,17)] (lst 18 18) kr kr rfl ?_;refine Qj ?_;refine stb (cs':=[.int .i64 z,.slice B mm dd]) cp ?_ Yp;intro W2 co c1 bo;refine Jc (Qs ?_);refine Qj ?_;refine ρ ?_;refine Qs ?_;refine Kr (Xf ?_);refine Vf kr ?_;have C:Ext w6 W2:=bo w6 (D.trans cx) (nL D.size c5);have bh:GrN (λk=>k=b6) W W2:=GrN.by c1 λk o=>by injection o with o;exact o.symm
   have b9:=am.ext C;refine ρ ?_;refine ci (λh=>?_) (λh=>?_)
   .refine ρ ?_;refine ldW b9 ?_;obtain⟨AA,ac,aq,_,_⟩:=aj.form;subst aq;refine ρ ?_;refine stW (ao.ext C) ?_;intro W3 bm c3 ad;have bb:Ext w W3:=ad w (au.trans C) (nL aa.size bj);refine ρ ?_;exact Zh bm ⟨bb,dA,pA,AA,dc,pc,ac,ats.length,false,rfl,hD,hP,λh=>(by cases h),λhS=>absurd (O (hS.l32 i lv) (hS.ok i lv) (hS.row i lv)) (Uf h)⟩
   have he:e=0:=Gj h;clear h;obtain⟨br,bs,m,bw,d2,bf,bg⟩:=Z he;have be:=bw.gr (bh.mono λk _ o=>(.inr o:k<w6.drew.heap.size∨k=b6));obtain⟨AA,ac,aq,cb,a4⟩:=aj.form;subst aq;have ag:∀ g,(Value.slice AA ats.length ac).ownBlock=some g->w4.heap.size<=g:=λg e=>(a4 g e).1;have a3:Ext W2 W2.drew:=(Ext.refl W2).drew;have b7:=b9.ext a3;have ck:=(aj.ext C).ext a3;have af:Ext w W2.drew:=(au.trans C).trans a3;have d9:=(a1.ext C).ext a3;have cq:=co.ext a3;obtain⟨dh,_,d1,_⟩:=id ck;have n4:¬ (Value.slice AA ats.length ac).ownBlock=some G:=λe=>by have:=ag G e;have:=a8.lt;omega
   have n1:¬ (Value.slice AA ats.length ac).ownBlock=some b:=λe=>by have:=ag b e;have:=ba.lt;omega
   have n6:¬ (Value.slice AA ats.length ac).ownBlock=some b6:=λe=>by have:=(a4 b6 e).2;have:=D.size;omega
   have d8:∀ {W'},GrN (λk=>(Value.slice AA ats.length ac).ownBlock=some k) W2.drew W'->Ext w W':=λhg=>hg.old af λk o=>by have:=ag k o;have:=a2.size;omega
   refine ρ ?_;refine drN (λk=>(Value.slice AA ats.length ac).ownBlock=some k) 10 [(0,0),(0,1),(0,2),(0,3),(0,4),(0,5),(0,6),(0,7),(0,8),(1,9),(1,10),(0,11),(2,12)] kr ?_;refine ρn ?_;refine nld (Jl (b7.at (i:=4) rfl) n4) ?_;refine ρn ?_;refine nld (Jl (d9.at (i:=4) rfl) n1) ?_;refine ρn ?_;refine nix i (bl.ext af) lv ?_;refine ρn ?_;refine nld (λw' hg=>(bl.ext (d8 hg)).cell bp) ?_;refine ρn ?_;refine Xl (cs:=[.int .i64 z,.slice B mm dd]) (λw' hg j u hu=>(Jv cq hg n6).at hu) ?_;refine ρn ?_;refine Ig (λw=>Jdc _ _ _ _ _ _ _ w) ?_;refine ρn ?_;refine nop ?_;refine bsl (λw=>Jvl _ _ _ QA B _ qc _ dd _ rfl rfl rfl w) ?_;intro W3 b8 a5 dz da;refine ρ ?_;refine Jm (GrN.ext a5) ?_;refine nop ?_;have bd:=(be.ext a3).ext a5;have hΦ:Off (λk=>((k=b2∨k=G)∨(w0.heap.size<=k/\k<w.heap.size))∨(Value.slice AA ats.length ac).ownBlock=some k) W3 (λu=>AtG u [.slice QA (c.vs.getD i []).length qc,.int .i64 z,.slice B mm dd] ⟨c.vs.getD i [],(c.vs.getD i []).length,m⟩):=by
    intro W' c4;have h1:IntsV W' (.slice QA (c.vs.getD i []).length qc) (c.vs.getD i []):=bq.ext (c4.old (h00.trans (af.trans a5)) λk o=>by
     rcases o with((o|o)|o)|o
     .rw[o];exact nL (h00.trans aa).size bj
     .rw[o];exact nL (h00.trans (aa.trans aw)).size c6
     .exact o.1
     have:=ag k o;have:=(h00.trans a2).size;omega)
    obtain⟨dg,er,h2⟩:=bd W' (c4.mono λk _ o=>.inl (by
     rcases o with((o|o)|o)|o
     .have:=ao.lt;have:=D.size;omega
     .have:=am.lt;have:=D.size;omega
     .have:=J.size;omega
     have:=(a4 k o).2;have:=D.size;omega))
    have bn:=congrArg (λv:Value=>match v with | .agg xs=>xs.toList|_=>[]) er;simp only[List.cons.injEq,Value.int.injEq,true_and,and_true]at bn;refine⟨(.slice QA (c.vs.getD i []).length qc,.int .i64 z,.slice B mm dd),rfl,h1,?_,?_⟩
    .simp only;rw[bn.1]
    simp only;rw[bn.2];exact h2
   refine apM EA (Φ:=AtG) (ck.ext a5) da rfl (Kg rfl) hΦ om om (nL ah.size (nL (C.trans a3).size a5.size)) ?_;intro a7 W4 cm c2 dn;refine ρ ?_;refine Jm (GrN.by c2 λk o=>o) ?_;have ay:GrN (λk=>(Value.slice AA ats.length ac).ownBlock=some k) W3 W4:=GrN.by c2 λk o=>o
   have ak:=Jv (b7.ext a5) ay n4;obtain⟨A9,c9,de,dx,c8⟩:=cm.form;refine ρn ?_;refine Xh ?_;refine sto (ak.at (i:=4) rfl) (ak.frozen 4) ?_ (hv:=by rw[de];rfl);have ai:GrN (λk=>k=G) W4 (W4.setCell ((⟨G,0,none⟩:Addr).add 4) a7):=GrN.set _ rfl;have b5:Blk (W4.setCell ((⟨G,0,none⟩:Addr).add 4) a7) G 42 [.int .i64 c.n,.int .i64 c.f,.slice dA c.ds.length dc,.slice pA c.pm.length pc,a7]:=ak.set 4 _;have b3:OwnM 100 3 AtG (λk=>(k=b2∨k=G)∨(w0.heap.size<=k/\k<w.heap.size)) (W4.setCell ((⟨G,0,none⟩:Addr).add 4) a7) w4.heap.size a7 (ats++[⟨c.vs.getD i [],(c.vs.getD i []).length,m⟩]):=cm.gr (ai.mono λk _ h=>.inl (.inr h)) λg eg e=>by have:=(c8 g eg).1;have:=a8.lt;have:=ap.lt;have:=a2.size;rcases e with(e|e)|e<;>omega
   generalize (W4.setCell ((⟨G,0,none⟩:Addr).add 4) a7)=W5 at ai b5 b3
   have d3:GrN (λk=>k=G) w4 W5:=by
    have h1:GrN (λk=>k=G∨w4.heap.size<=k) w4 W5:=(((ah.mono λk _ h=>(.inl h:k=G∨w4.heap.size<=k)).trans (GrN.ext ((C.trans a3).trans a5))).trans (ay.mono λk _ h=>.inr (ag k h))).trans (ai.mono λk _ h=>.inl h);exact h1.mono λk o h=>h.elim id λh'=>by omega
   refine Jc (Ug ?_);refine ρn ?_;refine ρ ?_;refine Jf (i+1) a7 sO ⟨om,om,d3,b5,_,by rw[List.length_append,ca];rfl,b3,λj hj=>?_⟩ om;by_cases ej:j=i
   .subst ej;have:(ats++[(⟨c.vs.getD j [],(c.vs.getD j []).length,m⟩:Atm)]).getD j a0=⟨c.vs.getD j [],(c.vs.getD j []).length,m⟩:=by simp[List.getD,<-ca]
    rw[this];exact⟨rfl,rfl,br,bs,d2,bf,λh=>bg (.inl h)⟩
   have:(ats++[(⟨c.vs.getD i [],(c.vs.getD i []).length,m⟩:Atm)]).getD j a0=ats.getD j a0:=by simp[List.getD,List.getElem?_append_left (show j<ats.length by omega)]
   rw[this];exact hmk j om
  intro rest;refine htwo 11 15 kr rfl rfl rfl ?_ ?_
  .refine ρ ?_;refine cl (Jbc (ar:=(c.vs.getD i []).length) (bc.ext J)) ?_;rintro u W ⟨hy,rv,e,rfl,a6,O,Z⟩;refine Jc (Jbx hy ?_);refine Zv (fuel':=4) 8 [(0,12),(0,13)] (lst 18 14) kr kr rfl ?_;refine ρd ?_;refine Xf ?_;refine Gv (fuel':=3) 14 kr kr rfl rfl ?_;refine ρp ?_;refine ρd ?_;refine Xf ?_;refine Zv (fuel':=2) 8 [(1,15)] (lst 18 16) kr kr rfl ?_;refine dalc' (cs:=[.int .i64 0,.slice none 0 0]) Gh ?_;intro W2 b6 a9 bi ax;refine Kr (Xf ?_);refine rest (rv,e,b6) _ _ ⟨hy.trans a9,ax,Nat.le_trans hy.size bi,a6,O,λhe=>?_⟩ sB;obtain⟨q1,q2,m,q3,q4,q5,q6⟩:=Z he;exact⟨q1,q2,m,(q3.mono λk o h=>h.elim id fun (h:k=b6)=>om).ext a9,q4,q5,q6⟩
  refine ρ ?_;refine alc Gh ?_;intro W b6 hy bi ax;refine Jc (Jbx hy ?_);refine Zv (fuel':=3) 8 [(1,11),(0,12),(0,13)] ((lst 18 14).setIfInBounds 15 true) kr kr rfl ?_;refine ρd ?_;refine dcl (Jbc (ar:=(c.vs.getD i []).length) (bc.ext (J.trans hy))) ?_;rintro u W2 ⟨a9,rv,e,rfl,a6,O,Z⟩;refine⟨a9,?_⟩;refine ρd ?_;refine Xf ?_;refine Gv (fuel':=2) 14 kr kr rfl rfl ?_;refine ρp ?_;refine ρd ?_;refine Xf ?_;refine hlist (listed':=lst 18 16) kr ?_;refine rest (rv,e,b6) _ _ ⟨hy.trans a9,ax.ext a9,bi,a6,O,λhe=>?_⟩ sB;obtain⟨q1,q2,m,q3,q4,q5,q6⟩:=Z he;refine⟨q1,q2,m,q3.mono λk o h=>?_,q4,q5,q6⟩;have:=ax.lt;have:=hy.size;rcases h with h|(h:k=b6)<;>omega
 have dw:¬ (i<c.vs.length/\i<c.rss.length):=λh'=>by have:=ht.2 h';rw[h]at this;cases this
 clear h ht;obtain⟨AA,ac,aq,cb,a4⟩:=aj.form;subst aq;have D:Ext w6 w6.drew:=(Ext.refl w6).drew;refine ρ ?_;have n2:¬ b=b2:=λe=>by have:=hB.lt;omega
 refine drN (λk=>k=b2) 10 [(0,0),(0,1),(0,2),(0,3),(0,4),(0,5),(0,6),(0,7),(1,8),(0,9)] kr ?_;refine ρn ?_;refine Xl (cs:=[.int .i64 c.n,.int .i64 c.f,.slice dA c.ds.length dc,.slice pA c.pm.length pc,.slice AA ats.length ac]) (λw' hg j u hu=>(Jv (am.ext D) hg (λe=>b1 e.symm)).at hu) ?_;refine ρn ?_;refine nld (Jl ((a1.ext D).at (i:=4) rfl) n2) ?_;refine ρn ?_;refine nld (Jl ((a1.ext D).at (i:=5) rfl) n2) ?_;refine ρn ?_;refine nop ?_;refine stW (ao.ext D) ?_;intro W3 bm c3 ad;have bb:Ext w W3:=ad w (au.trans D) (nL aa.size bj);have bz:GrN (λk=>k=b2) w6.drew W3:=GrN.by c3 λk o=>by injection o with o;exact o.symm
 refine Jc (Jm bz ?_);refine ρn ?_;refine ρ ?_;refine Zh bm ⟨bb,dA,pA,AA,dc,pc,ac,ats.length,((c.vs.length:Int) == (c.rss.length:Int)),rfl,hD,hP,λh=>?_,λhS=>by rw[hS.len];exact beq_self_eq_true _⟩;have he:c.vs.length=c.rss.length:=by have:=Xa h;omega
 have du:i=c.vs.length:=om
 refine⟨he,ats,om,?_,λj hj=>hmk j om⟩;have cj:∀ g,(Value.slice AA ats.length ac).ownBlock=some g->¬ ((g=b2∨g=G)∨(w0.heap.size<=g/\g<w.heap.size)):=λg eg e=>by have:=(a4 g eg).1;have:=a8.lt;have:=ap.lt;have:=a2.size;rcases e with(e|e)|e<;>omega
 intro W hW;exact(((aj.ext D).gr (bz.mono λk _ h=>.inl (.inl h)) cj).gr (hW.mono λk _ h=>.inr h) cj).gv om
open Go.RowKit Pl Go.Wk
def MkO(w0:World)(N:Nat->Prop)(w:World)(c:Cse)(u:Value)(P:Prop): Prop:=∃(dA pA aA:Option Addr) (dc pc ac an:Nat) (ok:Bool),u=.tuple #[.agg #[.int .i64 c.n,.int .i64 c.f,.slice dA c.ds.length dc,.slice pA c.pm.length pc,.slice aA an ac],.bool ok] /\
 BoolsV w0 (.slice dA c.ds.length dc) c.ds/\IntsV w0 (.slice pA c.pm.length pc) c.pm/\(ok=true->c.vs.length=c.rss.length/\∃ ats:List Atm,ats.length=c.vs.length/\Off N w (λu=>GV 3 AtG u (.slice aA an ac) ats)/\(∀ i,i<c.vs.length->MkA (ats.getD i a0) (c.vs.getD i []) (c.rss.getD i []))/\(P->Jqm ⟨c.n,c.f,c.ds,c.pm,ats⟩))/\(MkS c->(∀ ats:List Atm,ats.length=c.vs.length->(∀ i,i<c.vs.length->MkA (ats.getD i a0) (c.vs.getD i []) (c.rss.getD i []))->Jqm ⟨c.n,c.f,c.ds,c.pm,ats⟩)->ok=true)
theorem Qdw{w0 w:World}{cs:List Value}{c:Cse}(h:CseV w0 cs c)(h00:Ext w0 w): Ret Tryz.prog 46 [.agg cs.toArray] w λu w'=>Ext w w'/\MkO w0 (λk=>w0.heap.size<=k/\k<w.heap.size) w' c u True:=by
 obtain⟨ba,b9,b7,b6,vA,vc,rA,rc,b5,_,_,_,_,hn,hf⟩:=id h;subst b5;refine Jz Tryz.func46 Tryz.ntmps46 rfl kr rfl ?_;refine ρ ?_;refine bx ?_;intro w1 b J hb hB;refine ρ ?_;refine alc Yh ?_;intro w2 b2 a2 ah ab;have b1:=hB.ext a2;refine ρ ?_;refine ldW b1 ?_;refine ρ ?_;refine cl (Qsz h (h00.trans (J.trans a2))) ?_;rintro u w3 ⟨a6,dA,pA,aA,dc,pc,ac,an,ok,rfl,hD,hP,au,ae⟩;refine ρ ?_;refine alc Yh ?_;intro w4 b4 ao ax ay;refine ρ ?_;refine stW ay ?_;intro w5 aa b8 am;have G:Ext w3 w5:=am w3 ao ax;have a3:=(ab.ext a6).ext G;have ad:=((J.trans a2).trans a6).trans G;refine ρ ?_;have C:Ext w5 w5.drew:=(Ext.refl w5).drew;have a4:¬ b4=b2:=λe=>by have:=ab.lt;have:=a6.size;omega
 have a5:=ad.trans C;have aj:∀ {W:World},GrN (λk=>k=b2) w5.drew W->Ext w W:=λhg=>hg.old a5 λk D=>by rw[D];exact nL J.size ah
 have aw:=ab.lt;cases ok with
 | true=>
  obtain⟨ag,ats,ai,af,hmk⟩:=au rfl;have Z:=(af.ext G).ext C;have hG:=Z.here;obtain⟨ts,A,cc,b3,eA,av,ap,ar,aq⟩:=Jdj hG;refine drN (λk=>k=b2) 10 [(0,0),(0,1),(0,2),(0,3),(1,4),(0,5),(0,6),(1,7),(0,8)] kr ?_;refine ρn ?_;refine Xl (cs:=[.int .i64 c.n,.int .i64 c.f,.slice dA c.ds.length dc,.slice pA c.pm.length pc,.slice aA an ac]) (λw' hg j u hu=>(Jv (aa.ext C) hg a4).at hu) ?_;refine ρn ?_;refine Xl (cs:=[.int .i64 c.n,.int .i64 c.f,.slice dA c.ds.length dc,.slice pA c.pm.length pc,.slice aA an ac]) (λw' hg j u hu=>(Jv (aa.ext C) hg a4).at hu) ?_;refine ρn ?_;refine nop ?_;refine cl (Jlt (inp:=⟨c.n,c.f,c.ds,c.pm,ats⟩) ⟨_,rfl,_,_,_,rfl,hD.ext (h00.trans a5),hP.ext (h00.trans a5),⟨ts,A,cc,b3,eA,av,ap,ar,aq⟩⟩ hn hf) ?_;rintro u w6 ⟨a1,e,rfl,he⟩;refine ρ ?_;refine Jm (GrN.ext a1) ?_;refine ρn ?_;refine nop ?_;refine stW ((a3.ext C).ext a1) ?_;intro w7 a9 a8 ak
  have o:GrN (λk=>k=b2) w6 w7:=GrN.by a8 λk D=>by injection D with D;exact D.symm
  refine Jc (Jm o ?_);have O:=aj ((GrN.ext a1).trans o);refine ρn ?_;refine ρ ?_;refine Zh a9 ⟨O,dA,pA,aA,dc,pc,ac,an,_,rfl,hD,hP,λh=>⟨ag,ats,ai,?_,hmk,λ_=>he.1 (Xa h)⟩,λ_ hC=>?_⟩;rotate_left
  .have:=he.2 (hC ats ai hmk);rw[this];rfl
  have a7:=(Z.ext a1).gr (o.mono λk _ D=>by rw[D];exact⟨nL (h00.trans J).size ah,aw⟩);exactλW hW=>a7 W (hW.mono λk _ D=>⟨D.1,Nat.lt_of_lt_of_le D.2 (J.trans a2).size⟩)
 | false=>
  refine drN (λk=>k=b2) 10 [(0,0),(0,1),(0,2),(0,3),(1,4),(0,5),(0,6),(1,7),(0,8)] kr ?_;refine ρn ?_;refine Xl (cs:=[.int .i64 c.n,.int .i64 c.f,.slice dA c.ds.length dc,.slice pA c.pm.length pc,.slice aA an ac]) (λw' hg j u hu=>(Jv (aa.ext C) hg a4).at hu) ?_;refine ρn ?_;refine nop ?_;refine stW (a3.ext C) ?_;intro w7 a9 a8 ak;have o:GrN (λk=>k=b2) w5.drew w7:=GrN.by a8 λk D=>by injection D with D;exact D.symm
  refine Jc (Jm o ?_);have O:=aj o;refine ρn ?_;refine ρ ?_;exact Zh a9 ⟨O,dA,pA,aA,dc,pc,ac,an,false,rfl,hD,hP,λh=>(by cases h),λhS _=>ae hS⟩
end Go.Proofs.YtbcdghbonlifdaaGreatDoor
namespace Go.Proofs.YtbcdghbonlifdaaGreatDoor
open Pl Go.Wk
noncomputable def BBx(tot n f:Nat)(kf:Nat->Nat)(pf:Nat->Int)(R:Nat->List Row)(ds:List Bool)(pl:Nat->Nat)(u:Nat): List BkT:=if u<f then(if tot=0 then[] else BBo n f kf pf R ds pl u) else[]
section
variable {n f m:Nat} {es perm:List Nat} {vars:Nat->List Nat} {rs:Nat->List Row} {kf:Nat->Nat} {pf:Nat->Int} {R:Nat->List Row} {ds:List Bool} {ats:List Atm} {tot:Nat} {L:List Row} {BB:Nat->List BkT}
theorem Qgm(hat:ats.length=m)(hae:∀ i,i<m->(ats.getD i a0).rows=rs i){T:Nat->Row->Nat}: Vp n pf T ats≠0↔(∀ i,i<m->rs i≠[])/\∀ v,v<n->pf v = -1->0<T v []:=by
 unfold Vp;have o:ats.any (λa=>a.rows.isEmpty)=true↔∃ i,i<m/\rs i=[]:=by grind [List.any_eq_true,List.getElem_of_mem,a0,List.getD,List.isEmpty_iff.1,getD_mem']
 split
 .grind
 rename_i h;have u:∀ i,i<m->rs i≠[]:=by grind
 rw[<-Nat.pos_iff_ne_zero,prodR_pos];grind
theorem ElR.ixP(h:ElR n f m es perm vars rs kf pf R)(hfit:∀ v,v<f->∀ x∈R v,∀ u∈x,Xb u/\u.bytes.length<=24)(hat:ats.length=m)(hae:∀ i,i<m->(ats.getD i a0).rows=rs i)(htot:tot=Vp n pf (TV n f kf pf R ds (plO perm f)) ats)(hL:Lt ds L)(hLm:∀ y,y∈L↔∃ z,Zc n m vars rs z/\z.take f=y):
  IxP f ds kf pf (BBx tot n f kf pf R ds (plO perm f)) tot L:=by
 have ad:=h.pm.fn;have hn:=h.n32;have C:=h.ok (ds:=ds);have a1:tot≠0↔(Jzm n f m perm vars rs kf pf R ds).Roots:=by
  rw[htot,Qgm hat hae];constructor
  .rintro⟨G,Z⟩;refine⟨λv o hp=>Z v o hp,λa ha=>?_⟩;obtain⟨i,hi,rfl⟩:=List.mem_map.1 ha;grind
  rintro⟨G,Z⟩;exact⟨λi hi=>Z (vars i,rs i) (List.mem_map.2 ⟨i,List.mem_range.2 hi,rfl⟩),λv o hp=>G v o hp⟩
 have a3:∀ z,(Jzm n f m perm vars rs kf pf R ds).Join z↔Zc n m vars rs z:=λz=>by
  constructor
  .rintro⟨G,Z⟩;exact⟨G,λi hi=>Z (vars i,rs i) (List.mem_map.2 ⟨i,List.mem_range.2 hi,rfl⟩)⟩
  rintro⟨G,Z⟩;refine⟨G,λa ha=>?_⟩;obtain⟨i,hi,rfl⟩:=List.mem_map.1 ha;exact Z i (List.mem_range.1 hi)
 have hE:tot≠0->∀ v,v<f->∀ k,entK (BBx tot n f kf pf R ds (plO perm f) v) k=(Jzm n f m perm vars rs kf pf R ds).E v k:=λh0 v o k=>by
  unfold BBx;rw[if_pos o,if_neg h0];rfl
 obtain⟨X,hX⟩:∃ X:BX V,X=⟨V0,n,f,λv=>bk (kf v) 32,pf,plO perm f,(List.range m).map λi=>(vars i,rs i),TV n f kf pf R ds (plO perm f),λv k=>entK (BBx tot n f kf pf R ds (plO perm f) v) k⟩:=⟨_,rfl⟩;have D:tot≠0->X.Ok:=λh0=>by
  subst hX;exact⟨C.FN,C.plN,C.inj,C.k1,C.k2,C.k3,C.k4,C.k5,C.k6,C.al,C.t1,λv o k=>by
   have:=C.t2 v o k;rw[<-hE h0 v o k]at this;exact this⟩
 have ak:tot≠0↔X.Roots:=by subst hX;exact a1
 have am:∀ z,X.Join z↔Zc n m vars rs z:=λz=>by subst hX;exact a3 z
 have a4:Xy f kf pf (BBx tot n f kf pf R ds (plO perm f))=X.ix:=by subst hX;rfl
 have O:X.F=f:=by subst hX;rfl
 have an:X.N=n:=by subst hX;rfl
 have ap:X.d0=V0:=by subst hX;rfl
 have ah:∀ v,v<f->kf v<2^v:=λv o=>by
  refine Nat.lt_pow_two_of_testBit _ λi hi=>?_;cases hb:(kf v).testBit i with
  | false=>rfl
  | true=>
   exfalso
   have G:=h.kbit om hb;rcases Nat.lt_or_ge i f with Z|Z
   .rcases Nat.eq_or_lt_of_le hi with h3|h3
    .subst h3;omega
    have:plO perm f i<plO perm f v:=C.k5 i v Z h3;omega
   have:plO perm f i<plO perm f v:=C.k6 v i o Z G.1;omega
 have a6:tot≠0->X.ix.Srt ds:=λh0=>by
  have hs:=h.srt (ds:=ds);subst hX;refine⟨rfl,λv o k=>?_⟩;have:=hs.srt v o k;show Uw _ (entK _ k);rw[hE h0 v o k];exact this
 have a5:tot=0->L=[]:=λh0=>by
  refine List.eq_nil_iff_forall_not_mem.2 λy hy=>?_;obtain⟨z,hz,e⟩:=(hLm y).1 hy;have ae:=(a3 z).2 hz;have a2:y.length=f:=by rw[<-e,List.length_take,hz.1];omega
  have:=(C.answers (y:=y) a2).2 ⟨z,ae,e⟩;grind
 have a8:tot≠0->L=X.ix.ext f []:=λh0=>by
  refine Iy hL ((a6 h0).ext f [] (by show 0+f=X.F;omega)) λy=>?_;rw[hLm y];have J:=(D h0).ixOk;constructor
  .rintro⟨z,hz,e⟩;have a2:y.length=X.F:=by rw[<-e,List.length_take,hz.1];omega
   have:=((D h0).answers a2).2 ⟨z,(am z).2 hz,by rw[O];exact e⟩;refine(AX.ext_mem f [] y).2 ⟨by rw[a2,O];simp,rfl,λv _ o=>?_⟩;have a9:v<X.F:=by grind
   have G:=this.1 v a9;have hk:X.ix.key v (y.take v)=X.ix.key v y:=by
    have:=J.key_pre (c:=v) (y:=y.take v) (z:=y.drop v) a9 (by rw[List.length_take,Nat.min_eq_left om];exact(J.pl v a9).2);grind [List.take_append_drop]
   show y.getD v X.d0∈(X.E v (X.ix.key v (y.take v))).map (·.1)
   rw[hk];exact G
  intro hy;obtain⟨G,_,h3⟩:=(AX.ext_mem f [] y).1 hy;have a2:y.length=X.F:=by rw[G,O];simp
  have af:∀ v,v<X.F->y.getD v X.d0∈(X.E v (prj X.d0 (X.K v) y)).map (·.1):=λv o=>by
   have h4:=h3 v (Nat.zero_le _) (by simpa [O] using o);have hk:X.ix.key v (y.take v)=X.ix.key v y:=by
    have:=J.key_pre (c:=v) (y:=y.take v) (z:=y.drop v) o (by rw[List.length_take,Nat.min_eq_left om];exact(J.pl v o).2);grind [List.take_append_drop]
   rw[hk]at h4;exact h4
  obtain⟨z,hz,e⟩:=((D h0).answers a2).1 ⟨af,ak.1 h0⟩;grind
 have aa:∀ v,v<f->GInv (ds.getD v false) (λx=>wtL (TV n f kf pf R ds (plO perm f)) x (chK kf pf v n)) (Go.Proofs.YtbcdghbonlifdaaGreatDoor.lastC kf v) (R v) (BBo n f kf pf R ds (plO perm f) v):=λv o=>Jdn h o;have ab:∀ v k,(trK (BBx tot n f kf pf R ds (plO perm f) v) k).toL=[]∨(v<f/\(trK (BBx tot n f kf pf R ds (plO perm f) v) k).toL=Vu (ds.getD v false) (Xx (λx=>wtL (TV n f kf pf R ds (plO perm f)) x (chK kf pf v n)) (Go.Proofs.YtbcdghbonlifdaaGreatDoor.lastC kf v) (R v) k)):=λv k=>by
  rw[Jfg];unfold BBx;by_cases o:v<f
  .rw[if_pos o];by_cases h0:tot=0
   .rw[if_pos h0];exact .inl rfl
   rw[if_neg h0];exact .inr ⟨o,(aa v o).entK k⟩
  rw[if_neg o];exact .inl rfl
 refine⟨?_,λh0 v=>?_,λh0=>a4 ▸ (D h0).ixOk,λh0=>a4 ▸ a6 h0,λh0=>a4 ▸ a8 h0,λv k=>?_,λv k=>?_,λv b hb p hp=>?_,om,ah⟩
 .by_cases h0:tot=0
  .rw[a5 h0,h0];rfl
  have J:=(D h0).ixOk;rw[a8 h0,J.ext_len f [] (by show 0+f=X.F;omega)];have e1:tot=Jd n λv=>if pf v = -1 then TV n f kf pf R ds (plO perm f) v [] else 1:=by
   have ac:=h0;rw[htot]at ac ⊢;unfold Vp at ac ⊢;grind
  rw[e1,Qjr ad λc G Z=>?_]
  .show Jd f _=Jd X.F _;rw[O];refine Uu λc hc=>?_;have ag:=J.pl c (by rw[show X.ix.F=X.F from rfl,O];exact hc);have a7:X.ix.par c=pf c:=by subst hX;rfl
   rw[a7]at ag;by_cases hp:pf c = -1
   .rw[if_pos hp,if_pos ⟨Nat.zero_le _,by rw[a7];simp;omega⟩];have ai:X.ix.key c []=[]:=by
     have aj:X.K c=[]:=(D h0).kroot (by rw[an];omega) (by subst hX;exact hp);show prj X.d0 (X.K c) []=[];rw[aj];rfl
    have:=((D h0).t2 c (by rw[O];exact hc) []).1;have hT:X.T c []=TV n f kf pf R ds (plO perm f) c []:=by subst hX;rfl
    rw[hT]at this;rw[this];show _=Pl.tot (X.E c (X.ix.key c []));rw[ai]
   repeat grind
  by_cases hp:pf c = -1
  .rw[if_pos hp];have h3:=(a1.1 h0).1 c Z hp;have h4:=Jnq (n:=n) (R:=R) (ds:=ds) (kf:=kf) h.chf c G [];have h5:0<TV n f kf pf R ds (plO perm f) c []:=h3;omega
  rw[if_neg hp]
 .unfold BBx;rw[if_pos h0];split<;>rfl
 .rw[Tr.sum_eq];rcases ab v k with e|⟨o,e⟩
  .rw[e];exact Nat.zero_le _
  rw[e,Jcs];have:=h.big (ds:=ds) v k;rw[Jdk h.chf ad o,Jfh]at this;have e2:=(aa v o).entK k;grind [BBo,Jcs]
 .rw[Tr.sz_eq];rcases ab v k with e|⟨o,e⟩
  .grind
  rw[e];have G:(Vu (ds.getD v false) (Xx (λx=>wtL (TV n f kf pf R ds (plO perm f)) x (chK kf pf v n)) (Go.Proofs.YtbcdghbonlifdaaGreatDoor.lastC kf v) (R v) k)).length<=(R v).length:=by
   have:(Xx (λx=>wtL (TV n f kf pf R ds (plO perm f)) x (chK kf pf v n)) (Go.Proofs.YtbcdghbonlifdaaGreatDoor.lastC kf v) (R v) k).length<=(R v).length:=by grind [Xx,List.length_map,List.length_filter_le]
   unfold Vu;split<;>simpa using this
  exact nL G (h.rows v om).2.2
 unfold BBx at hb;by_cases o:v<f
 .rw[if_pos o]at hb;by_cases h0:tot=0
  .grind
  rw[if_neg h0]at hb;rw[((aa v o).con b hb).1,Qwf,entL_mem]at hp;obtain⟨x,hx,_,Z,_⟩:=hp;rw[<-Z];have ao:=h.rl o x hx;grind [kf,V0,getD_mem']
 repeat grind
theorem IxP.few(h:IxP f ds kf pf BB tot L)(hl:L.length<4294967296): tot≠0->∀ z,(Xy f kf pf BB).Gp z->z.length<f->0<(Xy f kf pf BB).pend z.length z->(Xy f kf pf BB).others z.length z<4294967296:=λh0 z u o hp=>by
 have D:=((h.ok h0).others_le o hp).2;have C:=(h.ok h0).pend_le z.length z rfl (Nat.le_of_lt o) u;rw[h.pend0 h0,h.len]at C;omega
end
open Pl Go.Wk
variable {l:List Int}{i n u v:Nat}
def toN(l:List Int): List Nat:=l.map Int.toNat
theorem Jbm(h:∀ v∈l,0<=v): nz (toN l)=l:=by
 unfold nz toN;rw[List.map_map];conv=>rhs;rw[<-List.map_id l]
 grind [List.map_congr_left]
theorem Jfj(h:∀ v∈l,0<=v): u∈toN l↔(u:Int)∈l:=by grind [Jbm,nz]
theorem Xyr{l:List Nat}(h:Jvq (nz l)): Ql l:=by
 unfold Ql;rw[List.pairwise_iff_getElem];intro i j hi u C;have step:∀ k,0<k->k<l.length->l.getD (k-1) 0<l.getD k 0:=λk h0 o=>by
  have:=h k h0 (by rw[Je];exact o);grind [Jkt]
 have key:∀ d,i+1+d<l.length->l.getD i 0<l.getD (i+1+d) 0:=by
  intro d;induction d with
  | zero=>intro hd;have:=step (i+1) om hd;simpa using this
  | succ d ih=>
   grind
 have:=key (j-(i+1)) om;rw[show i+1+(j-(i+1))=j by omega,Qz 0 _ hi,Qz 0 _ u]at this;exact this
structure CseOk(c:Cse)(ats:List Atm): Prop where
 few:FewP c
 len:c.vs.length=c.rss.length
 al:ats.length=c.vs.length
 mka:∀ i,i<c.vs.length->MkA (ats.getD i a0) (c.vs.getD i []) (c.rss.getD i [])
 chk:Jqm ⟨c.n,c.f,c.ds,c.pm,ats⟩
 fit:∀ i,i<c.rss.length->∀ r∈c.rss.getD i [],∀ u∈r,Xb u
def Cse.N(c:Cse): Nat:=c.n.toNat
def Cse.F(c:Cse): Nat:=c.f.toNat
def Cse.m(c:Cse): Nat:=c.vs.length
def Cse.vars(c:Cse)(i:Nat): List Nat:=toN (c.vs.getD i [])
def Cse.crs(c:Cse)(i:Nat): List Row:=c.rss.getD i []
def rsA(ats:List Atm)(i:Nat): List Row:=(ats.getD i a0).rows
def Cse.ans(c:Cse): List Row:=Jzq c.m c.vars c.crs c.N c.F c.ds
section
variable {c:Cse} {ats:List Atm}
theorem CseOk.nN(h:CseOk c ats): c.n=(c.N:Int)/\c.N<=6:=by
 have C:=h.chk.1;have u:=h.chk.2.1;have o:=h.few.n6;grind [Cse.N]
theorem CseOk.fF(h:CseOk c ats): c.f=(c.F:Int)/\c.F<=c.N:=by
 obtain⟨C,_,u,o,_⟩:=h.chk;grind [Cse.F,Cse.N]
theorem CseOk.at_(h:CseOk c ats)(hi:i<c.m): Jvn c.n (ats.getD i a0):=by
 obtain⟨_,_,_,_,_,_,_,_,_,_,_,o,_⟩:=h.chk;exact o _ (getD_mem' a0 _ (by rw[h.al];exact hi))
theorem CseOk.vars(h:CseOk c ats){i:Nat}(hi:i<c.m): nz (c.vars i)=c.vs.getD i []/\Ql (c.vars i)/\(∀ v∈c.vars i,v<c.N)/\(c.vars i).length=(c.vs.getD i []).length:=by
 obtain⟨D,u,G⟩:=h.at_ hi;have C:=(h.mka i hi).vars;rw[C]at D u;have h0:∀ v∈c.vs.getD i [],0<=v:=λv o=>(u v o).1;refine⟨Jbm h0,Xyr (by grind [Cse.vars,Jbm]),λv o=>?_,by simp[Cse.vars,toN]⟩;have:=(u v ((Jfj h0).1 o)).2;have:=h.nN.1;omega
theorem CseOk.cov(h:CseOk c ats)(hv:v<c.N): ∃ i,i<c.m/\v∈c.vars i:=by
 obtain⟨_,_,_,_,_,_,_,_,_,_,_,_,Z⟩:=h.chk;obtain⟨a,O,C⟩:=Z v (by have:=h.nN.1;simp only;omega);obtain⟨i,hi,e⟩:=List.getElem_of_mem O;have o:i<c.m:=by have:=h.al;grind [Cse.m]
 have G:ats.getD i a0=a:=by grind
 have D:=(h.mka i o).vars;rw[G]at D;refine⟨i,o,(Jfj λu J=>?_).2 (D ▸ C)⟩;have:=(h.at_ o).2.1 u (by rw[G,D];exact J);exact this.1
theorem CseOk.set(h:CseOk c ats){i:Nat}(hi:i<c.m): Zz [] (c.crs i) (rsA ats i):=(h.mka i hi).set (by have:=h.few.row i (by rw[<-h.len];exact hi);grind)
theorem CseOk.clen(h:CseOk c ats)(hi:i<c.m): ∀ r∈c.crs i,r.length=(c.vars i).length:=λr o=>by rw[(h.vars hi).2.2.2];exact((h.mka i hi).ok r o).1
theorem CseOk.slen(h:CseOk c ats)(hi:i<c.m): ∀ r∈rsA ats i,r.length=(c.vars i).length:=λr o=>h.clen hi r (((h.set hi).2 r).1 o)
theorem Qjq{g g':Nat->Nat}(h:∀ c,c<n->g c<=g' c): Jd n g<=Jd n g':=by
 induction n with
 | zero=>exact nR _
 | succ n ih=>rw[Jd,Jd];exact Nat.mul_le_mul (ih λc o=>h c om) (h n om)
theorem CseOk.cnt(h:CseOk c ats): max 1 (Jd c.m λi=>(c.crs i).length)<=5000:=by
 have o:=h.few.cnt;rw[<-h.len]at o;have u:Jd c.m (λi=>(c.crs i).length)<=Jd c.vs.length λi=>max 1 (c.rss.getD i []).length:=Qjq λi _=>Nat.le_max_right _ _;omega
theorem CseOk.refP(h:CseOk c ats): RefP c.N c.m c.vars c.crs:=by
 have u:=h.nN.2;refine⟨om,by have:=h.few.v5;unfold Cse.m;omega,λi hi=>(h.vars hi).2.1,λi hi=>(h.vars hi).2.2.1,λi hi=>h.clen hi,λv o=>h.cov o,h.cnt,λi hi=>h.few.row i (by rw[<-h.len];exact hi)⟩
theorem Jyz{ds:List Bool}{ls m:List Row}(h:Zz ds ls m): m.length<=ls.length:=Jhh (Qxm h.1) λx o=>(h.2 x).1 o
theorem CseOk.pm(h:CseOk c ats): PermOk c.N c.F (toN c.pm)/\nz (toN c.pm)=c.pm:=by
 obtain⟨_,_,_,_,_,C,u,o,_⟩:=h.chk;simp only at C u o;have hn:=h.nN.1;have G:=h.fF.1;have h0:∀ v∈c.pm,0<=v:=by grind
 refine⟨⟨h.fF.2,by simp[toN];omega,λv D=>?_,?_⟩,Jbm h0⟩;repeat grind [Jfj,toN,List.Nodup,List.Pairwise.imp_of_mem]
theorem CseOk.ansJ(h:CseOk c ats)(z:Row): Zc c.N c.m c.vars (rsA ats) z↔Zc c.N c.m c.vars c.crs z:=by
 unfold Zc;refine and_congr_right λ_=>forall_congr' λi=>forall_congr' λhi=>?_;exact(h.set hi).2 _
theorem CseOk.ans(h:CseOk c ats): Lt c.ds c.ans/\∀ y,y∈c.ans↔∃ z,Zc c.N c.m c.vars (rsA ats) z/\z.take c.F=y:=by
 have hs:=Qbq c.m c.vars c.crs c.N c.F c.ds;have o:=h.refP;refine⟨hs.1,λy=>?_⟩;rw[show c.ans=Jzq c.m c.vars c.crs c.N c.F c.ds from rfl,hs.2 y,List.mem_map];constructor
 .rintro⟨z,u,e⟩;exact⟨z,(h.ansJ z).2 ((Jlf o.asc o.len o.lt o.cov z).1 u),e⟩
 rintro⟨z,u,e⟩;exact⟨z,(Jlf o.asc o.len o.lt o.cov z).2 ((h.ansJ z).1 u),e⟩
theorem CseOk.anl(h:CseOk c ats): c.ans.length<=5000:=by
 have o:=h.refP;have u:=Jyz (Qbq c.m c.vars c.crs c.N c.F c.ds);have C:=Qzd o.asc o.len o.cov;rw[List.length_map]at u;exact nL u (nL C o.cnt)
theorem CseOk.arow(h:CseOk c ats){y:Row}(hy:y∈c.ans): y.length=c.F:=by
 obtain⟨z,o,e⟩:=(h.ans.2 y).1 hy;rw[<-e,List.length_take,o.1];have:=h.fF.2;omega
end
open Go.RowKit Pl Go.Wk
attribute [local irreducible] WC WL QX WD WDB WP WN WG WH WM
variable {ds:List Bool}{es perm:List Nat}{ts:List TA}{f m n rc v vc:Nat}{pf:Nat->Int}{vars:Nat->List Nat}{R rs:Nat->List Row}{x:Value}{w:World}
theorem IxV.congr{kf:Nat->Nat}{BB BB':Nat->List BkT}{tot:Nat}(h:IxV w x f ds kf pf BB tot)(he:∀ v,v<f->BB v=BB' v): IxV w x f ds kf pf BB' tot:=by
 obtain⟨DA,dc,BA,cb,KA,ck,PA,cp,D,u,o,h1,h2,h3,h4,h5,Z,O,J,G⟩:=h.ex;exact⟨⟨DA,dc,BA,cb,KA,ck,PA,cp,D,u,o,h1,h2,h3,h4,h5,Z,O,J,λv C=>he v C ▸ G v C⟩,h.dl,h.f32⟩
theorem ElR.fits{kf:Nat->Nat}(h:ElR n f ts.length es perm vars rs kf pf R)(hI:BldI n f ds perm ts vars rs):
  ∀ v,v<f->∀ x∈R v,∀ u∈x,Xb u/\u.bytes.length<=24:=λv D x C u G=>by
 have o:v<n:=nM D h.pm.fn;obtain⟨z,_,e,J⟩:=((h.rows v o).2.1 x).1 C;subst e;exact(hI.fit (h.sb o) J).1.2 u G
theorem ElR.htb{kf:Nat->Nat}{tot:Nat}(h:ElR n f m es perm vars rs kf pf R){b:BkT}(hb:b∈BBx tot n f kf pf R ds (plO perm f) v): b.2.ht<=65536:=by
 unfold BBx at hb;by_cases hv:v<f
 .rw[if_pos hv]at hb;by_cases h0:tot=0
  .grind
  rw[if_neg h0]at hb;have e:=((Jdn (ds:=ds) h hv).con b hb).1;have C:b.2.toL.length<=(R v).length:=by
   rw[e];have:(Xx (λx=>wtL (TV n f kf pf R ds (plO perm f)) x (chK kf pf v n)) (Go.Proofs.YtbcdghbonlifdaaGreatDoor.lastC kf v) (R v) b.1).length<=(R v).length:=by grind [Xx,List.length_map,List.length_filter_le]
   unfold Vu;split<;>simpa using this
  have o:=Tr.ht_le b.2;rw[Tr.sz_eq]at o;have u:=(h.rows v (nM hv h.pm.fn)).2.2;omega
 repeat grind
theorem Xjn{kf:Nat->Nat}{L:List Row}(hTB:∃ B0,TB B0 w)(hI:BldI n f ds perm ts vars rs)(hats:∀ i,i<ts.length->((ts.map (·.2)).getD i a0).rows=rs i)(hE:ElR n f ts.length es perm vars rs kf pf R)(hV:IxV w x f ds kf pf (λu=>if Vp n pf (TV n f kf pf R ds (plO perm f)) (ts.map (·.2))=0 then[] else BBo n f kf pf R ds (plO perm f) u) (Vp n pf (TV n f kf pf R ds (plO perm f)) (ts.map (·.2))))(hL:Lt ds L)(hLm:∀ y,y∈L↔∃ z,Zc n ts.length vars rs z/\z.take f=y)(hl:L.length<4294967296):
  IxA w x f ds kf pf (BBx (Vp n pf (TV n f kf pf R ds (plO perm f)) (ts.map (·.2))) n f kf pf R ds (plO perm f)) (Vp n pf (TV n f kf pf R ds (plO perm f)) (ts.map (·.2))) L:=by
 have o:=hE.ixP (ds:=ds) (tot:=Vp n pf (TV n f kf pf R ds (plO perm f)) (ts.map (·.2))) (hE.fits hI) (ats:=ts.map (·.2)) (by rw[List.length_map]) hats rfl hL hLm
 exact⟨hTB,hV.congr λv D=>by grind [BBx],o,o.few hl,λv b C=>hE.htb C⟩
theorem CseV.rin{c:Cse}{ats:List Atm}{vA rA:Option Addr}(hV:IntssV w (.slice vA c.vs.length vc) c.vs)(hR:RowssV w (.slice rA c.rss.length rc) c.rss)(h:CseOk c ats): RInM w vA rA c.m c.vars c.crs:=by
 obtain⟨_,_,u,o,_,_,G,D⟩:=hV;injection o with o e2 e3
 subst o;subst e3;obtain⟨_,_,C,o,_,_,O,J⟩:=hR;injection o with o e2 e3
 subst o;subst e3;refine⟨⟨u,G,λi hi=>?_⟩,⟨C,?_,λi hi=>J i (by rw[<-h.len];exact hi)⟩⟩
 .rw[(h.vars hi).1];exact D i hi
 have:=h.len;grind [Cse.m]
end Go.Proofs.YtbcdghbonlifdaaGreatDoor
namespace Go.Proofs.YtbcdghbonlifdaaGreatDoor
open Pl Go.Wk
def nV(n:Int): V:=⟨1,n,⟨#[]⟩⟩
theorem Qsk{n:Int}(h:-9223372036854775808<=n/\n<=9223372036854775807): Xb (nV n):=⟨by show _<=(1:Int)/\(1:Int)<=_;omega,h⟩
open Go.RowKit Pl Go.Wk
attribute [local irreducible] WC WL QX WD WDB WP WN WG WH WM
variable {b:Nat}{w:World}
theorem Xvc(n:Int)(w:World): (Instr.build 118 #[(0,.int .i64 1),(1,.int .i64 n)]).run Tryz.prog w=.ok (nV n).val w:=kr
theorem Jhr{r:Row}(h:Blk w b 118 (Jh r))(hl:r.length<=1100000): RowV w (.slice (some ⟨b,0,none⟩) r.length r.length) r:=⟨some ⟨b,0,none⟩,r.length,rfl,Nat.le_refl _,hl,h.rd (Jgl r)⟩
theorem Qtl(ps:List Pr)(h:Blk w b 46 (ps.map (·.1)))(hr:∀ p∈ps,RowV w p.1 p.2)(hl:ps.length<=1100000): RowsV w (.slice (some ⟨b,0,none⟩) ps.length ps.length) (ps.map (·.2)):=⟨ps,some ⟨b,0,none⟩,ps.length,rfl,rfl,Nat.le_refl _,hl,h.rd (by simp),hr⟩
open Go.RowKit Pl Go.Wk
variable {L:List Row}{c i n:Nat}
theorem RowsV.one{w:World}{A:Option Addr}(h:RowsV w (.slice A n c) L)(hi:i<L.length): ∃(v:Value) (cs:List Value),Rd w 1 A n cs/\n=L.length/\cs[i]?=some v/\RowV w v (L.getD i []):=by
 obtain⟨D,o,e,_,_,cs,u,C⟩:=h.parts;grind
theorem getD_some(h:i<L.length): L[i]?=some (L.getD i []):=by grind
end Go.Proofs.YtbcdghbonlifdaaGreatDoor
namespace Go.Wk
open Go.RowKit Go.ChangeShapes Go.WideShapes
section
variable {H:Type} {enc:TypeId×Value->H} {P:Program} {w:World} {base:Nat} {spare:Nat->Bool} {held:Bool}
theorem rd_of{A:Option Addr}{sz len:Nat}{cs:List Value}{ad:Addr}(hA:A=some ad)(hl:cs.length=len*sz)(hc:∀ j u,cs[j]?=some u->w.cell? (ad.add j)=some u): Rd w sz A len cs :=
 ⟨hl,λh0=>⟨ad,hA,by
  have o:=hc 0 cs[0] (gE h0);rw[add_zero]at o;exact World.block_lt_of_cell? w ad o,hc⟩⟩
theorem Jwt{α:Type}(f:α->Value)(l:List α): l.flatMap (λz=>[f z])=l.map f:=by induction l<;>simp_all
end
end Go.Wk
namespace Go.Proofs.YtbcdghbonlifdaaGreatDoor
open Go.RowKit Pl Go.Wk Go.ChangeShapes Go.WideShapes
variable {cs:List Value}{e fuel i n t:Nat}{H α β:Type}
theorem Xwd(d:DataW H): 1<=Rows.uptoBulk d:=by
 cases d with
 | lit l=>cases l<;>simp[Rows.uptoBulk]
 | nil=>simp[Rows.uptoBulk]
 | ptr d=>simp[Rows.uptoBulk]
 | slice elems spare=>simp[Rows.uptoBulk]
 | agg parts=>simp[Rows.uptoBulk]
 | iface t d=>simp[Rows.uptoBulk]
 | map entries=>simp[Rows.uptoBulk]
 | held h=>simp[Rows.uptoBulk]
theorem Qyg{d:DataW H}{l:List (DataW H)}(h:d∈l): Rows.uptoBulk d<=Rows.uptoBulkAll l:=by
 induction l with
 | nil=>cases h
 | cons x r ih=>
  simp only[Rows.uptoBulkAll];grind
theorem Xwf(l:List (DataW H)): l.length<=Rows.uptoBulkAll l:=by
 induction l with
 | nil=>simp[Rows.uptoBulkAll]
 | cons x r ih=>have:=Xwd x;simp only[Rows.uptoBulkAll,List.length_cons];omega
section
variable {H:Type} {enc:TypeId×Value->H} {P:Program} {w:World} {base:Nat} {spare:Nat->Bool} {held:Bool} {B:Nat}
theorem Jjs{sz:Nat}{x:DataW H×List MemPlace}(X:α->List Value)(R:α->Prop)(ht:P.underlying t=some (.slice e))(hc:P.cellsOf e=sz)(hb:Rows.uptoBulk x.1<=B)(hX:∀(n:Nat) (cs':List Value) (y:DataW H×List MemPlace),DataW.trod enc P w base spare held n e cs'=some y->Rows.uptoBulk y.1<=B->∃ z:α,cs'=X z/\R z)(h:DataW.trod enc P w base spare held fuel t cs=some x): ∃(l:List α) (A:Option Addr) (cap:Nat),cs=[.slice A l.length cap]/\Rd w sz A l.length (l.flatMap X)/\(∀ z∈l,R z)/\l.length<=cap/\l.length<=B:=by
 rcases Go.Deep.open_slice ht h with⟨C,_⟩|⟨a,len,cap,m,n,D,Pl,C,_,hl,hm,hmm,hx,hel⟩
 .exact⟨[],none,0,C,Rd.nil,(λz J=>by cases J),Nat.le_refl _,Nat.zero_le _⟩
 subst C;subst hx;have a4:len<=m:=by grind
 have Z:Rows.uptoBulkAll ((List.range len).map D)<=B:=by
  simp only[Rows.uptoBulk]at hb;omega
 have a5:len<=B:=by
  have:=Xwf ((List.range len).map D);simp at this;omega
 have key:∀ k,k<=len->∃ l:List α,l.length=k/\(l.flatMap X).length=k*sz/\(∀ j u,(l.flatMap X)[j]?=some u->w.cell? (a.add j)=some u)/\∀ z∈l,R z:=by
  intro k;induction k with
  | zero=>intro _;exact⟨[],rfl,by simp,(λj u G=>by simp at G),(λz J=>by cases J)⟩
  | succ k ih=>
   intro hk;obtain⟨l,h1,h2,h3,h4⟩:=ih om;obtain⟨cs',o,O⟩:=hel k om;have a2:D k∈(List.range len).map D:=by grind
   obtain⟨z,rfl,J⟩:=hX n cs' _ O (nL (Qyg a2) Z);rw[hc]at o;obtain⟨_,a3,a1⟩:=World.cells?_some o;refine⟨l++[z],by simp[h1],?_,?_,?_⟩
   .grind
   .intro j u G;rw[List.flatMap_append]at G;simp only[List.flatMap_cons,List.flatMap_nil,List.append_nil]at G;rcases Nat.lt_or_ge j (k*sz) with hj|hj
    .grind
    rw[List.getElem?_append_right om,h2]at G;have hb:j-k*sz<sz:=by grind
    have:=a1 (j-k*sz) hb;rw[Jnp]at this;grind
   repeat grind
 obtain⟨l,h1,h2,h3,h4⟩:=key len (nR _);grind [rd_of]
end
section
variable {H:Type} {enc:TypeId×Value->H} {w:World} {base b0:Nat} {spare:Nat->Bool} {held:Bool}
theorem Qpz{y:DataW H×List MemPlace}(h:DataW.trod enc Tryz.prog w base spare held n 118 cs=some y): ∃ v:V,cs=v.cells/\Xb v:=by
 obtain⟨u,m,_,_,o,C,G⟩:=DataW.trod_struct Tryz.underlying118 h;have D:cs.length=3:=by rw[o];kernel_rfl
 have a1:u.length=3:=C;match cs,D with
 | [c0,c1,c2],_=>
  have O:DataW.trod enc Tryz.prog w base spare held m 3 (([c0,c1,c2].drop 0).take (Tryz.prog.cellsOf 3))=u[0]?:=G 0 _ rfl;have f1:DataW.trod enc Tryz.prog w base spare held m 2 (([c0,c1,c2].drop 1).take (Tryz.prog.cellsOf 2))=u[1]?:=G 1 _ rfl;have J:DataW.trod enc Tryz.prog w base spare held m 9 (([c0,c1,c2].drop 2).take (Tryz.prog.cellsOf 9))=u[2]?:=G 2 _ rfl;rw[show Tryz.prog.cellsOf 3=1 by kernel_rfl,List.getElem?_eq_getElem om]at O;rw[show Tryz.prog.cellsOf 2=1 by kernel_rfl,List.getElem?_eq_getElem om]at f1;rw[show Tryz.prog.cellsOf 9=1 by kernel_rfl,List.getElem?_eq_getElem om]at J;obtain⟨k,e0,_,wk⟩:=DataW.trod_int Tryz.underlying3 O;obtain⟨i,e1,_,wi⟩:=DataW.trod_int Tryz.underlying2 f1;obtain⟨s,Z,_,_⟩:=DataW.trod_string Tryz.underlying9 J;simp at e0 e1 Z;subst e0;subst e1;subst Z;exact⟨⟨k,i,s⟩,rfl,bounds_i64 wk,bounds_i64 wi⟩
def RowE(w:World)(v:Value)(r:Row): Prop:=RowV w v r/\∀ u∈r,Xb u
theorem Qrd{y:DataW H×List MemPlace}(h:DataW.trod enc Tryz.prog w base spare held n 46 cs=some y)(hb:Rows.uptoBulk y.1<=1048576): ∃ p:Pr,cs=[p.1]/\RowE w p.1 p.2:=by
 obtain⟨l,A,o,e,J,G,D,Z⟩:=Jjs (sz:=3) V.cells Xb Tryz.underlying46 kr hb (λn O y u _=>Qpz u) h;have C:l.length<=1100000:=om
 exact⟨(.slice A l.length o,l),e,⟨A,o,rfl,D,C,J⟩,G⟩
def Qcd(w:World)(v:Value)(ls:List Row): Prop:=RowsV w v ls/\∀ r∈ls,∀ u∈r,Xb u
theorem Qrc{y:DataW H×List MemPlace}(h:DataW.trod enc Tryz.prog w base spare held n 37 cs=some y)(hb:Rows.uptoBulk y.1<=1048576): ∃ p:Value×List Row,cs=[p.1]/\Qcd w p.1 p.2:=by
 obtain⟨ps,A,o,e,D,C,Z,h4⟩:=Jjs (sz:=1) (λp:Pr=>[p.1]) (λp=>RowE w p.1 p.2) Tryz.underlying37 kr hb (λn a1 y G hb=>Qrd G hb) h;rw[Jwt]at D;exact⟨(.slice A ps.length o,ps.map (·.2)),e,⟨ps,A,o,rfl,rfl,Z,om,D,λp hp=>(C p hp).1⟩,λr O u J=>by
  obtain⟨p,hp,rfl⟩:=List.mem_map.1 O;exact(C p hp).2 u J⟩
theorem Xxd(f:α->β)(l:List α)(a:α)(b:β)(h:i<l.length): (l.map f).getD i b=f (l.getD i a):=by grind
theorem Qrb{y:DataW H×List MemPlace}(h:DataW.trod enc Tryz.prog w base spare held n 63 cs=some y)(hb:Rows.uptoBulk y.1<=1048576):
  ∃(A:Option Addr) (c:Nat) (rss:List (List Row)),cs=[.slice A rss.length c]/\RowssV w (.slice A rss.length c) rss/\∀ i,i<rss.length->∀ r∈rss.getD i [],∀ u∈r,Xb u:=by
 obtain⟨ps,A,C,e,O,J,h3,h4⟩:=Jjs (sz:=1) (λp:Value×List Row=>[p.1]) (λp=>Qcd w p.1 p.2) Tryz.underlying63 kr hb (λn a1 y Z hb=>Qrc Z hb) h;rw[Jwt]at O;have D:(ps.map (·.2)).length=ps.length:=List.length_map _
 have G:∀ i,i<ps.length->(ps.map (·.2)).getD i []=(ps.getD i (.bool false,[])).2:=by grind
 refine⟨A,C,ps.map (·.2),by rw[D];exact e,⟨A,C,ps.map (·.1),rfl,om,om,by rw[D];exact O,λi hi=>?_⟩,λi hi=>?_⟩
 .have o:i<ps.length:=om
  rw[G i o];exact⟨(ps.getD i (.bool false,[])).1,by grind,(J _ (getD_mem' _ _ o)).1⟩
 have o:i<ps.length:=om
 rw[G i o];exact(J _ (getD_mem' _ _ o)).2
theorem Qql{y:DataW H×List MemPlace}(h:DataW.trod enc Tryz.prog w base spare held n 39 cs=some y)(hb:Rows.uptoBulk y.1<=1048576): ∃ p:Value×List Int,cs=[p.1]/\IntsV w p.1 p.2/\∃ A c,p.1=.slice A p.2.length c:=by
 obtain⟨l,A,o,e,u,Z,G,O⟩:=Jjs (sz:=1) (λz:Int=>[Value.int .i64 z]) (λ_=>True) Tryz.underlying39 kr hb (λn J y C _=>by obtain⟨z,e,_,_⟩:=DataW.trod_int Tryz.underlying3 C;exact⟨z,e,trivial⟩) h;rw[Jwt]at u;have D:l.length<=1100000:=om
 exact⟨(.slice A l.length o,l),e,⟨A,o,rfl,G,D,u⟩,A,o,rfl⟩
theorem Qrf{y:DataW H×List MemPlace}(h:DataW.trod enc Tryz.prog w base spare held n 62 cs=some y)(hb:Rows.uptoBulk y.1<=1048576):
  ∃(A:Option Addr) (c:Nat) (zss:List (List Int)),cs=[.slice A zss.length c]/\IntssV w (.slice A zss.length c) zss:=by
 obtain⟨ps,A,o,e,C,Z,O,J⟩:=Jjs (sz:=1) (λp:Value×List Int=>[p.1]) (λp=>IntsV w p.1 p.2) Tryz.underlying62 kr hb (λn G y D hb=>by obtain⟨p,e,hp,_⟩:=Qql D hb;exact⟨p,e,hp⟩) h;rw[Jwt]at C;have u:(ps.map (·.2)).length=ps.length:=List.length_map _
 refine⟨A,o,ps.map (·.2),by rw[u];exact e,⟨A,o,ps.map (·.1),rfl,om,om,by rw[u];exact C,λi hi=>?_⟩⟩
 grind
theorem Qrj{y:DataW H×List MemPlace}(h:DataW.trod enc Tryz.prog w base spare held n 28 cs=some y)(hb:Rows.uptoBulk y.1<=1048576): ∃(A:Option Addr) (c:Nat) (l:List Bool),cs=[.slice A l.length c]/\BoolsV w (.slice A l.length c) l:=by
 obtain⟨l,A,o,e,u,O,D,J⟩:=Jjs (sz:=1) (λz:Bool=>[Value.bool z]) (λ_=>True) Tryz.underlying28 kr hb (λn G y C _=>by obtain⟨z,e,_⟩:=DataW.trod_bool Tryz.underlying4 C;exact⟨z,e,trivial⟩) h;rw[Jwt]at u;exact⟨A,o,l,e,⟨A,o,rfl,D,om,u⟩⟩
set_option linter.constructorNameAsVariable false in
theorem Qrh{y:DataW H×List MemPlace}(h:DataW.trod enc Tryz.prog w base spare held n 65 cs=some y)(hb:Rows.uptoBulk y.1<=1048576): ∃ c:Cse,CseV w cs c/\∀ i,i<c.rss.length->∀ r∈c.rss.getD i [],∀ u∈r,Xb u:=by
 obtain⟨o,m,_,hx,D,Z,C⟩:=DataW.trod_struct Tryz.underlying65 h;have a1:cs.length=6:=by rw[D];kernel_rfl
 match cs,a1 with
 | [c0,c1,c2,c3,c4,c5],_=>
  have a2:o.length=6:=Z;subst hx;have O:∀ i (hi:i<o.length),Rows.uptoBulk o[i].1<=1048576:=λi hi=>by
   have h1:o[i].1∈o.map (·.1):=by grind
   have h2:=Qyg h1;simp only[Rows.uptoBulk]at hb;omega
  have f0:DataW.trod enc Tryz.prog w base spare held m 3 (([c0,c1,c2,c3,c4,c5].drop 0).take (Tryz.prog.cellsOf 3))=o[0]?:=C 0 _ rfl;have f1:DataW.trod enc Tryz.prog w base spare held m 3 (([c0,c1,c2,c3,c4,c5].drop 1).take (Tryz.prog.cellsOf 3))=o[1]?:=C 1 _ rfl;have f2:DataW.trod enc Tryz.prog w base spare held m 28 (([c0,c1,c2,c3,c4,c5].drop 2).take (Tryz.prog.cellsOf 28))=o[2]?:=C 2 _ rfl;have f3:DataW.trod enc Tryz.prog w base spare held m 39 (([c0,c1,c2,c3,c4,c5].drop 3).take (Tryz.prog.cellsOf 39))=o[3]?:=C 3 _ rfl;have f4:DataW.trod enc Tryz.prog w base spare held m 62 (([c0,c1,c2,c3,c4,c5].drop 4).take (Tryz.prog.cellsOf 62))=o[4]?:=C 4 _ rfl;have f5:DataW.trod enc Tryz.prog w base spare held m 63 (([c0,c1,c2,c3,c4,c5].drop 5).take (Tryz.prog.cellsOf 63))=o[5]?:=C 5 _ rfl;rw[show Tryz.prog.cellsOf 3=1 by kernel_rfl,List.getElem?_eq_getElem om]at f0 f1;rw[show Tryz.prog.cellsOf 28=1 by kernel_rfl,List.getElem?_eq_getElem om]at f2
  rw[show Tryz.prog.cellsOf 39=1 by kernel_rfl,List.getElem?_eq_getElem om]at f3;rw[show Tryz.prog.cellsOf 62=1 by kernel_rfl,List.getElem?_eq_getElem om]at f4;rw[show Tryz.prog.cellsOf 63=1 by kernel_rfl,List.getElem?_eq_getElem om]at f5;obtain⟨n,e0,_,w0⟩:=DataW.trod_int Tryz.underlying3 f0;obtain⟨f,e1,_,w1⟩:=DataW.trod_int Tryz.underlying3 f1;obtain⟨A2,k2,ds,e2,g2⟩:=Qrj f2 (O 2 om);obtain⟨⟨p3,pm⟩,e3,g3,A3,k3,J⟩:=Qql f3 (O 3 om);simp only at J g3 e3;subst J;obtain⟨A4,k4,vs,e4,g4⟩:=Qrf f4 (O 4 om);obtain⟨A5,k5,rss,e5,g5,G⟩:=Qrb f5 (O 5 om);simp at e0 e1 e2 e3 e4 e5;subst e0;subst e1;subst e2;subst e3;subst e4;subst e5;exact⟨⟨n,f,ds,pm,vs,rss⟩,⟨A2,k2,A3,k3,A4,k4,A5,k5,rfl,g2,g3,g4,g5,bounds_i64 w0,bounds_i64 w1⟩,G⟩
end
theorem gPow: Tryz.prog.globalNamed "internal/strconv.uint64pow10" = some 1:=kr
theorem gPowT: (Tryz.prog.globals[1]?).map (·.type)=some 316:=kr
theorem Qgr{W:World}(h:laidMetH Tryz.prog Rows.unionArrayUptoRow.laid W): TB W.heap.size W:=by
 refine⟨nR _,Lib.tabBelow_of_tabIs ?_⟩;have o:=h.filter (λx=>x.1 == "internal/strconv.uint64pow10");exact Lib.tabIs_of_head (rest:=[]) gPow gPowT Tryz.underlying316 Tryz.underlying50 kr kr o
def Jhz(d:DataW Unit): Obj->Obj
 | .cells _ t z=>.cells (match d with
  | .agg ps=>(ps.map fun
   | .lit (.int k z)=>Value.int k z
   | _=>Value.bool false).toArray
  | _=>#[]) t z
 | o=>o
end Go.Proofs.YtbcdghbonlifdaaGreatDoor
namespace Go.Wk
end Go.Wk
namespace Go.Proofs.YtbcdghbonlifdaaGreatDoor
open Go.RowKit Pl Go.Wk
attribute [local irreducible] WC WL QX WD WDB WP WN WG WH WM
theorem Qvh: ∀(a b:Row) (ds:List Bool) (l:Nat),Jw a b ds<=0->Jw (a.take l) (b.take l) ds<=0
 | _,_,_,0,_=>by simp[Jw]
 | [],[],_,_+1,_=>by simp[Jw]
 | [],_::_,_,_+1,_=>by simp[Jw]
 | _::_,[],_,_+1,h=>by simp[Jw]at h
 | x::a,y::b,ds,l+1,h=>by
  simp only[List.take_succ_cons,Jw]at h ⊢;by_cases e:cmpV x y=0
  .rw[if_pos e]at h ⊢;exact Qvh a b _ l h
  repeat grind
theorem Qtj{ds:List Bool}{L:List Row}(h:Lt ds L){i j:Nat}(hij:i<j)(hj:j<L.length): Jw (L.getD i []) (L.getD j []) ds<0:=by
 have hi:i<L.length:=om
 have:=List.pairwise_iff_getElem.1 h i j hi hj hij;grind
open Go.RowKit Pl Go.Wk
theorem Xqq{bs:List BkT}{B:Nat}(h:∀ b∈bs,b.2.ht<=B): hmB bs<=B:=by
 have key:∀(l:List BkT) (m:Nat),m<=B->(∀ b∈l,b.2.ht<=B)->l.foldl (λm b=>max m b.2.ht) m<=B:=by
  intro l;induction l with
  | nil=>intro m o _;exact o
  | cons b l ih=>intro m o u;exact ih _ (Nat.max_le.2 ⟨o,u b mC⟩) λc C=>u c (List.mem_cons_of_mem _ C)
 exact key bs 0 (Nat.zero_le _) h
open Go.RowKit Pl Go.Wk
def CuV(w:World)(x cu:Value)(p st:Nat): Prop:=∃(A1 A2 A3 A4 A5:Option Addr) (n1 n2 n3 n4 n5 c1 c2 c3 c4 c5:Nat) (pv:Value),x=.agg #[.slice A1 n1 c1,.slice A2 n2 c2,.slice A3 n3 c3,.slice A4 n4 c4,.slice A5 n5 c5]/\cu=.agg #[.slice A1 n1 c1,.slice A2 n2 c2,.slice A3 n3 c3,.slice A4 n4 c4,.slice A5 n5 c5,pv,.int .i64 (st:Int)]/\NatV w pv p
theorem CuV.ext{w w':World}{x cu:Value}{p st:Nat}(h:CuV w x cu p st)(hx:Ext w w'): CuV w' x cu p st:=by
 obtain⟨A1,A2,A3,A4,A5,G,D,C,u,o,c1,c2,c3,c4,c5,pv,Z,O,J⟩:=h;exact⟨A1,A2,A3,A4,A5,G,D,C,u,o,c1,c2,c3,c4,c5,pv,Z,O,J.ext hx⟩
theorem Qlt{w:World}{A:Option Addr}{r:Row}{b t:Nat}{cs:List Value}(hR:RdR w A r)(hB:Blk w b t cs)(hs:∀ u∈cs,∀ s,u≠.string s): Off (λk=>k=b) w λu=>RdR u A r:=Ic hR λh0 C e (e2:C.block=b)=>by
 obtain⟨Z,D,J,o⟩:=hR.2 h0;rw[e]at D;injection D with D
 subst D;cases r with
 | nil=>simp[Jh]at h0
 | cons v r=>
  have G:w.cell? (C.add 2)=some (.string v.str):=o 2 _ rfl;have h3:=World.cell?_spot G;have h4:(C.add 2).block=b:=by grind [Ya]
  have O:C.add 2=⟨b,(C.add 2).off,none⟩:=by
   generalize hq:C.add 2=q at *
   obtain⟨qb,qo,qs⟩:=q;grind
  rw[O,hB.cell]at G;grind
section
variable {w:World} {x cu:Value} {f:Nat} {ds:List Bool} {kf:Nat->Nat} {pf:Nat->Int} {BB:Nat->List BkT} {tot:Nat} {L:List Row} {p st:Nat}
end
end Go.Proofs.YtbcdghbonlifdaaGreatDoor
namespace Go.Wk
open Go.RowKit
variable {ds:List Nat}{l:List Oper}{b d i k t:Nat}{T:Nat->Bool}{v:Value}{w w' w0:World}
structure SF where
 p: Value->World->Prop
 st:∀ {v:Value} {w w':World},p v w->Ext w w'->p v w'
def SF.bk{cs:List Value}(h:Blk w b t cs): SF:=⟨λv _=>v=.agg cs.toArray,λh _=>h⟩
def SF.eq(c:Value): SF:=⟨λv _=>v=c,λh _=>h⟩
def Jzh(o:Oper)(k:Nat): Bool:=o.after.any λe=>Region.binds .any e && e.on == k
def accB(l:List Oper): Bool:=(List.range l.length).all λi=>match nth l i with
 | some o=>o.after.all λe=>!Region.binds .any e || Nat.blt e.on i
 | none=>true
def slM(vs:Nat->Value)(al:AL): List Nat->Nat->AL
 | [],_=>al
 | d::r,i=>(d,vs i)::slM vs al r (i+1)
theorem Jqb{vs:Nat->Value}{al:AL}{t:Nat}: ∀ {ds:List Nat} {i:Nat},t ∉ ds->lk (slM vs al ds i) t=lk al t
 | [],_,_=>rfl
 | d::r,i,h=>by
  unfold slM;rw[Gz _ _ (λe=>h (by grind))];exact Jqb λh'=>h (List.mem_cons_of_mem _ h')
theorem Kh{vs:Nat->Value}{al:AL}: ∀ {ds:List Nat} {i j:Nat},ds.Nodup->j<ds.length->lk (slM vs al ds i) (ds.getD j 0)=some (vs (i+j))
 | [],_,_,_,h=>by simp at h
 | d::r,i,0,_,_=>by unfold slM;simp[Jqc]
 | d::r,i,j+1,hn,hj=>by
  have hn':=List.nodup_cons.1 hn;have hj':j<r.length:=by simpa using hj
  unfold slM;have e:(d::r).getD (j+1) 0=r.getD j 0:=by simp
  rw[e];have hm:r.getD j 0∈r:=by grind
  rw[Gz _ _ (λe=>hn'.1 (by rw[e];exact hm)),Kh hn'.2 hj'];congr 2;omega
theorem Jwc(h:t∈ds): ∃ j,j<ds.length/\ds.getD j 0=t:=by
 obtain⟨j,o,e⟩:=List.getElem_of_mem h;exact⟨j,o,by grind⟩
section
variable {P:Program} {n:Nat} {al:AL} {w:World} {Q:Exit->Act->World->Prop} {ops:Array Oper}
def toM(G:Act->World->Prop): Exit->Act->World->Prop
 | .normal,a,w=>G a w
 | _,_,_=>False
theorem Jdt{o:Oper}{G:Act->World->Prop}(ho:ops[i]?=some o)(h:WL P n ops (toM G) [o] al w): ∀ a,Fr n al a->wpOp P ops (QF Q) i G a w:=λa D=>by
 have u:=h a D;unfold wpList at u;unfold wpOp;simp only[ho];have C:¬ LetsOut (toM G):=by rintro⟨a,w,h⟩;exact h
 split
 .rename_i hw;simp only[hw,if_true]at u;rcases u with u|⟨_,u⟩
  .left
   refine Oper.wp_mono (K:=wpList P ops (toM G) []) (λO w' J=>J) ?_;unfold Oper.wp at u ⊢;grind [Yl,toM]
  exact absurd u C
 rename_i hw;simp only[hw]at u;exact u
def PM(n:Nat)(al:AL)(w:World)(d:Nat)(F:SF)(a:Act)(w':World): Prop:=∃ v,Fr n ((d,v)::al) a/\Ext w w'/\F.p v w'
theorem Xo{F:SF}(hx:Ext w w')(h:F.p v w'): QX n (toM (PM n al w d F)) .normal ((d,v)::al) w':=λa o=>⟨v,o,hx,h⟩
def fiM(Fs:List SF)(k:Nat)(v:Value)(w:World): Prop:=(Fs.getD k ⟨λ_ _=>True,λ_ _=>trivial⟩).p v w
theorem fiM.ext{Fs:List SF}{w:World}(h:fiM Fs k v w)(hx:Ext w w'): fiM Fs k v w':=SF.st _ h hx
def OpM(P:Program)(n:Nat)(ops:Array Oper)(al:AL)(w0:World)(ds:List Nat)(Fs:List SF)(i:Nat)(o:Oper): Prop :=
 ∀ vs w1,Ext w0 w1->(∀ k,Jzh o k=true->fiM Fs k (vs k) w1)->WL P n ops (toM (PM n (slM vs al ds 0) w1 (ds.getD i 0) (Fs.getD i ⟨λ_ _=>True,λ_ _=>trivial⟩))) [o] (slM vs al ds 0) w1
def GoM(P:Program)(n:Nat)(ops:Array Oper)(al:AL)(w0:World)(ds:List Nat)(Fs:List SF): Nat->Nat->List Oper->Prop
 | 0,_,_=>True
 | _+1,_,[]=>True
 | m+1,i,o::r=>OpM P n ops al w0 ds Fs i o/\GoM P n ops al w0 ds Fs m (i+1) r
theorem GoM.get{w0:World}{ds:List Nat}{Fs:List SF}: ∀ {l:List Oper} {m s i:Nat} {o:Oper},GoM P n ops al w0 ds Fs m s l->i<m->l[i]?=some o->OpM P n ops al w0 ds Fs (s+i) o
 | [],_,_,_,_,_,_,h=>by simp at h
 | x::r,0,_,_,_,_,h0,_=>by omega
 | x::r,m+1,s,0,o,h,_,e=>by
  simp only[List.getElem?_cons_zero,Option.some.injEq]at e;subst e;exact h.1
 | x::r,m+1,s,i+1,o,h,h0,e=>by
  have:=GoM.get h.2 (by omega:i<m) (by simpa using e);grind
def ndB: List Nat->Bool
 | []=>true
 | d::r=>!(r.any λx=>Nat.beq d x) && ndB r
theorem Jxr: ∀ {ds:List Nat},ndB ds=true->ds.Nodup
 | [],_=>List.nodup_nil
 | d::r,h=>by
  simp only[ndB,Bool.and_eq_true,Bool.not_eq_true']at h;refine List.nodup_cons.2 ⟨λhm=>?_,Jxr h.2⟩;have:=List.any_eq_false.1 h.1 d hm;simp at this
def behB(ops:Array Oper)(F m q:Nat): Bool:=(List.range ops.size).all λi=>Nat.blt i m || (List.range m).all λj=>Nat.beq j q || Yu ops F i j
theorem Qxn(m k i:Nat): (lst m k)[i]?=if i<m then some (Nat.blt i k) else none:=by grind [lst]
theorem Qdd{m q F fuel':Nat}{Fs:List SF}(hml:m<=l.length)(hacc:accB l=true)(hbeh:behB l.toArray F m q=true)(hnd:ndB ds=true)(hlen:ds.length=m)(hfree:∀ d∈ds,lk al d=none)(hop:GoM P n l.toArray al w0 ds Fs m 0 l)(Vf:∀ vs w1,Ext w0 w1->(∀ k,k<m->fiM Fs k (vs k) w1)->WH P n l.toArray Q T fuel' (lst l.length m) (slM vs al ds 0) w1)(hend2:q<m->∀ vs w1,Ext w0 w1->(∀ k,k<m->k≠q->fiM Fs k (vs k) w1)->WH P n l.toArray Q T (fuel'+1) ((lst l.length m).setIfInBounds q false) (slM vs al ds 0) w1):
  ∀(us:List Nat) (listed:Array Bool) (a:Act) (w:World),us.Nodup->(∀ k,k<m->(listed.getD k true=false↔k∈us))->(∀ k,m<=k->k<l.length->listed.getD k true=false)->(∀ k∈us,k<m)->listed.size=l.length->Closed l.toArray listed->Fr n al a->Ext w0 w ->
   (∀ k,k<m->k ∉ us->fiM Fs k (a.tmps.getD (ds.getD k 0) undef) w)->Vx P l.toArray Q T (us.length+fuel') listed a w:=by
 have hN:=Jxr hnd;have G:∀ a:Act,Fr n al a->Fr n (slM (λj=>a.tmps.getD (ds.getD j 0) undef) al ds 0) a:=λa ha=>⟨ha.size,ha.defers,λt v h=>by
  by_cases hm:t∈ds
  .obtain⟨j,hj,e⟩:=Jwc hm;rw[<-e,Kh hN hj]at h;grind
  rw[Jqb hm]at h;exact ha.has t v h⟩
 intro us;generalize hL:us.length=L
 induction L generalizing us with
 | zero=>
  intro listed a w hu O a4 a1 aa Z ha hx hf;have ad:us=[]:=List.length_eq_zero_iff.1 hL;subst ad;have e:listed=lst l.length m:=by
   refine Array.ext_getElem? λi=>?_;rw[Qxn];by_cases hi:i<l.length
   .rw[if_pos hi];have D:i<listed.size:=om
    by_cases a3:i<m
    .have J:=O i a3;have C:listed.getD i true=true:=by grind
     simp[D]at C;simp[D,C,Nat.blt];omega
    have C:=a4 i om hi;simp[D]at C;have h3:Nat.blt i m=false:=by
     cases hh:Nat.blt i m with
     | false=>rfl
     | true=>exact absurd (show i+1<=m by simpa [Nat.blt] using hh) om
    simp[D,C,h3]
   repeat grind
  rw[Nat.zero_add,e];rw[e]at Z;exact Vf _ w hx (λk hk=>hf k hk (by simp)) Z a (G a ha)
 | succ L ih=>
  intro listed a w hu O a4 a1 aa Z ha hx hf;rw[show L+1+fuel'=(L+fuel')+1 by omega];have a7:us≠[]:=by grind
  by_cases hq:us=[q]
  .have ab:q<m:=a1 q (by rw[hq];simp);have ak:L=0:=by grind
   have e:listed=(lst l.length m).setIfInBounds q false:=by
    refine Array.ext_getElem? λi=>?_;by_cases hqi:q=i
    .subst hqi;have J:=(O q ab).2 (by rw[hq];simp);have C:q<listed.size:=om
     simp[C]at J;grind [lst]
    rw[Array.getElem?_setIfInBounds_ne hqi,Qxn];by_cases hi:i<l.length
    .rw[if_pos hi];have D:i<listed.size:=om
     by_cases a3:i<m
     .have J:=O i a3;have C:listed.getD i true=true:=by grind
      simp[D]at C;simp[D,C,Nat.blt];omega
     have C:=a4 i om hi;simp[D]at C;have h3:Nat.blt i m=false:=by
      cases hh:Nat.blt i m with
      | false=>rfl
      | true=>exact absurd (show i+1<=m by simpa [Nat.blt] using hh) om
     simp[D,C,h3]
    repeat grind
   rw[ak,e,show 0+fuel'+1=fuel'+1 by omega];rw[e]at Z;exact hend2 ab _ w hx (λk hk av=>hf k hk (by grind)) Z a (G a ha)
  obtain⟨k0,ah,ao⟩:∃ k,k∈us/\k≠q:=by
   refine Classical.byContradiction λau=>?_;have G:∀ k∈us,k=q:=by grind
   apply hq
   match us,hu,a7,G with
   | [x],_,_,h=>rw[h x (by simp)]
   | x::y::r,hu,_,h=>
    have J:=h x (by simp);have C:=h y (by simp);grind
  refine⟨λhr=>?_,λi hi=>?_⟩
  .exfalso
   obtain⟨k,hk,an⟩:∃ k,k∈us/\∀ j,j<k->j ∉ us:=by
    have:∀ s k,k∈us->k<s->∃ k,k∈us/\∀ j,j<k->j ∉ us:=by
     intro s;induction s with
     | zero=>intro k _ h;omega
     | succ s ihs=>
      grind
    grind
   have a8:=a1 k hk;have ag:=(O k a8).2 hk;have a9:k<l.length:=om
   have ar:k∈Region.ready .any l.toArray listed:=by
    refine mem_ready.2 ⟨ag,l[k],by simp[a9],λe he hb=>?_⟩;have J:=List.all_eq_true.1 hacc k (List.mem_range.2 a9);have hn:nth l k=some l[k]:=by rw[Xw];simp[a9]
    rw[hn]at J;simp only[Array.all_eq_true_iff_forall_mem,Bool.or_eq_true,Bool.not_eq_true']at J;have C:=(J e he).resolve_left (by rw[hb];simp);have h3:e.on<k:=by(have:e.on+1<=k:=by simpa [Nat.blt] using C);(omega)
    grind
   grind
  obtain⟨ae,o,ho,ap⟩:=mem_ready.1 hi;have ac:l[i]?=some o:=by simpa using ho
  have ai:i<l.length:=by grind
  have a5:i<m:=by
   rcases Nat.lt_or_ge i m with h|h
   .exact h
   exfalso
   have J:=List.all_eq_true.1 hbeh i (List.mem_range.2 (by simpa using ai));simp only[Bool.or_eq_true]at J;have C:=J.resolve_left (by
    intro hh;have:i+1<=m:=by simpa [Nat.blt] using hh
    omega)
   have am:=List.all_eq_true.1 C k0 (List.mem_range.2 (a1 k0 ah));simp only[Bool.or_eq_true]at am;grind [Nat.eq_of_beq_eq_true,Jjm,Jjl]
  have a3:=(O i a5).1 ae;have hO:=GoM.get hop a5 ac;rw[Nat.zero_add]at hO;have hW:=hO (λj=>a.tmps.getD (ds.getD j 0) undef) w hx λk hk=>by
   unfold Jzh at hk;grind
  have J:=Jdt (Q:=Q) (ops:=l.toArray) (by simpa using ac) hW a (G a ha);refine wpOp_mono (λa' w' h=>?_) J;obtain⟨v,a2,a6,hF⟩:=h;have aj:lk ((ds.getD i 0,v)::slM (λj=>a.tmps.getD (ds.getD j 0) undef) al ds 0) (ds.getD i 0)=some v:=Jqc _ _ _;have ax:ds.getD i 0∈ds:=by grind
  refine⟨λ_=>a6,ih (us.erase i) (by grind) _ a' w' (hu.erase i) (λk a8=>?_) (λk J C=>?_) (λk hk=>a1 k (hu.mem_erase_iff.1 hk).2) (by simp[aa]) (Z.step hi) ?_ (hx.trans a6) λk hk aw=>?_⟩
  .by_cases e:i=k
   .subst e;have:i<listed.size:=om
    simp only[hu.mem_erase_iff];simp[this]
   rw[getD_set_ne true e,O k a8,hu.mem_erase_iff];grind
  .rw[getD_set_ne true om];exact a4 k J C
  .refine⟨a2.size,a2.defers,λt u aq=>?_⟩;have hm:t ∉ ds:=by grind
   exact a2.has t u (by grind [Gz,Jqb])
  by_cases e:k=i
  .subst e;rw[a2.has _ _ aj];exact hF
  have af:k ∉ us:=by grind
  have a7:ds.getD i 0≠ds.getD k 0:=λh=>by
   have J:=Kh (vs:=λj=>Value.int .i64 (j:Int)) (al:=[]) (i:=0) hN (j:=i) om;have C:=Kh (vs:=λj=>Value.int .i64 (j:Int)) (al:=[]) (i:=0) hN (j:=k) om;grind
  have h3:=a2.has (ds.getD k 0) _ (by rw[Gz _ _ a7];exact Kh hN om);simp only[Nat.zero_add]at h3;rw[h3];exact(hf k hk af).ext a6
theorem hmkq(m q F fuel':Nat)(ds:List Nat)(Fs:List SF)(hc:(accB l && behB l.toArray F m q && ndB ds && Nat.beq ds.length m && Nat.beq (m+fuel') l.length)=true)(hfree:(ds.all λd=>(lk al d).isNone)=true)(hop:GoM P n l.toArray al w ds Fs m 0 l)(Vf:∀ vs w1,Ext w w1->(∀ k,(hk:k<m:=by decide)->fiM Fs k (vs k) w1)->WH P n l.toArray Q T fuel' (lst l.length m) (slM vs al ds 0) w1)(hend2:q<m->∀ vs w1,Ext w w1->(∀ k,(hk:k<m:=by decide)->(hq:k≠q:=by decide)->fiM Fs k (vs k) w1)->WH P n l.toArray Q T (fuel'+1) ((lst l.length m).setIfInBounds q false) (slM vs al ds 0) w1): WH P n l.toArray Q T l.toArray.size (Array.replicate l.toArray.size false) al w:=λu a G=>by
 simp only[Bool.and_eq_true]at hc;obtain⟨⟨⟨⟨h2,h3⟩,Z⟩,O⟩,J⟩:=hc;have D:ds.length=m:=Nat.eq_of_beq_eq_true O;have C:m+fuel'=l.length:=Nat.eq_of_beq_eq_true J;have:=Qdd (Q:=Q) (T:=T) (F:=F) (q:=q) (fuel':=fuel') om h2 h3 Z D (λd hd=>by simpa using List.all_eq_true.1 hfree d hd) hop Vf hend2 (List.range m) (Array.replicate l.length false) a w List.nodup_range (λk hk=>?_) (λk _ h=>by simp[h]) (λk hk=>List.mem_range.1 hk) (by simp) (by simpa using u) G (Ext.refl w) λk hk o=>absurd (List.mem_range.2 hk) o
 .grind
 have:k<l.length:=om
 simp[this,hk]
theorem hmk(m F fuel':Nat)(ds:List Nat)(Fs:List SF)(hc:(accB l && behB l.toArray F m m && ndB ds && Nat.beq ds.length m && Nat.beq (m+fuel') l.length)=true)(hfree:(ds.all λd=>(lk al d).isNone)=true)(hop:GoM P n l.toArray al w ds Fs m 0 l)(Vf:∀ vs w1,Ext w w1->(∀ k,(hk:k<m:=by decide)->fiM Fs k (vs k) w1)->WH P n l.toArray Q T fuel' (lst l.length m) (slM vs al ds 0) w1): WH P n l.toArray Q T l.toArray.size (Array.replicate l.toArray.size false) al w :=
 hmkq m m F fuel' ds Fs hc hfree hop Vf λh=>absurd h (Nat.lt_irrefl m)
end
end Go.Wk
namespace Go.Wk
open Go.RowKit
variable {ds r us:List Nat}{l:List Oper}{Fs:List SF}{fuel i j k:Nat}{w0:World}
section
variable {P:Program} {n:Nat} {al:AL} {w:World} {Q:Exit->Act->World->Prop} {ops:Array Oper}
def stgB(l:List Oper)(F:Nat)(st st':Array Bool)(us:List Nat): Bool :=
 Nat.beq st.size l.length && Nat.beq st'.size l.length && ndB us && (us.all λk=>Nat.blt k l.length && !(st.getD k true)) &&
 (us.all λi=>match nth l i with
  | some o=>o.after.all λe=>!Region.binds .any e || (Nat.blt e.on l.length && st.getD e.on true) || (us.any (λj=>Nat.beq j e.on) && Nat.blt e.on i)
  | none=>false) &&
 ((List.range l.length).all λi=>st.getD i true || us.any (λj=>Nat.beq j i) || us.all λj=>Yu l.toArray F i j) &&
 ((List.range l.length).all λi=>st'.getD i true == (st.getD i true || us.any λj=>Nat.beq j i))
def OpS(P:Program)(n:Nat)(ops:Array Oper)(al:AL)(w0:World)(us ds:List Nat)(Fs:List SF)(i:Nat)(o:Oper): Prop :=
 ∀ vs w1,Ext w0 w1->(∀ j,j<us.length->Jzh o (us.getD j 0)=true->fiM Fs j (vs j) w1)->WL P n ops (toM (PM n (slM vs al ds 0) w1 (ds.getD i 0) (Fs.getD i ⟨λ_ _=>True,λ_ _=>trivial⟩))) [o] (slM vs al ds 0) w1
def GoS(P:Program)(n:Nat)(l:List Oper)(al:AL)(w0:World)(us ds:List Nat)(Fs:List SF): Nat->List Nat->Prop
 | _,[]=>True
 | i,k::r=>(∀ o,nth l k=some o->OpS P n l.toArray al w0 us ds Fs i o)/\GoS P n l al w0 us ds Fs (i+1) r
theorem GoS.get{w0:World}{l:List Oper}{us ds:List Nat}{Fs:List SF}: ∀ {r:List Nat} {s i:Nat} {o:Oper},GoS P n l al w0 us ds Fs s r->i<r.length->nth l (r.getD i 0)=some o->OpS P n l.toArray al w0 us ds Fs (s+i) o
 | [],_,_,_,_,h,_=>by simp at h
 | x::r,s,0,o,h,_,e=>h.1 o e
 | x::r,s,i+1,o,h,h0,e=>by
  have:=GoS.get h.2 (by simpa using h0:i<r.length) (by simpa using e);rwa [show s+(i+1)=s+1+i by omega]
theorem gsc{o:Oper}(h:∀ vs w1,Ext w0 w1->(∀ j,(hj:j<us.length:=by decide)->(hk:Jzh o (us.getD j 0)=true:=by kernel_rfl)->fiM Fs j (vs j) w1)->WL P n l.toArray (toM (PM n (slM vs al ds 0) w1 (ds.getD i 0) (Fs.getD i ⟨λ_ _=>True,λ_ _=>trivial⟩))) [o] (slM vs al ds 0) w1)(h2:GoS P n l al w0 us ds Fs (i+1) r)(ho:nth l k=some o:=by rfl): GoS P n l al w0 us ds Fs i (k::r):=⟨λC u=>by rw[ho]at u;injection u with u;subst u;exact h,h2⟩
theorem gse: GoS P n l al w0 us ds Fs i []:=trivial
theorem Jkw(h:us.Nodup)(hi:i<us.length)(hj:j<us.length)(e:us.getD i 0=us.getD j 0): i=j:=by grind [List.getElem?_eq_getElem,List.pairwise_iff_getElem.1,Nat.lt_trichotomy]
theorem hmkS{T:Nat->Bool}(F fuel':Nat)(st st':Array Bool)(us ds:List Nat)(Fs:List SF)(hc:(stgB l F st st' us && ndB ds && Nat.beq ds.length us.length && Nat.beq (us.length+fuel') fuel)=true)(hfree:(ds.all λd=>(lk al d).isNone)=true)(hop:GoS P n l al w us ds Fs 0 us)(Vf:∀ vs w1,Ext w w1->(∀ j,(hj:j<us.length:=by decide)->fiM Fs j (vs j) w1)->WH P n l.toArray Q T fuel' st' (slM vs al ds 0) w1): WH P n l.toArray Q T fuel st al w:=λa3 a ha=>by
 simp only[Bool.and_eq_true]at hc;obtain⟨⟨⟨h0,h4⟩,h5⟩,h6⟩:=hc;unfold stgB at h0;simp only[Bool.and_eq_true]at h0;obtain⟨⟨⟨⟨⟨⟨c1,c2⟩,c3⟩,c4⟩,c5⟩,c6⟩,c7⟩:=h0;have ap:st.size=l.length:=Nat.eq_of_beq_eq_true c1;have b3:st'.size=l.length:=Nat.eq_of_beq_eq_true c2;have hU:=Jxr c3;have hN:=Jxr h4;have hl:ds.length=us.length:=Nat.eq_of_beq_eq_true h5;have ay:us.length+fuel'=fuel:=Nat.eq_of_beq_eq_true h6;have b1:∀ d∈ds,lk al d=none:=λd hd=>by simpa using List.all_eq_true.1 hfree d hd
 have a2:∀ j,j<us.length->us.getD j 0<l.length/\st.getD (us.getD j 0) true=false:=λj hj=>by
  have Z:us.getD j 0∈us:=by rw[List.getD_eq_getElem?_getD,List.getElem?_eq_getElem hj];exact List.getElem_mem _
  have:=List.all_eq_true.1 c4 _ Z;simp only[Bool.and_eq_true,Bool.not_eq_true']at this;exact⟨by(have h:us.getD j 0+1<=l.length:=by simpa [Nat.blt] using this.1);omega,this.2⟩
 have a6:∀ k,(us.any λj=>Nat.beq j k)=true->∃ j,j<us.length/\us.getD j 0=k:=λk hk=>by
  rw[List.any_eq_true]at hk;obtain⟨u,hu,e⟩:=hk;have e:=Nat.eq_of_beq_eq_true e;subst e;exact Jwc hu
 have a8:∀ a:Act,Fr n al a->Fr n (slM (λj=>a.tmps.getD (ds.getD j 0) undef) al ds 0) a:=λa ha=>⟨ha.size,ha.defers,λt v h=>by
  by_cases Z:t∈ds
  .obtain⟨j,hj,e⟩:=Jwc Z;rw[<-e,Kh hN hj]at h;simp only[Nat.zero_add,Option.some.injEq]at h;rw[<-e];exact h
  rw[Jqb Z]at h;exact ha.has t v h⟩
 suffices key:∀(L:Nat) (ps:List Nat) (C:Array Bool) (a:Act) (w1:World),ps.length=L->ps.Nodup->(∀ j∈ps,j<us.length)->(∀ j,j<us.length->(C.getD (us.getD j 0) true=false↔j∈ps))->(∀ k,k<l.length->(∀ j,j<us.length->us.getD j 0≠k)->C.getD k true=st.getD k true)->C.size=l.length->Closed l.toArray C->Fr n al a->Ext w w1 ->
   (∀ j,j<us.length->j ∉ ps->fiM Fs j (a.tmps.getD (ds.getD j 0) undef) w1)->Vx P l.toArray Q T (L+fuel') C a w1 by
  have:=key us.length (List.range us.length) st a w List.length_range List.nodup_range (λj hj=>List.mem_range.1 hj) (λj hj=>⟨λ_=>List.mem_range.2 hj,λ_=>(a2 j hj).2⟩) (λk _ _=>rfl) ap a3 ha (Ext.refl w) λj hj h=>absurd (List.mem_range.2 hj) h;rwa [ay]at this
 intro L;induction L with
 | zero=>
  intro ps C a w1 hL hu a4 J a7 ae a3 ha hx hf;have ai:ps=[]:=List.length_eq_zero_iff.1 hL;subst ai;have e:C=st':=by
   refine Array.ext_getElem? λi=>?_;by_cases hi:i<l.length
   .have h7:=List.all_eq_true.1 c7 i (List.mem_range.2 hi);rw[beq_iff_eq]at h7;have h8:C.getD i true=st'.getD i true:=by
     rw[h7];by_cases Z:∃ j,j<us.length/\us.getD j 0=i
     .obtain⟨j,hj,e⟩:=Z;have D:=J j hj;rw[e]at D;have G:C.getD i true=true:=by
       cases hh:C.getD i true with
       | true=>rfl
       | false=>exact absurd (D.1 hh) (by simp)
      rw[G];symm
      rw[Bool.or_eq_true];right
      rw[List.any_eq_true];refine⟨us.getD j 0,?_,by rw[e];simp⟩;rw[List.getD_eq_getElem?_getD,List.getElem?_eq_getElem hj];exact List.getElem_mem _
     have D:∀ j,j<us.length->us.getD j 0≠i:=λj hj e=>Z ⟨j,hj,e⟩;rw[a7 i hi D];have G:(us.any λj=>Nat.beq j i)=false:=by
      cases hh:us.any λj=>Nat.beq j i with
      | false=>rfl
      | true=>exact absurd (a6 i hh) Z
     rw[G,Bool.or_false]
    have h9:i<C.size:=om
    have ao:i<st'.size:=om
    simp[h9,ao]at h8;simp[h9,ao,h8]
   rw[Array.getElem?_eq_none om,Array.getElem?_eq_none om]
  rw[Nat.zero_add,e];rw[e]at a3;exact Vf _ w1 hx (λj hj=>hf j hj (by simp)) a3 a (a8 a ha)
 | succ L ih=>
  intro ps C a w1 hL hu a4 J a7 ae a3 ha hx hf;rw[show L+1+fuel'=(L+fuel')+1 by omega];have ad:ps≠[]:=λe=>by rw[e]at hL;cases hL
  obtain⟨p0,a5⟩:∃ p,p∈ps:=by
   cases ps with
   | nil=>exact absurd rfl ad
   | cons p r=>exact⟨p,List.mem_cons_self⟩
  refine⟨λhr=>?_,λi hi=>?_⟩
  .exfalso
   obtain⟨p,hp,aj⟩:∃ p,p∈ps/\∀ q∈ps,us.getD p 0<=us.getD q 0:=by
    have:∀ s p,p∈ps->us.getD p 0<s->∃ p,p∈ps/\∀ q∈ps,us.getD p 0<=us.getD q 0:=by
     intro s;induction s with
     | zero=>intro p _ h;omega
     | succ s ihs=>
      intro p hp ag;by_cases h:∃ q,q∈ps/\us.getD q 0<us.getD p 0
      .obtain⟨q,hq,b4⟩:=h;exact ihs q hq om
      exact⟨p,hp,λq hq=>by
       rcases Nat.lt_or_ge (us.getD q 0) (us.getD p 0) with h'|h'
       .exact absurd ⟨q,hq,h'⟩ h
       exact h'⟩
    exact this (us.getD p0 0+1) p0 a5 om
   have O:=a4 p hp;obtain⟨b5,_⟩:=a2 p O;have au:=(J p O).2 hp;have af:us.getD p 0∈Region.ready .any l.toArray C:=by
    refine mem_ready.2 ⟨au,l[us.getD p 0],by simp,λe he hb=>?_⟩;have Z:us.getD p 0∈us:=by rw[List.getD_eq_getElem?_getD,List.getElem?_eq_getElem O];exact List.getElem_mem _
    have D:=List.all_eq_true.1 c5 _ Z;have hn:nth l (us.getD p 0)=some l[us.getD p 0]:=by rw[Xw];simp
    rw[hn]at D;simp only[Array.all_eq_true_iff_forall_mem,Bool.or_eq_true,Bool.not_eq_true',Bool.and_eq_true]at D;have G:=D e he;rw[hb]at G;have h5:C.getD e.on true=true/\e.on<C.size:=by
     rcases G with(G|⟨h3,G⟩)|⟨G,h3⟩
     .cases G
     .have an:e.on<l.length:=by(have:e.on+1<=l.length:=by simpa [Nat.blt] using h3);omega
      refine⟨?_,om⟩;by_cases hm2:∃ j,j<us.length/\us.getD j 0=e.on
      .obtain⟨j,hj,e2⟩:=hm2;have:=(a2 j hj).2;rw[e2,G]at this;cases this
      rw[a7 _ an λj hj e2=>hm2 ⟨j,hj,e2⟩];exact G
     obtain⟨j,hj,e2⟩:=a6 _ G;have an:e.on<us.getD p 0:=by(have:e.on+1<=us.getD p 0:=by simpa [Nat.blt] using h3);(omega)
     refine⟨?_,om⟩;cases hh:C.getD e.on true with
     | true=>rfl
     | false=>
      rw[<-e2]at hh;have h6:=(J j hj).1 hh;have:=aj j h6;omega
    have h6:=h5.2;have h7:=h5.1;simp[h6]at h7 ⊢;exact h7
   rw[hr]at af;cases af
  obtain⟨aa,o,ho,am⟩:=mem_ready.1 hi;have ac:l[i]?=some o:=by simpa using ho
  have ak:i<l.length:=(List.getElem?_eq_some_iff.1 ac).1;obtain⟨p,O,aq⟩:∃ j,j<us.length/\us.getD j 0=i:=by
   refine Classical.byContradiction λah=>?_;have D:=List.all_eq_true.1 c6 i (List.mem_range.2 ak);simp only[Bool.or_eq_true]at D;have G:=a7 i ak λj hj e=>ah ⟨j,hj,e⟩;rcases D with(D|D)|D
   .rw[D]at G;rw[G]at aa;cases aa
   .exact ah (a6 i D)
   have Z:us.getD p0 0∈us:=by rw[List.getD_eq_getElem?_getD,List.getElem?_eq_getElem (a4 p0 a5)];exact List.getElem_mem _
   have h3:=List.all_eq_true.1 D _ Z;have h4:=Jjm a3 F i (us.getD p0 0) o ho (Jjl ho hi) h3;have h5:=(J p0 (a4 p0 a5)).2 a5;have h6:us.getD p0 0<C.size:=by have:=(a2 p0 (a4 p0 a5)).1;omega
   generalize us.getD p0 0=k0 at h4 h5 h6
   simp[h6]at h4 h5;rw[h4]at h5;cases h5
  subst aq;have ag:=(J p O).1 aa;have hO:=GoS.get hop O (by rw[Xw];exact ac);rw[Nat.zero_add]at hO;have hW:=hO (λj=>a.tmps.getD (ds.getD j 0) undef) w1 hx λj hj hk=>by
   unfold Jzh at hk;rw[Array.any_eq_true']at hk;obtain⟨e,he,D⟩:=hk;simp only[Bool.and_eq_true,beq_iff_eq]at D;have G:=am e he D.1;rw[D.2]at G;have h3:us.getD j 0<C.size:=by have:=(a2 j hj).1;omega
   refine hf j hj λav=>?_;have h4:=(J j hj).2 av;generalize us.getD j 0=k0 at G h3 h4
   simp[h3]at G h4;rw[G]at h4;cases h4
  have D:=Jdt (Q:=Q) (ops:=l.toArray) (by simpa using ac) hW a (a8 a ha);refine wpOp_mono (λa' w' h=>?_) D;obtain⟨v,a1,a9,hF⟩:=h;have b2:lk ((ds.getD p 0,v)::slM (λj=>a.tmps.getD (ds.getD j 0) undef) al ds 0) (ds.getD p 0)=some v:=Jqc _ _ _;have ax:ds.getD p 0∈ds:=by rw[List.getD_eq_getElem?_getD,List.getElem?_eq_getElem om];exact List.getElem_mem _
  refine⟨λ_=>a9,ih (ps.erase p) _ a' w' (by rw[List.length_erase_of_mem ag,hL];omega) (hu.erase p) (λj hj=>a4 j (hu.mem_erase_iff.1 hj).2) (λj hj=>?_) (λk D G=>?_) (by simp[ae]) (a3.step hi) ?_ (hx.trans a9) λj hj aw=>?_⟩
  .by_cases e:p=j
   .subst e;have:us.getD p 0<C.size:=om
    simp only[hu.mem_erase_iff];simp
   rw[getD_set_ne true (λe2=>e (Jkw hU O hj e2)),J j hj,hu.mem_erase_iff];exact⟨λh=>⟨λh'=>e h'.symm,h⟩,λh=>h.2⟩
  .rw[getD_set_ne true (G p O)];exact a7 k D G
  .refine⟨a1.size,a1.defers,λt u ab=>?_⟩;have Z:t ∉ ds:=λZ=>by rw[b1 t Z]at ab;cases ab
   exact a1.has t u (by rw[Gz _ _ (λe=>Z (by rw[<-e];exact ax)),Jqb Z];exact ab)
  by_cases e:j=p
  .subst e;rw[a1.has _ _ b2];exact hF
  have ar:j ∉ ps:=λh=>aw (hu.mem_erase_iff.2 ⟨e,h⟩);have ad:ds.getD p 0≠ds.getD j 0:=λh=>e (Jkw hN om om h.symm);have h3:=a1.has (ds.getD j 0) _ (by rw[Gz _ _ ad];exact Kh hN om);simp only[Nat.zero_add]at h3;rw[h3];exact(hf j hj ar).ext a9
end
end Go.Wk
namespace Go.Wk
open Go.RowKit
section
variable {P:Program} {n:Nat} {al:AL} {w:World} {Q:Exit->Act->World->Prop} {ops:Array Oper}
def stgQ(l:List Oper)(F q:Nat)(st st':Array Bool)(us:List Nat): Bool :=
 Nat.beq st.size l.length && Nat.beq st'.size l.length && ndB us && (us.all λk=>Nat.blt k l.length && !(st.getD k true)) &&
 (us.all λi=>match nth l i with
  | some o=>o.after.all λe=>!Region.binds .any e || (Nat.blt e.on l.length && st.getD e.on true) || (us.any (λj=>Nat.beq j e.on) && Nat.blt e.on i)
  | none=>false) &&
 ((List.range l.length).all λi=>st.getD i true || us.any (λj=>Nat.beq j i) || us.all λj=>Nat.beq j q || Yu l.toArray F i j) &&
 ((List.range l.length).all λi=>st'.getD i true == (st.getD i true || us.any λj=>Nat.beq j i))
theorem Qkg{T:Nat->Bool}{l:List Oper}(F q fuel':Nat)(st st':Array Bool)(us ds:List Nat)(Fs:List SF){fuel:Nat}(hc:(stgQ l F q st st' us && ndB ds && Nat.beq ds.length us.length && Nat.beq (us.length+fuel') fuel)=true)(hfree:(ds.all λd=>(lk al d).isNone)=true)(hop:GoS P n l al w us ds Fs 0 us)(Vf:∀ vs w1,Ext w w1->(∀ j,(hj:j<us.length:=by decide)->fiM Fs j (vs j) w1)->WH P n l.toArray Q T fuel' st' (slM vs al ds 0) w1)(hend2:q<l.length->∀ vs w1,Ext w w1->(∀ j,(hj:j<us.length:=by decide)->(hq:us.getD j 0≠q:=by decide)->fiM Fs j (vs j) w1)->WH P n l.toArray Q T (fuel'+1) (st'.setIfInBounds q false) (slM vs al ds 0) w1): WH P n l.toArray Q T fuel st al w:=λa2 a ha=>by
 simp only[Bool.and_eq_true]at hc;obtain⟨⟨⟨h0,h4⟩,h5⟩,h6⟩:=hc;unfold stgQ at h0;simp only[Bool.and_eq_true]at h0;obtain⟨⟨⟨⟨⟨⟨c1,c2⟩,c3⟩,c4⟩,c5⟩,c6⟩,c7⟩:=h0;have au:st.size=l.length:=Nat.eq_of_beq_eq_true c1;have b8:st'.size=l.length:=Nat.eq_of_beq_eq_true c2;have hU:=Jxr c3;have hN:=Jxr h4;have hl:ds.length=us.length:=Nat.eq_of_beq_eq_true h5;have b4:us.length+fuel'=fuel:=Nat.eq_of_beq_eq_true h6;have b5:∀ d∈ds,lk al d=none:=λd hd=>by simpa using List.all_eq_true.1 hfree d hd
 have Z:∀ j,j<us.length->us.getD j 0<l.length/\st.getD (us.getD j 0) true=false:=λj hj=>by
  have O:us.getD j 0∈us:=by rw[List.getD_eq_getElem?_getD,List.getElem?_eq_getElem hj];exact List.getElem_mem _
  have:=List.all_eq_true.1 c4 _ O;simp only[Bool.and_eq_true,Bool.not_eq_true']at this;exact⟨by(have h:us.getD j 0+1<=l.length:=by simpa [Nat.blt] using this.1);omega,this.2⟩
 have a6:∀ k,(us.any λj=>Nat.beq j k)=true->∃ j,j<us.length/\us.getD j 0=k:=λk hk=>by
  rw[List.any_eq_true]at hk;obtain⟨u,hu,e⟩:=hk;have e:=Nat.eq_of_beq_eq_true e;subst e;exact Jwc hu
 have a9:∀ a:Act,Fr n al a->Fr n (slM (λj=>a.tmps.getD (ds.getD j 0) undef) al ds 0) a:=λa ha=>⟨ha.size,ha.defers,λt v h=>by
  by_cases O:t∈ds
  .obtain⟨j,hj,e⟩:=Jwc O;rw[<-e,Kh hN hj]at h;simp only[Nat.zero_add,Option.some.injEq]at h;rw[<-e];exact h
  rw[Jqb O]at h;exact ha.has t v h⟩
 suffices key:∀(L:Nat) (ps:List Nat) (C:Array Bool) (a:Act) (w1:World),ps.length=L->ps.Nodup->(∀ j∈ps,j<us.length)->(∀ j,j<us.length->(C.getD (us.getD j 0) true=false↔j∈ps))->(∀ k,k<l.length->(∀ j,j<us.length->us.getD j 0≠k)->C.getD k true=st.getD k true)->C.size=l.length->Closed l.toArray C->Fr n al a->Ext w w1 ->
   (∀ j,j<us.length->j ∉ ps->fiM Fs j (a.tmps.getD (ds.getD j 0) undef) w1)->Vx P l.toArray Q T (L+fuel') C a w1 by
  have:=key us.length (List.range us.length) st a w List.length_range List.nodup_range (λj hj=>List.mem_range.1 hj) (λj hj=>⟨λ_=>List.mem_range.2 hj,λ_=>(Z j hj).2⟩) (λk _ _=>rfl) au a2 ha (Ext.refl w) λj hj h=>absurd (List.mem_range.2 hj) h;rwa [b4]at this
 intro L;induction L with
 | zero=>
  intro ps C a w1 hL hu a1 J a7 af a2 ha hx hf;have an:ps=[]:=List.length_eq_zero_iff.1 hL;subst an;have e:C=st':=by
   refine Array.ext_getElem? λi=>?_;by_cases hi:i<l.length
   .have h7:=List.all_eq_true.1 c7 i (List.mem_range.2 hi);rw[beq_iff_eq]at h7;have h8:C.getD i true=st'.getD i true:=by
     rw[h7];by_cases O:∃ j,j<us.length/\us.getD j 0=i
     .obtain⟨j,hj,e⟩:=O;have D:=J j hj;rw[e]at D;have G:C.getD i true=true:=by
       cases hh:C.getD i true with
       | true=>rfl
       | false=>exact absurd (D.1 hh) (by simp)
      rw[G];symm
      rw[Bool.or_eq_true];right
      rw[List.any_eq_true];refine⟨us.getD j 0,?_,by rw[e];simp⟩;rw[List.getD_eq_getElem?_getD,List.getElem?_eq_getElem hj];exact List.getElem_mem _
     have D:∀ j,j<us.length->us.getD j 0≠i:=λj hj e=>O ⟨j,hj,e⟩;rw[a7 i hi D];have G:(us.any λj=>Nat.beq j i)=false:=by
      cases hh:us.any λj=>Nat.beq j i with
      | false=>rfl
      | true=>exact absurd (a6 i hh) O
     rw[G,Bool.or_false]
    have h9:i<C.size:=om
    have a5:i<st'.size:=om
    simp[h9,a5]at h8;simp[h9,a5,h8]
   rw[Array.getElem?_eq_none om,Array.getElem?_eq_none om]
  rw[Nat.zero_add,e];rw[e]at a2;exact Vf _ w1 hx (λj hj=>hf j hj (by simp)) a2 a (a9 a ha)
 | succ L ih=>
  intro ps C a w1 hL hu a1 J a7 af a2 ha hx hf;by_cases hq0:∀ p∈ps,us.getD p 0=q
  .have b7:L=0:=by
    rcases Nat.eq_zero_or_pos L with h|h
    .exact h
    exfalso
    obtain⟨x,y,r,rfl⟩:∃ x y r,ps=x::y::r:=by
     match ps,hL with
     | [],h'=>simp at h'
     | [x],h'=>simp at h';omega
     | x::y::r,_=>exact⟨x,y,r,rfl⟩
    have D:=hq0 x (by simp);have G:=hq0 y (by simp);have h3:=Jkw hU (a1 x (by simp)) (a1 y (by simp)) (by rw[D,G]);have:=(List.nodup_cons.1 hu).1;rw[h3]at this;exact this (by simp)
   subst b7;obtain⟨p,rfl⟩:∃ p,ps=[p]:=List.length_eq_one_iff.1 om;have aa:=hq0 p (by simp);have ak:=a1 p (by simp);have ah:=(Z p ak).1;rw[aa]at ah;have e:C=st'.setIfInBounds q false:=by
    refine Array.ext_getElem? λi=>?_;by_cases hi:i<l.length
    .have h7:=List.all_eq_true.1 c7 i (List.mem_range.2 hi);rw[beq_iff_eq]at h7;have h8:C.getD i true=(st'.setIfInBounds q false).getD i true:=by
      by_cases hiq:i=q
      .have D:=(J p ak).2 (by simp);rw[aa]at D;rw[hiq,D];have:q<st'.size:=om
       simp[this]
      have a5:(st'.setIfInBounds q false).getD i true=st'.getD i true:=by
       have h9:i<st'.size:=om
       simp[h9,Ne.symm hiq]
      rw[a5,h7];by_cases O:∃ j,j<us.length/\us.getD j 0=i
      .obtain⟨j,hj,e⟩:=O;have D:=J j hj;rw[e]at D;have G:C.getD i true=true:=by
        cases hh:C.getD i true with
        | true=>rfl
        | false=>
         have:=List.mem_singleton.1 (D.1 hh);rw[this,aa]at e;exact absurd e.symm hiq
       rw[G];symm
       rw[Bool.or_eq_true];right
       rw[List.any_eq_true];refine⟨us.getD j 0,?_,by rw[e];simp⟩;rw[List.getD_eq_getElem?_getD,List.getElem?_eq_getElem hj];exact List.getElem_mem _
      have D:∀ j,j<us.length->us.getD j 0≠i:=λj hj e=>O ⟨j,hj,e⟩;rw[a7 i hi D];have G:(us.any λj=>Nat.beq j i)=false:=by
       cases hh:us.any λj=>Nat.beq j i with
       | false=>rfl
       | true=>exact absurd (a6 i hh) O
      rw[G,Bool.or_false]
     have h9:i<C.size:=om
     have a5:i<(st'.setIfInBounds q false).size:=by rw[Array.size_setIfInBounds];omega
     rw[Array.getElem?_eq_getElem h9,Array.getElem?_eq_getElem a5];rw[Array.getD,Array.getD,dif_pos h9,dif_pos a5]at h8;exact congrArg some h8
    rw[Array.getElem?_eq_none om,Array.getElem?_eq_none (by rw[Array.size_setIfInBounds];omega)]
   rw[show 0+1+fuel'=fuel'+1 by omega,e];rw[e]at a2;exact hend2 ah _ w1 hx (λj hj hq=>hf j hj (λh=>hq (by rw[List.mem_singleton.1 h];exact aa))) a2 a (a9 a ha)
  obtain⟨p0,a8,aj⟩:∃ p,p∈ps/\us.getD p 0≠q:=by
   refine Classical.byContradiction λh=>hq0 λp hp=>Classical.byContradiction λG=>h ⟨p,hp,G⟩
  rw[show L+1+fuel'=(L+fuel')+1 by omega];refine⟨λhr=>?_,λi hi=>?_⟩
  .exfalso
   obtain⟨p,hp,ao⟩:∃ p,p∈ps/\∀ q∈ps,us.getD p 0<=us.getD q 0:=by
    have:∀ s p,p∈ps->us.getD p 0<s->∃ p,p∈ps/\∀ q∈ps,us.getD p 0<=us.getD q 0:=by
     intro s;induction s with
     | zero=>intro p _ h;omega
     | succ s ihs=>
      intro p hp ai;by_cases h:∃ q,q∈ps/\us.getD q 0<us.getD p 0
      .obtain⟨q,hq,b9⟩:=h;exact ihs q hq om
      exact⟨p,hp,λq hq=>by
       rcases Nat.lt_or_ge (us.getD q 0) (us.getD p 0) with h'|h'
       .exact absurd ⟨q,hq,h'⟩ h
       exact h'⟩
    exact this (us.getD p0 0+1) p0 a8 om
   have a3:=a1 p hp;obtain⟨ba,_⟩:=Z p a3;have ay:=(J p a3).2 hp;have ag:us.getD p 0∈Region.ready .any l.toArray C:=by
    refine mem_ready.2 ⟨ay,l[us.getD p 0],by simp,λe he hb=>?_⟩;have O:us.getD p 0∈us:=by rw[List.getD_eq_getElem?_getD,List.getElem?_eq_getElem a3];exact List.getElem_mem _
    have D:=List.all_eq_true.1 c5 _ O;have hn:nth l (us.getD p 0)=some l[us.getD p 0]:=by rw[Xw];simp
    rw[hn]at D;simp only[Array.all_eq_true_iff_forall_mem,Bool.or_eq_true,Bool.not_eq_true',Bool.and_eq_true]at D;have G:=D e he;rw[hb]at G;have h5:C.getD e.on true=true/\e.on<C.size:=by
     rcases G with(G|⟨h3,G⟩)|⟨G,h3⟩
     .cases G
     .have ar:e.on<l.length:=by(have:e.on+1<=l.length:=by simpa [Nat.blt] using h3);omega
      refine⟨?_,om⟩;by_cases hm2:∃ j,j<us.length/\us.getD j 0=e.on
      .obtain⟨j,hj,e2⟩:=hm2;have:=(Z j hj).2;rw[e2,G]at this;cases this
      rw[a7 _ ar λj hj e2=>hm2 ⟨j,hj,e2⟩];exact G
     obtain⟨j,hj,e2⟩:=a6 _ G;have ar:e.on<us.getD p 0:=by(have:e.on+1<=us.getD p 0:=by simpa [Nat.blt] using h3);(omega)
     refine⟨?_,om⟩;cases hh:C.getD e.on true with
     | true=>rfl
     | false=>
      rw[<-e2]at hh;have h6:=(J j hj).1 hh;have:=ao j h6;omega
    have h6:=h5.2;have h7:=h5.1;simp[h6]at h7 ⊢;exact h7
   rw[hr]at ag;cases ag
  obtain⟨ac,o,ho,aq⟩:=mem_ready.1 hi;have ae:l[i]?=some o:=by simpa using ho
  have ap:i<l.length:=(List.getElem?_eq_some_iff.1 ae).1;obtain⟨p,a3,av⟩:∃ j,j<us.length/\us.getD j 0=i:=by
   refine Classical.byContradiction λam=>?_;have D:=List.all_eq_true.1 c6 i (List.mem_range.2 ap);simp only[Bool.or_eq_true]at D;have G:=a7 i ap λj hj e=>am ⟨j,hj,e⟩;rcases D with(D|D)|D
   .rw[D]at G;rw[G]at ac;cases ac
   .exact am (a6 i D)
   have O:us.getD p0 0∈us:=by rw[List.getD_eq_getElem?_getD,List.getElem?_eq_getElem (a1 p0 a8)];exact List.getElem_mem _
   have h3:=List.all_eq_true.1 D _ O;rw[Bool.or_eq_true]at h3;have h3:=h3.resolve_left λh=>aj (Nat.eq_of_beq_eq_true h);have h4:=Jjm a2 F i (us.getD p0 0) o ho (Jjl ho hi) h3;have h5:=(J p0 (a1 p0 a8)).2 a8;have h6:us.getD p0 0<C.size:=by have:=(Z p0 (a1 p0 a8)).1;omega
   generalize us.getD p0 0=k0 at h4 h5 h6
   simp[h6]at h4 h5;rw[h4]at h5;cases h5
  subst av;have ai:=(J p a3).1 ac;have hO:=GoS.get hop a3 (by rw[Xw];exact ae);rw[Nat.zero_add]at hO;have hW:=hO (λj=>a.tmps.getD (ds.getD j 0) undef) w1 hx λj hj hk=>by
   unfold Jzh at hk;rw[Array.any_eq_true']at hk;obtain⟨e,he,D⟩:=hk;simp only[Bool.and_eq_true,beq_iff_eq]at D;have G:=aq e he D.1;rw[D.2]at G;have h3:us.getD j 0<C.size:=by have:=(Z j hj).1;omega
   refine hf j hj λb1=>?_;have h4:=(J j hj).2 b1;generalize us.getD j 0=k0 at G h3 h4
   simp[h3]at G h4;rw[G]at h4;cases h4
  have D:=Jdt (Q:=Q) (ops:=l.toArray) (by simpa using ae) hW a (a9 a ha);refine wpOp_mono (λa' w' h=>?_) D;obtain⟨v,a4,ab,hF⟩:=h;have b6:lk ((ds.getD p 0,v)::slM (λj=>a.tmps.getD (ds.getD j 0) undef) al ds 0) (ds.getD p 0)=some v:=Jqc _ _ _;have b3:ds.getD p 0∈ds:=by rw[List.getD_eq_getElem?_getD,List.getElem?_eq_getElem om];exact List.getElem_mem _
  refine⟨λ_=>ab,ih (ps.erase p) _ a' w' (by rw[List.length_erase_of_mem ai,hL];omega) (hu.erase p) (λj hj=>a1 j (hu.mem_erase_iff.1 hj).2) (λj hj=>?_) (λk D G=>?_) (by simp[af]) (a2.step hi) ?_ (hx.trans ab) λj hj b2=>?_⟩
  .by_cases e:p=j
   .subst e;have:us.getD p 0<C.size:=om
    simp only[hu.mem_erase_iff];simp
   rw[getD_set_ne true (λe2=>e (Jkw hU a3 hj e2)),J j hj,hu.mem_erase_iff];exact⟨λh=>⟨λh'=>e h'.symm,h⟩,λh=>h.2⟩
  .rw[getD_set_ne true (G p a3)];exact a7 k D G
  .refine⟨a4.size,a4.defers,λt u ad=>?_⟩;have O:t ∉ ds:=λO=>by rw[b5 t O]at ad;cases ad
   exact a4.has t u (by rw[Gz _ _ (λe=>O (by rw[<-e];exact b3)),Jqb O];exact ad)
  by_cases e:j=p
  .subst e;rw[a4.has _ _ b6];exact hF
  have ax:j ∉ ps:=λh=>b2 (hu.mem_erase_iff.2 ⟨e,h⟩);have aw:ds.getD p 0≠ds.getD j 0:=λh=>e (Jkw hN om om h.symm);have h3:=a4.has (ds.getD j 0) _ (by rw[Gz _ _ aw];exact Kh hN om);simp only[Nat.zero_add]at h3;rw[h3];exact(hf j hj ax).ext ab
end
end Go.Wk
namespace Go.Proofs.YtbcdghbonlifdaaGreatDoor
open Go.RowKit Pl Go.Wk
attribute [local irreducible] WC WL QX WD WDB WP WN WG WH WM
variable {cs:List Value}{b n st t:Nat}{cu v x:Value}{w:World}
theorem Qsj(h:NatV w v n)(hB:Blk w b t cs)(hs:∀ u∈cs,∀ z,u≠.int .u32 z): Off (λk=>k=b) w λu=>NatV u v n:=by
 obtain⟨A,c,rfl,C,O,J⟩:=h;refine(Ic J λh0 G e (e2:G.block=b)=>?_).imp λu Z=>⟨A,c,rfl,C,O,Z⟩;obtain⟨a2,D,a1,o⟩:=J.2 h0;rw[e]at D;injection D with D
 subst D;rw[Qcj]at h0;have C:=o 0 _ (Vq h0);rw[add_zero]at C;have O:=World.cell?_spot C;have h5:G=⟨b,G.off,none⟩:=by
  obtain⟨qb,qo,qs⟩:=G;grind
 rw[h5,hB.cell]at C;grind
theorem CuV.off{p:Nat}(h:CuV w x cu p st)(hB:Blk w b t cs)(hs:∀ u∈cs,∀ z,u≠.int .u32 z): Off (λk=>k=b) w λu=>CuV u x cu p st:=by
 obtain⟨A1,A2,A3,A4,A5,J,G,D,C,o,c1,c2,c3,c4,c5,pv,h1,h2,Z⟩:=h;exact(Qsj Z hB hs).imp λu O=>⟨A1,A2,A3,A4,A5,J,G,D,C,o,c1,c2,c3,c4,c5,pv,h1,h2,O⟩
theorem CuV.parts{A B C D E:Option Addr}{a c d e a' b' c' d' e':Nat}{p:Nat}(h:CuV w (.agg #[.slice A a a',.slice B b b',.slice C c c',.slice D d d',.slice E e e']) cu p st):
  ∃ Q q,cu=.agg #[.slice A a a',.slice B b b',.slice C c c',.slice D d d',.slice E e e',.slice Q (Jq p).length q,.int .i64 (st:Int)]:=by
 obtain⟨A1,A2,A3,A4,A5,Z,O,J,G,u,c1,c2,c3,c4,c5,pv,h1,h2,o⟩:=h;obtain⟨Q,q,rfl,_⟩:=id o;grind
theorem FewS.p{c:Cse}(h:FewS c): FewP c:=⟨h.row,h.cnt,.inl h.n6,h.v5,h.r5⟩
def SF.of(b n:Nat)(p:World->Value->Prop): SF:=⟨λv w=>∃ A c,v=.slice A n c/\Off (λk=>k=b) w λu=>p u v,λ⟨A,c,e,h1⟩ hx=>⟨A,c,e,h1.ext hx⟩⟩
theorem RowsV.off{L:List Row}(h:RowsV w v L)(hf:∀ ad m c,v=.slice (some ad) m c->ad.block≠b)(hB:Blk w b t cs)(hs:∀ u∈cs,∀ s,u≠.string s): Off (λk=>k=b) w λu=>RowsV u v L:=by
 obtain⟨ps,A,c,rfl,rfl,J,G,D,C⟩:=h;exactλW o=>⟨ps,A,c,rfl,rfl,J,G,Vc D o (λ_ ad e=>hf ad _ _ (by rw[e])),λp hp=>by
  obtain⟨A',c',e1,e2,Z,O⟩:=C p hp;exact⟨A',c',e1,e2,Z,(Qlt O hB hs) W o⟩⟩
end Go.Proofs.YtbcdghbonlifdaaGreatDoor
namespace Go.Proofs.YtbcdghbonlifdaaGreatDoor
open Go.RowKit Pl Go.Wk
namespace Pl
variable {m:Nat}
def rkS(X:IX)(ds:List Bool)(q:Row): Nat->Nat
 | 0=>0
 | m+1=>rkS X ds q m+bef (ds.getD m false) (q.getD m V0) (X.E m (X.key m (q.take m)))*X.others m (q.take m)
section
variable {X:IX} {ds:List Bool} {q:Row}
theorem Jgn(h:X.Srt ds)(hm:m<q.length)(hg:X.Gp (q.take m)): X.Gp (q.take (m+1))↔q.getD m V0∈(X.E m (X.key m (q.take m))).map (·.1):=by
 have u:(q.take m).length=m:=by grind
 have e:q.take (m+1)=q.take m++[q.getD m V0]:=by grind [List.take_succ_eq_append_getElem,List.getD]
 constructor
 .intro o;have C:=o m (by grind);grind
 repeat grind [AX.Gp.snoc]
theorem rk_inv(h:X.Srt ds)(hok:X.Ok)(hq:q.length<=X.F): ∀ m,m<=q.length->X.Gp (q.take m)->Qq ds (X.ext X.F []) q=rkS X ds q m+Qq ds (X.ext (X.F-m) (q.take m)) q
 | 0,_,_=>by simp[rkS]
 | m+1,hm,hg=>by
  have hg':X.Gp (q.take m):=by
   have:=hg.pre m;grind
  have hl:(q.take m).length=m:=by grind
  have ih:=rk_inv h hok hq m om hg';have hmem:=(Jgn h om hg').1 hg;have e:X.F-m=(X.F-(m+1))+1:=om
  have h1:=h.cnt_step hok (n:=X.F-(m+1)) (y:=q.take m) (q:=q) (by rw[hl];omega) hq (by rw[hl];omega) (by rw[hl]);grind [V0,List.take_succ_eq_append_getElem,List.getD,rkS]
theorem rk_stop(h:X.Srt ds)(hok:X.Ok)(hq:q.length<=X.F)(hm:m<q.length)(hg:X.Gp (q.take m))(hn:¬ X.Gp (q.take (m+1))): Qq ds (X.ext X.F []) q=rkS X ds q (m+1):=by
 have u:(q.take m).length=m:=by grind
 have e:X.F-m=(X.F-(m+1))+1:=om
 have C:=h.cnt_step hok (n:=X.F-(m+1)) (y:=q.take m) (q:=q) (by rw[u];omega) hq (by rw[u];omega) (by rw[u]);rw[u]at C;rw[if_neg λo=>hn ((Jgn h hm hg).2 o)]at C;rw[rk_inv h hok hq m om hg,e,C,rkS,Nat.add_zero]
theorem rk_end(h:X.Srt ds)(hok:X.Ok)(hq:q.length<=X.F)(hg:X.Gp q): Qq ds (X.ext X.F []) q=rkS X ds q q.length:=by
 have:=rk_inv h hok hq q.length (nR _) (by grind);rw[this,List.take_length,AX.cnt_end,Nat.add_zero]
end
end Pl
theorem Jvg(ds:List Bool)(L:List Row)(q:Row): Qq ds L q<=L.length:=List.length_filter_le _ _
section
variable {f:Nat} {ds:List Bool} {kf:Nat->Nat} {pf:Nat->Int} {BB:Nat->List BkT} {tot:Nat} {L:List Row}
theorem IxP.rk_inv(ip:IxP f ds kf pf BB tot L)(ne:tot≠0){q:Row}(hq:q.length<=f){m:Nat}(hm:m<=q.length)(hg:(Xy f kf pf BB).Gp (q.take m)): rkS (Xy f kf pf BB) ds q m<=L.length:=by
 have u:=Pl.rk_inv (ip.srt ne) (ip.ok ne) (q:=q) hq m hm hg;have o:=Jvg ds L q;rw[ip.ans ne]at o ⊢;grind [Xy,kf]
theorem IxP.rk_stop(ip:IxP f ds kf pf BB tot L)(ne:tot≠0){q:Row}(hq:q.length<=f){m:Nat}(hm:m<q.length)(hg:(Xy f kf pf BB).Gp (q.take m))(hn:¬ (Xy f kf pf BB).Gp (q.take (m+1))): Qq ds L q=rkS (Xy f kf pf BB) ds q (m+1):=by
 rw[ip.ans ne];exact Pl.rk_stop (ip.srt ne) (ip.ok ne) hq hm hg hn
theorem IxP.rk_end(ip:IxP f ds kf pf BB tot L)(ne:tot≠0){q:Row}(hq:q.length<=f)(hg:(Xy f kf pf BB).Gp q): Qq ds L q=rkS (Xy f kf pf BB) ds q q.length:=by
 rw[ip.ans ne];exact Pl.rk_end (ip.srt ne) (ip.ok ne) hq hg
theorem IxP.wi_len(ip:IxP f ds kf pf BB tot L)(ne:tot≠0){y:Row}(hy:y.length<=f)(hg:(Xy f kf pf BB).Gp y): (wiL L y).length=(Xy f kf pf BB).pend y.length y:=by
 rw[ip.wi_some ne hy hg];exact(ip.ok ne).ext_len _ y (by show y.length+(f-y.length)=f;omega)
end
open Go.RowKit Pl Go.Wk
attribute [local irreducible] WC WL QX WD WDB WP WN WG WH WM
variable {M' b b2 b3 b5 b6 k pc:Nat}{PA:Option Addr}{q:Row}
structure RkM(K:SeK)(w:World)(y:Row)(S:Nat->Bool)(M m:Nat)(fm:Lit->Option Value): Prop where
 gr:GrN (λk=>k=K.mb) K.w1 w
 map:MapS Tryz.prog 3 w K.mb m fm
 mle:m<=M
 pd:PdF K y S fm
def RkV(K:SeK)(w:World)(y:Row)(S:Nat->Bool)(M:Nat): Prop:=∃ m fm,RkM K w y S M m fm
structure RkB(K:SeK)(b2 b3 b5 b6:Nat)(PA:Option Addr)(pc:Nat)(q:Row): Prop where
 x:Blk K.w1 b2 77 [K.x0,K.x1,K.x2,K.x3,K.x4]
 p:Blk K.w1 b3 46 [.slice PA q.length pc]
 b:Blk K.w1 b5 73 [.slice K.BA K.f K.bc]
 m:Blk K.w1 b6 205 [.map (some K.mb)]
 n2:b2≠K.mb
 n3:b3≠K.mb
 n5:b5≠K.mb
 n6:b6≠K.mb
 row:RdR K.w0 PA q
 le:q.length<=pc
section
variable {K:SeK} {w w':World} {y:Row} {S:Nat->Bool} {M m:Nat} {fm:Lit->Option Value}
theorem RkM.ext(h:RkM K w y S M m fm)(hx:Ext w w'): RkM K w' y S M m fm:=⟨h.gr.trans (GrN.ext hx),h.map.ext hx,h.mle,h.pd⟩
theorem RkV.ext(h:RkV K w y S M)(hx:Ext w w'): RkV K w' y S M:=by obtain⟨m,fm,h⟩:=h;exact⟨m,fm,h.ext hx⟩
theorem RkV.same{S':Nat->Bool}(h:RkV K w y S M)(e:∀ c,c<K.f->S c=S' c): RkV K w y S' M:=by
 obtain⟨m,fm,h⟩:=h;refine⟨m,fm,⟨h.gr,h.map,h.mle,λc o hs=>h.pd.1 c o ((e c o).trans hs),λu C=>?_⟩⟩;obtain⟨c,J,G,D⟩:=h.pd.2 u C;grind
theorem RkV.more(h:RkV K w y S M)(hM:M<=M'): RkV K w y S M':=by
 obtain⟨m,fm,h⟩:=h;exact⟨m,fm,h.gr,h.map,Nat.le_trans h.mle hM,h.pd⟩
theorem RkV.gr(h:RkV K w y S M): GrN (λk=>k=K.mb) K.w1 w:=by obtain⟨m,fm,h⟩:=h;exact h.gr
theorem RkV.off(h:RkV K w y S M)(hg:GrN (λk=>k=b) w w')(hb:K.w1.heap.size<=b)(hF:SeF K): RkV K w' y S M:=by
 obtain⟨m,fm,h⟩:=h;refine⟨m,fm,?_,h.map.gr hg λe=>by have:=hF.m2;omega,h.mle,h.pd⟩;exact((h.gr.mono λk _ h=>(.inl h:k=K.mb∨k=b)).trans (hg.mono λk _ h=>.inr h)).mono λk o h=>h.elim id λe=>by omega
theorem RkV.app(h:RkV K w y S M)(hF:SeF K)(hS:∀ c,c<K.f->S c=true->K.pf c<(y.length:Int))(z:Row): RkV K w (y++z) S M:=by
 obtain⟨m,fm,h⟩:=h;exact⟨m,fm,h.gr,h.map,h.mle,h.pd.app hF hS z⟩
theorem Qxx(hq:k<=q.length): (q.take k).length=k:=by grind
def SF.key(K:SeK)(c:Nat)(y:Row): SF:=⟨λv w=>RowV w v (pmR (bk (K.kf c) 32) y),λh hx=>h.ext hx⟩
def SF.tr(K:SeK)(c:Nat)(y:Row): SF:=⟨λv _=>∃ d p,v=.tuple #[.agg #[.bool d,.pointer p],.bool (Zg (K.BB c) (pmR (bk (K.kf c) 32) y)).isSome]/\TrV (λ_=>False) K.w0 (K.t c y) (.pointer p)/\(K.t c y≠.nil->d=K.ds.getD c false),λh _=>h⟩
def SF.tr2(K:SeK)(c:Nat)(y:Row): SF:=⟨λv _=>∃ d p,v=.agg #[.bool d,.pointer p]/\TrV (λ_=>False) K.w0 (K.t c y) (.pointer p)/\(K.t c y≠.nil->d=K.ds.getD c false),λh _=>h⟩
def SF.tbox(s:Nat): SF:=⟨λv w=>∃ b,v=.pointer (some ⟨b,0,none⟩)/\s<=b/\Blk w b 91 [.bool false,.pointer none],λ⟨b,e,h1,h2⟩ hx=>⟨b,e,h1,h2.ext hx⟩⟩
theorem Jtx(hF:SeF K)(hb:RkB K b2 b3 b5 b6 PA pc q)(hV:RkV K w (q.take k) S M)(hM:M<=4096)(hg:K.X.Gp (q.take k))(hkq:k<=q.length)(hkf:k<=K.f){v:Int}(hv:v+1=(k:Int)):
  Ret Tryz.prog 136 [.int .i64 v,.pointer (some ⟨b5,0,none⟩),.pointer (some ⟨b2,0,none⟩),.pointer (some ⟨b3,0,none⟩),.pointer (some ⟨b6,0,none⟩)] w λu w'=>u=.tuple #[]/\GrN (λk=>k=K.mb) w w'/\RkV K w' (q.take k) (λc=>S c || decide (K.pf c=v)) (M+K.f):=by
 have f32:=hF.ip.f32;have a6:=Qxx hkq;refine Jz Tryz.func136 Tryz.ntmps136 rfl kr rfl ?_;refine ρ ?_;refine ld ((Jv hb.b hV.gr hb.n5).at (i:=0) rfl) ?_;refine ρ ?_;refine Qf (fun (c:Nat)=>[(0,.int .i64 v),(2,.pointer (some ⟨b2,0,none⟩)),(3,.pointer (some ⟨b3,0,none⟩)),(4,.pointer (some ⟨b6,0,none⟩)),(10,.slice K.BA K.f K.bc),(11,.int .i64 (K.f:Int)),(12,.int .i64 (c:Int))])
  (λc w'=>c<=K.f/\GrN (λk=>k=K.mb) w w'/\RkV K w' (q.take k) (λj=>S j || (decide (j<c) && decide (K.pf j=v))) (M+c)) (λc=>K.f-c) 0 sB
  ⟨Nat.zero_le _,GrN.refl _ _,hV.same λc _=>by simp⟩ ?_
 rintro c w1 ⟨hc,a9,a2⟩;refine ρ ?_;refine ci (λh=>?_) (λh=>?_)
 .have lc:c<K.f:=by have:=oT h;omega
  clear h;have am:=hF.bg w1 a2.gr;refine ρ ?_;refine ixq 3 c am lc ?_;refine ρ ?_;refine lds (cs:=Qr K.kf K.pf c) (Xyl am lc) ?_;refine ρ ?_;refine alc zBag ?_;intro w2 bb ax b4 be;refine ρ ?_;refine stb (cs':=Qr K.kf K.pf c) be ?_ Jks;intro w3 au ai aw;have D:Ext w1 w3:=aw w1 ax b4;refine ρ ?_;refine ld (au.at (i:=2) rfl) ?_;refine ρ ?_;refine ci (λh=>?_) (λh=>?_)
  .have hp:K.pf c=v:=Xa h;clear h;have a7:Ext w3 w3.drew:=(Ext.refl w3).drew;have ap:=a2.ext D;have aa:=ap.ext a7;have G:=hF.ext aa.gr;have a3:=Jv hb.x aa.gr hb.n2;have bd:=Jv hb.p aa.gr hb.n3;have ae:RdR w3.drew PA (q.take k):=by
    have:=(Rd.ext hb.row G).take (m:=k) hkq;rw[Jgj q hkq]at this;show Rd _ 3 PA (q.take k).length _;rw[a6];exact this
   have ay:=hF.ip.keyb hF.ne lc (m:=k) (by rw[hp];omega);have aj:=hF.ip.fitK hg c;have ak:∀ {d:Bool},((Zg (K.BB c) (pmR (bk (K.kf c) 32) (q.take k))).isSome=true->d=K.ds.getD c false)->K.t c (q.take k)≠.nil->d=K.ds.getD c false:=fun {d} h hne=>h (by
    cases hi:Zg (K.BB c) (pmR (bk (K.kf c) 32) (q.take k)) with
    | none=>exact absurd (Jls hi) hne
    | some i=>rfl)
   refine ρ ?_;refine drH (λi=>Nat.ble 14 i) ?_;refine Jwp 2 (lst 16 14) (fun (y:Bool×Option Addr×Nat)=>[(32,.agg #[.bool y.1,.pointer y.2.1]),(33,.bool (Zg (K.BB c) (pmR (bk (K.kf c) 32) (q.take k))).isSome),(8,.pointer (some ⟨y.2.2,0,none⟩)),(0,.int .i64 v),(2,.pointer (some ⟨b2,0,none⟩)),(3,.pointer (some ⟨b3,0,none⟩)),(4,.pointer (some ⟨b6,0,none⟩)),(6,.int .i64 (c:Int)),(10,.slice K.BA K.f K.bc),(11,.int .i64 (K.f:Int)),(12,.int .i64 (c:Int))])
    (λy W=>Ext w3.drew W/\Blk W y.2.2 91 [.bool false,.pointer none]/\w3.drew.heap.size<=y.2.2/\TrV (λ_=>False) K.w0 (K.t c (q.take k)) (.pointer y.2.1)/\(K.t c (q.take k)≠.nil->y.1=K.ds.getD c false)) ?_ ?_
   rotate_left
   .intro rest;refine Qkg 17 12 2 _ (lst 16 14) [0,1,2,3,4,5,6,7,8,9,10,11,12,13] [22,23,24,25,26,27,28,29,30,31,21,32,33,8] [SF.bk a3,SF.eq (.int .i64 (c:Int)),SF.bk a3,SF.eq (.int .i64 (c:Int)),SF.eq (.slice PA q.length pc),SF.eq (.int .i64 v),SF.eq (.int .i64 (k:Int)),SF.eq (.slice PA k pc),SF.key K c (q.take k),SF.tr K c (q.take k),SF.tr K c (q.take k),SF.tr2 K c (q.take k),SF.eq (.bool (Zg (K.BB c) (pmR (bk (K.kf c) 32) (q.take k))).isSome),SF.tbox w3.drew.heap.size] kr (by rfl) ?_ ?_ ?_
    .refine gsc (λvs J o hd=>?_) ?_
     .simp only[slM];refine ldW (a3.ext o) ?_;refine ρ ?_;exact Xo (Ext.refl _) rfl
     refine gsc (λvs J o hd=>?_) ?_
     .simp only[slM];refine ρ ?_;exact Xo (Ext.refl _) rfl
     refine gsc (λvs J o hd=>?_) ?_
     .simp only[slM];refine ldW (a3.ext o) ?_;refine ρ ?_;exact Xo (Ext.refl _) rfl
     refine gsc (λvs J o hd=>?_) ?_
     .simp only[slM];refine ρ ?_;exact Xo (Ext.refl _) rfl
     refine gsc (λvs J o hd=>?_) ?_
     .simp only[slM];refine ld ((bd.ext o).at (i:=0) rfl) ?_;refine ρ ?_;exact Xo (Ext.refl _) rfl
     refine gsc (λvs J o hd=>?_) ?_
     .simp only[slM];refine ρ ?_;exact Xo (Ext.refl _) rfl
     refine gsc (λvs J o hd=>?_) ?_
     .have e5:vs 5=_:=hd 5;simp only[slM,e5];refine ρ ?_;exact Xo (Ext.refl _) (congrArg (Value.int .i64) hv)
     refine gsc (λvs J o hd=>?_) ?_
     .have e4:vs 4=_:=hd 4;have e6:vs 6=_:=hd 6;have:=hb.le;simp only[slM,e4,e6];refine slh k ?_;refine ρ ?_;exact Xo (Ext.refl _) rfl
     refine gsc (λvs J o hd=>?_) ?_
     .have e2:vs 2=_:=hd 2;have e3:vs 3=_:=hd 3;have e7:vs 7=_:=hd 7;simp only[slM,e2,e3,e7];have ah:=Qzm (hF.ix.ext (G.trans o)) lc (c:=pc) (Rd.ext ae o) (by have:=hb.le;omega) om (by rw[a6];exact ay);rw[a6]at ah;refine cl ah ?_;rintro uk W ⟨⟨KA,kc,rfl,ag,af,a8,_⟩,hy⟩;exact Jc (Xo hy ⟨KA,kc,rfl,ag,af,a8⟩)
     refine gsc (λvs J o hd=>?_) ?_
     .have e0:vs 0=_:=hd 0;have e1:vs 1=_:=hd 1;obtain⟨KA,kc,e8,ag,af,a8⟩:=hd 8;simp only[slM,e0,e1,e8];refine cl (Qzp (hF.tb.ext (G.trans o)) (G.trans o) hF.ix lc a8 aj) ?_;rintro u W ⟨d,p,rfl,O,C,hy⟩;exact Jc (Xo hy ⟨d,p,rfl,O,ak C⟩)
     refine gsc (λvs J o hd=>?_) ?_
     .obtain⟨d,p,e9,O,C⟩:=hd 9;simp only[slM,e9];refine ρ ?_;exact Xo (Ext.refl _) ⟨d,p,rfl,O,C⟩
     refine gsc (λvs J o hd=>?_) ?_
     .obtain⟨d,p,a1,O,C⟩:=hd 10;simp only[slM,a1];refine ρ ?_;exact Xo (Ext.refl _) ⟨d,p,rfl,O,C⟩
     refine gsc (λvs J o hd=>?_) ?_
     .obtain⟨d,p,a1,O,C⟩:=hd 10;simp only[slM,a1];refine ρ ?_;exact Xo (Ext.refl _) rfl
     refine gsc (λvs J o hd=>?_) gse
     simp only[slM];refine alc Gg ?_;intro W b9 hy b7 Z;exact Jc (Xo hy ⟨b9,rfl,Nat.le_trans o.size b7,Z⟩)
    .intro vs W hy hf;obtain⟨b9,ab,h9,Z⟩:=hf 13;obtain⟨d,p,ac,O,C⟩:=hf 11;have bf:vs 12=_:=hf 12;simp only[slM,ab,bf,ac];exact rest (d,p,b9) _ _ ⟨hy,Z,h9,O,C⟩ sB
    intro _ vs W hy hf;obtain⟨b9,ab,h9,Z⟩:=hf 13;obtain⟨d,p,ac,O,C⟩:=hf 11;obtain⟨d2,p2,a1,_,_⟩:=hf 10;simp only[slM,ab,ac,a1];refine Gv (fuel':=2) 12 kr kr rfl rfl ?_;refine ρp ?_;refine ρd ?_;refine Xf ?_;refine hlist (listed':=lst 16 14) kr ?_;exact rest (d,p,b9) _ _ ⟨hy,Z,h9,O,C⟩ sB
   rintro⟨d,p,b9⟩ W ⟨av,ar,an,O,hd⟩;simp only at ar an O hd;refine Zv (fuel':=0) 17 [(2,14),(2,15)] (lst 16 16) kr kr rfl ?_;refine Qj ?_;refine stW ar ?_;intro W2 aq bh ad;refine Jc (Qs ?_);refine Qj ?_;refine ρ ?_;refine Qs ?_;refine Kr (Xf ?_);refine Vf kr ?_;have a4:Ext w3 W2:=ad w3 (a7.trans av) (nL a7.size an);have b8:=ap.ext a4;obtain⟨m,fm,HW⟩:=id b8;refine ρ ?_;refine ld ((Jv hb.m HW.gr hb.n6).at (i:=0) rfl) ?_;refine ρ ?_;refine ldW aq ?_;refine ρ ?_;refine mup KI HW.map (by have:=HW.mle;unfold maxLen;omega) (keyI (c:=c) om) ?_;intro W3 ba ai;have a5:GrN (λk=>k=K.mb) W2 W3:=GrN.by ai λk hk=>by injection hk with hk;exact hk.symm
   have ao:RkV K W3 (q.take k) (λj=>(S j || (decide (j<c) && decide (K.pf j=v))) || decide (j=c)) (M+(c+1)):=⟨_,_,HW.gr.trans a5,ba,by have:=HW.mle;omega,HW.pd.put f32 lc O hd⟩;refine ρ ?_;refine Qw (c+1) sO ⟨lc,(a9.trans (GrN.ext (D.trans a4))).trans a5,ao.same λj _=>?_⟩ om;by_cases e:j=c
   .subst e;simp[hp]
   have:(decide (j<c+1))=decide (j<c):=by by_cases h1:j<c<;>simp[h1]<;>omega
   rw[this];simp[e]
  have hp:¬ K.pf c=v:=Zq h;clear h;refine ρ ?_;refine Qw (c+1) sO ⟨lc,a9.trans (GrN.ext D),((a2.ext D).same λj _=>?_).more om⟩ om;by_cases e:j=c
  .subst e;simp[hp]
  have:(decide (j<c+1))=decide (j<c):=by by_cases h1:j<c<;>simp[h1]<;>omega
  rw[this]
 have b1:c=K.f:=by have:=oF h;omega
 subst b1;clear h;refine ρ ?_;refine Kp ⟨rfl,a9,a2.same λj hj=>?_⟩;simp[hj]
theorem Jtv(hF:SeF K)(hb:RkB K b2 b3 b5 b6 PA pc q)(hV:RkV K w y S M):
  Ret Tryz.prog 137 [.pointer (some ⟨b6,0,none⟩)] w λu w'=>NatV w' u (K.X.prodS S y)/\Fresh w u/\Ext w w':=by
 have f32:=hF.ip.f32;obtain⟨m,fm,H⟩:=id hV;have a2:=Jv hb.m H.gr hb.n6;obtain⟨g,hg⟩:∃ g:(Lit->Bool)->Nat->Nat,g=λleft c=>if S c=true/\left (.int .i64 (c:Int))=false then K.X.T c y else 1:=⟨_,rfl⟩
 have aq:∀ left c,g left c<=4294967296^20:=λleft c=>by
  rw[hg];simp only;split
  .rw[K.T];exact hF.ip.big _ _
  repeat grind
 have ao:∀ left,Nb (Jd K.f (g left)):=λleft=>Nb.pow (k:=K.f) (Jxg (Nat.pow_pos (by decide)) λc _=>aq left c) om;refine Jz Tryz.func137 Tryz.ntmps137 rfl kr rfl ?_;refine ρ ?_;refine cl (Jxt 1 (by decide) _) ?_;rintro G w1 ⟨a8,ac,D⟩;refine ρ ?_;refine ld ((a2.ext D).at (i:=0) rfl) ?_;refine ρ ?_;refine rngm KI (H.map.ext D) ?_;intro w2 r cnt Z a7 af;have lr:w.heap.size<=r:=nL D.size a7;refine ρ ?_;refine Xm (fun (left:Lit->Bool) (cnt:Nat) (G:Value)=>[(2,G),(7,.pointer (some ⟨r,0,none⟩))])
  (λleft cnt G w'=>Ext w w'/\RgS Tryz.prog 3 w' K.mb r m fm left cnt/\NatX (λk=>k=r) w' G (Jd K.f (g left))/\Fresh w G) (λ_ cnt _=>cnt) _ cnt G sB ⟨D.trans Z,af,?_,ac⟩ ?_
 .have e:Jd K.f (g λkl=>(fm kl).isSome)=1:=Qjp λc hc=>by
   rw[hg];simp only;rw[if_neg];rintro⟨h1,h2⟩;obtain⟨d,p,h3,_⟩:=H.pd.1 c hc h1;rw[h3]at h2;cases h2
  rw[e];exact(NatX.old (N:=λ_=>False) ⟨a8,λ_ _ _ _ _ h=>h⟩ λk hk=>.inr (by rw[hk];exact a7)).ext Z
 clear a8 ac af Z D G cnt;rintro left cnt G w3 ⟨a4,aw,a1,ar⟩;refine ρ ?_;refine nxtm KI aw (λhl=>?_) (λkey v kl w4 ag ay b1 ab ae ap a9 au=>?_)
 .refine ρ ?_;have e:Jd K.f (g left)=K.X.prodS S y:=Uu λc hc=>by grind
  rw[e]at a1;exact Jj ⟨a1.1,ar,a4⟩
 obtain⟨c,hc,a6,rfl⟩:=H.pd.2 kl (by rw[ab];simp);obtain⟨d,p,J,ht,_⟩:=H.pd.1 c hc a6;rw[ab]at J;injection J with J
 subst J;have O:Ext w w4:=a9.old a4 λk hk=>by rw[hk];exact lr
 refine ρ ?_;refine entm au ?_;refine ρ ?_;refine alc Gg ?_;intro w5 b5 aj av ax;refine ρ ?_;refine stW ax ?_;intro w6 a2 b4 ai;have o:Ext w4 w6:=ai w4 aj av;refine ρ ?_;refine ldW a2 ?_;refine ρ ?_;have a5:Ext K.w0 w6:=(hF.ext H.gr).trans (O.trans o);refine cl (Jrt (ht.ext a5) (by rw[<-K.T];exact Nb.pow (k:=1) (by rw[Nat.pow_one,K.T];exact hF.ip.big _ _) om)) ?_;rintro ut w7 ⟨ak,b7,C⟩;have an:NatV w7 G (Jd K.f (g left)):=(((a1.gr a9).ext o).ext C).1;refine ρ ?_;refine cl (Jbn an ak (ao left).len (Nb.len (Nb.pow (k:=1) (by rw[Nat.pow_one];exact hF.ip.big _ _) om))) ?_;rintro ur w8 ⟨am,aa,a3⟩;refine ρ ?_;refine Qp _ ag ur sO ⟨((O.trans o).trans C).trans a3,((ae.ext o).ext C).ext a3,?_,λad m c e=>?_⟩ ap
 .have ah:r<w7.heap.size:=nM (ae.lt) (o.trans C).size;have e:Jd K.f (g λz=>left z && !z.sameKey (.int .i64 (c:Int)))=Jd K.f (g left)*(K.t c y).sum:=by
   rw[Jgt hc,Jgt (g:=g left) hc];have h1:g left c=1:=by grind
   have h2:g (λz=>left z && !z.sameKey (.int .i64 (c:Int))) c=(K.t c y).sum:=by
    rw[hg];simp only;rw[if_pos ⟨a6,by rw[WideAt.sameKey_self (Jld om)];simp⟩,K.T]
   rw[h1,h2,Nat.one_mul,Nat.mul_comm];congr 1
   refine Uu λj hj=>?_;by_cases ej:j=c
   .rw[if_pos ej,if_pos ej]
   rw[if_neg ej,if_neg ej,hg];simp only;have:(Lit.int .i64 (j:Int)).sameKey (.int .i64 (c:Int))=false:=Maps.sameKey_ne λe'=>ej (Jhs e');grind
  rw[e];exact aa.x am λk hk=>by rw[hk];exact ah
 exact nL (((O.trans o).trans C).size) (aa ad m c e)
end
open Go.RowKit Pl Go.Wk
variable {B0 c m n pc:Nat}{q z:Row}{K:SeK}
def tt2: TT:=(165,{ desc:=.invalid,size:=4,offs:=[0,1,2,3] })::tt
theorem Qfv: TOk Tryz.prog tt2:=⟨⟨_,Tryz.underlying165,kr,kr⟩,Ij⟩
instance:Tab Tryz.prog tt2:=⟨Qfv,mixed⟩
theorem Jvx: Qm Tryz.prog 165=some (.agg #[.slice none 0 0,.slice none 0 0,.bool false,.int .i64 0]):=kr
theorem zBags: Qm Tryz.prog 73=some (.slice none 0 0):=kr
theorem zMapT: Qm Tryz.prog 205=some (.map none):=kr
theorem Jsf{g:Nat->Nat}(h:n<=m): Qy n g<=Qy m g:=by
 induction h with
 | refl=>exact nR _
 | step h ih=>rw[Qy];omega
theorem Jdf(d:Bool)(v:V): ∀ t:Tr,Tr.befT d v t<=t.sum
 | .nil=>nR _
 | .node l a y r=>by
  have h1:=Jdf d v l;have h2:=Jdf d v r;rw[Tr.befT,Tr.sum];grind
theorem SeF.bef(hF:SeF K)(hc:c<K.f){d:Bool}(hd:K.t c z≠.nil->d=K.ds.getD c false)(v:V):
  Tr.befT d v (K.t c z)=bef (K.ds.getD c false) v (K.X.E c (K.X.key c z)):=by
 rw[K.E];by_cases h:K.t c z=.nil
 .rw[h];rfl
 have hs:Uw d (K.t c z).toL:=by
  rw[hd h,<-K.E];exact(hF.ip.srt hF.ne).srt c hc _
 rw[(Tr.befT_eq hs).1,hd h]
theorem SeF.onb(hF:SeF K)(m:Nat)(z:Row): Nb (K.X.others m z):=by
 refine Nb.pow (k:=K.f) (Jxg (Nat.pow_pos (by decide)) λc _=>?_) hF.ip.f32;split
 .rw[K.T];exact hF.ip.big _ _
 repeat grind
theorem SeF.rk_le(hF:SeF K)(hq:q.length<=K.f)(hm:m<=q.length)(hg:K.X.Gp (q.take m)): Nb (rkS K.X K.ds q m) :=
 hF.ip.nbT.le (by have:=hF.ip.rk_inv hF.ne hq hm hg;rw[hF.ip.len];exact this)
section
variable {f:Nat} {ds:List Bool} {kf:Nat->Nat} {pf:Nat->Int} {BB:Nat->List BkT} {tot:Nat} {L:List Row}
theorem Qwj{w:World}{x:Value}{PA:Option Addr}(tb:TB B0 w)(ix:IxV w x f ds kf pf BB tot)(ip:IxP f ds kf pf BB tot L)(ne:tot≠0)(hq:RdR w PA q)(hqc:q.length<=pc)(hqf:q.length<=f):
  Ret Tryz.prog 96 [x,.slice PA q.length pc] w λu w'=>∃(bv cv:Value) (st:Nat),u=.agg #[bv,cv,.bool (decide (0<(wiL L q).length)),.int .i64 (st:Int)]/\NatV w' bv (Qq ds L q)/\NatV w' cv (wiL L q).length/\(st<=Qy f λv=>hmB (BB v))/\Ext w w':=by
 obtain⟨DA,dc,BA,cb,KA,ck,g4,cp,tv,gk,gf,rfl,gw,gx,hD,hB,hK,hP,f5,gl⟩:=id ix.ex;obtain⟨TA,tc,rfl,_⟩:=id f5;have f32:=ip.f32;refine Jz Tryz.func96 Tryz.ntmps96 rfl kr rfl ?_;refine ρ ?_;refine bx ?_;intro w1 b2 f3 h4 cy;refine ρ ?_;refine bx ?_;intro w2 b3 ba gz ej;refine ρ ?_;refine alc Jvx ?_;intro w3 b4 af gy eh;have d9:=f3.trans ba;have ak:=d9.trans af;refine ρ ?_;refine ldW ((cy.ext ba).ext af) ?_;refine ρ ?_;refine cl (Xjm (ix.ext ak)) ?_;rintro u w4 ⟨⟨A,c,rfl,hc,hR,hf⟩,a5⟩;refine ρ ?_;refine alc zBags ?_;intro w5 b5 f2 fn g0;refine ρ ?_;refine Vb g0 ?_ rfl;intro w6 bw gq f0;have O:Ext w4 w6:=f0 w4 f2 fn;refine ρ ?_;refine mkm 3 ?_;intro w7 mb d7 gn hM;refine ρ ?_;refine alc zMapT ?_;intro w8 b6 ez fl fz;refine ρ ?_;refine Vb fz ?_ rfl;intro w9 ee dq ey;have ai:Ext w7 w9:=ey w7 ez fl;have bf:=d7.trans ai;have a4:=O.trans bf;have bg:=ak.trans (a5.trans a4)
 have ea:=hM.ext ai;have ek:=((cy.ext ba).ext af).ext (a5.trans a4);have ei:=(ej.ext af).ext (a5.trans a4);have eg:=eh.ext (a5.trans a4);have ef:=bw.ext bf;have gg:=hM.lt;have l1:=cy.lt;have l2:=ej.lt;have l3:=eh.lt;have l5:=bw.lt;have z1:=(ba.trans (af.trans (a5.trans O))).size;have z2:=(af.trans (a5.trans O)).size;have z3:=(a5.trans O).size;have z4:=O.size;have z7:=d7.size;have g6:=ai.size;have z0:=(ak.trans (a5.trans O)).size;have g8:=bg.size;obtain⟨K,ay⟩:∃ K:SeK,K=⟨B0,w,w9,mb,w9.heap.size,.slice DA f dc,.slice BA f cb,.slice KA f ck,.slice g4 f cp,.slice TA (Jq tot).length tc,A,c,f,ds,kf,pf,BB,tot,L⟩:=⟨_,rfl⟩;have e1:Off (λk=>k=mb) w9 (λu=>Rd u 3 A f (Qk f (Qr kf pf))):=Ic (hR.ext a4) λh0 ad e (e2:ad.block=mb)=>by
  obtain⟨h5,e',fb⟩:=hR.2 h0;rw[e]at e';injection e' with e'
  have:=fb.1;rw[<-e']at this;omega
 have o:SeF K:=by
  subst ay;exact⟨tb,ix,ip,ne,bg,by show w.heap.size<=mb;omega,ea.lt,Nat.le_refl _,hc,e1,Qqm⟩
 have G:RkB K b2 b3 b5 b6 PA pc q:=by
  subst ay;exact⟨ek,ei,ef,ee,by show b2≠mb;omega,by show b3≠mb;omega,by show b5≠mb;omega,by show b6≠mb;omega,hq,hqc⟩
 have fr:RkV K w9 (q.take 0) (λ_=>false) 0:=by
  subst ay;exact⟨0,λ_=>none,GrN.refl _ _,ea,Nat.le_refl _,λc _ h=>(by cases h),λkl h=>absurd rfl h⟩
 have g1:K.f=f/\K.ds=ds/\K.kf=kf/\K.pf=pf/\K.BB=BB/\K.tot=tot/\K.L=L/\K.w1=w9/\K.w0=w/\K.mb=mb:=by subst ay;exact⟨rfl,rfl,rfl,rfl,rfl,rfl,rfl,rfl,rfl,rfl⟩
 obtain⟨rfl,rfl,rfl,rfl,rfl,rfl,rfl,f4,c8,bl⟩:=g1;clear ay;have dh:∀ c,c<K.f->K.pf c<(c:Int):=λc hc=>(o.ip.par ne hc).2;have fe:K.X.Ok:=o.ip.ok ne;have fd:∀ v z,(K.t v z).ht<=hmB (K.BB v):=λv z=>Qgg _ _;have dl:∀ v z,(K.t v z).ht<=65536:=λv z=>nL (Tr.ht_le _) (o.ip.siz _ _);have bi:∀ v z,Nb (K.t v z).sum:=λv z=>Nb.pow (k:=1) (by rw[Nat.pow_one];exact o.ip.big _ _) om;have dd:∀ v z,(K.t v z).sz<=1000000:=λv z=>nL (o.ip.siz _ _) (by decide);refine ρ ?_;refine alc Jvx ?_;intro gc C aj fk ed;refine ρ ?_;refine clv (Jtx (k:=0) o G (fr.ext aj) om (AX.Gp.nil) (Nat.zero_le _) (Nat.zero_le _) (v:=-1) rfl) ?_;rintro u gb ⟨rfl,av,ax⟩;have l9:=ed.lt;have g7:=aj.size;have n9:¬ C=K.mb:=by rw[bl];omega
 have n4:¬ b4=K.mb:=by rw[bl];omega
 have b7:=Jv ed av n9;have b8:=Jv (eg.ext aj) av n4;have d1:b4≠C:=om
 have d0:K.w1.heap.size<=C:=by rw[f4];exact fk
 refine ρ ?_;refine ld ((Jv G.p ax.gr G.n3).at (i:=0) rfl) ?_;refine ρ ?_;refine Xm (fun (i:Nat) (bv:Value) (st:Nat)=>[(4,.pointer (some ⟨b4,0,none⟩)),(6,.pointer (some ⟨b6,0,none⟩)),(7,.func (.func 136) #[] #[.pointer (some ⟨b5,0,none⟩),.pointer (some ⟨b2,0,none⟩),.pointer (some ⟨b3,0,none⟩),.pointer (some ⟨b6,0,none⟩)]),(8,.func (.func 137) #[] #[.pointer (some ⟨b6,0,none⟩)]),(9,.pointer (some ⟨C,0,none⟩)),(23,.slice PA q.length pc),(24,.int .i64 (q.length:Int)),(25,.int .i64 (i:Int))])
  (λi bv st w'=>i<=q.length/\K.X.Gp (q.take i)/\RkV K w' (q.take i) (pS K.pf i i) (32*(i+1))/\Blk w' C 165 [bv,.slice none 0 0,.bool false,.int .i64 (st:Int)]/\Blk w' b4 165 [.slice none 0 0,.slice none 0 0,.bool false,.int .i64 0]/\NatX (λk=>k=K.mb∨k=C∨k=b4) w' bv (rkS K.X K.ds q i)/\(st<=Qy i λv=>hmB (K.BB v))/\st<=65536*i) (λi _ _=>q.length-i) 0 (.slice none 0 0) 0 sB
  ⟨Nat.zero_le _,AX.Gp.nil,?_,b7,b8,NatX.nil _,Nat.le_refl _,Nat.le_refl _⟩ ?_
 .refine(ax.same λc hc=>?_).more om;have:=o.ip.par ne hc;unfold pS;rw[Bool.eq_iff_iff];simp only[Bool.or_eq_true,Bool.and_eq_true,decide_eq_true_eq];constructor
  .rintro(h|h)
   .cases h
   exact⟨Nat.zero_le _,om⟩
  rintro⟨_,h⟩;right;omega
 clear b7 b8 ax av;rintro i bv st v5 ⟨hi,ag,a9,cx,cq,aw,f8,gm⟩;have ch:(q.take i).length=i:=Qxx hi;have d8:=o.ext a9.gr;refine ρ ?_;refine ci (λh=>?_) (λh=>?_)
 .have li:i<q.length:=by have:=oT h;omega
  have a8:i<K.f:=om
  clear h;have dg:=Rd.ext hq (c8 ▸ d8);refine ρ ?_;refine ixq 3 i dg li ?_;refine ρ ?_;refine lds (cs:=(q.getD i V0).cells) (λj u' ce=>RdR.cell dg li ce) ?_;refine ρ ?_;refine alc (cs:=V0.cells) Yz ?_;intro v6 g3 ae e4 c1;refine ρ ?_;refine stb (cs':=(q.getD i V0).cells) c1 ?_ (V.one _);intro v7 fy dt ew;have ah:Ext v5 v7:=ew v5 ae e4;have fp:=a9.ext ah;obtain⟨m0,fm,H⟩:=id fp;obtain⟨d,p,fh,hT,hd⟩:=H.pd.1 i a8 (by unfold pS;simp[dh i a8]);refine ρ ?_;refine ld ((Jv G.m H.gr G.n6).at (i:=0) rfl) ?_;refine ρ ?_;refine mlk KI H.map Qcn (keyI (c:=i) om) ?_;rw[fh];refine ρ ?_;refine alc Gg ?_;intro v8 g2 eu e3 bz;refine ρ ?_;refine stW bz ?_;intro v9 cz bn c5;have aa:Ext v7 v9:=c5 v7 eu e3;have H9:=H.ext aa;refine ρ ?_;refine ld ((Jv G.m H9.gr G.n6).at (i:=0) rfl) ?_;refine ρ ?_;refine mdn KI H9.map (keyI (c:=i) om) ?_;intro c3 eb du;have a1:GrN (λk=>k=K.mb) v9 c3:=GrN.by du λk hk=>by injection hk with hk;exact hk.symm
  have g5:K.mb<v7.heap.size:=H.map.lt;have bm:K.mb<v5.heap.size:=nM o.m2 a9.gr.size;have gj:=c1.lt;have ga:=ah.size;have g9:=aa.size;have gi:=bz.lt;have er:¬ g3=K.mb:=om
  have ep:¬ g2=K.mb:=om
  have bp:RkV K c3 (q.take i) (pS K.pf (i+1) i) (32*(i+1)):=RkV.same ⟨_,_,H9.gr.trans a1,eb,H9.mle,H9.pd.drop o.ip.f32 a8⟩ λc _=>Qpp;have bd:=Jv (fy.ext aa) a1 er;have bc:=Jv cz a1 ep;have a2:GrN (λk=>k=K.mb) v5 c3:=((GrN.ext ah).trans (GrN.ext aa)).trans a1;have ec:=Jv cx a2 n9;have br:=Jv cq a2 n4;have cn:=aw.gr (a2.mono λk _ h=>.inl h);refine ρ ?_;refine ldW bc ?_;refine ρ ?_;refine lds (cs:=(q.getD i V0).cells) (λj u' ce=>bd.at ce) ?_;refine ρ ?_;have c7:=o.ext bp.gr;refine cl (Xyb (hT.ext c7) (bi _ _) (dd _ _)) ?_;rintro u c2 ⟨sv,e,rfl,he,f7,d6⟩;have c4:Ext c2 c2.drew:=(Ext.refl c2).drew;have J:=d6.trans c4;have e5:=bp.ext J;have cr:=ec.ext J;have dx:=cn.ext J;have gu:=fd i (q.take i);have gt:=dl i (q.take i);refine ρ ?_;refine drN (λ_=>False) 10 [(0,0),(0,1),(0,2),(0,3),(1,4),(1,5),(1,6),(0,7),(2,8)] kr ?_;refine ρn ?_;refine nld (λw' hg=>(cr.ext hg.toExt).at (i:=0) rfl) ?_
  refine ρn ?_;refine nop ?_;refine clv (Jtv o G e5) ?_;rw[Qnn];rintro pv eo ⟨fa,_,D⟩;refine ρ ?_;refine Jm (GrN.ext D) ?_;refine ρn ?_;refine nop ?_;have de:=(f7.ext c4).ext D;refine cl (Jbn de fa ((bi i (q.take i)).le (Jdf _ _ _)).len (o.onb _ _).len) ?_;rintro mv gd ⟨dk,_,ab⟩;rw[o.bef a8 hd]at dk;refine ρ ?_;refine Jm (GrN.ext ab) ?_;refine ρn ?_;refine nop ?_;have cm:=((dx.ext D).ext ab).1;have cg:Nb (bef (K.ds.getD i false) (q.getD i V0) (K.X.E i (K.X.key i (q.take i)))*K.X.others i (q.take i)):=by
   refine(o.pnb i (q.take i)).le ?_;have h1:=fe.pend_split (y:=q.take i) (by rw[ch];exact a8);rw[ch]at h1;rw[h1,<-o.bef a8 hd,K.T];exact nO _ (Jdf _ _ _)
  refine cl (Jjt cm dk (o.rk_le hqf hi ag).len cg.len) ?_;rintro ge d3 ⟨ao,dv,be⟩;have f9:rkS K.X K.ds q i+bef (K.ds.getD i false) (q.getD i V0) (K.X.E i (K.X.key i (q.take i)))*K.X.others i (q.take i)=rkS K.X K.ds q (i+1):=rfl;rw[f9]at ao;obtain⟨ZA,zc,rfl,_⟩:=id ao;refine ρ ?_;refine Jm (GrN.ext be) ?_;refine ρn ?_;have Z:=(D.trans ab).trans be;have en:=c4.trans Z;have b1:=cr.ext Z;refine Xh ?_;refine sto (b1.at (i:=0) rfl) (b1.frozen 0) ?_;obtain⟨a3,an⟩:∃ a3,a3=d3.setCell ((⟨C,0,none⟩:Addr).add 0) (.slice ZA (Jq (rkS K.X K.ds q (i+1))).length zc):=⟨_,rfl⟩;rw[<-an];have au:GrN (λk=>k=C) d3 a3:=by rw[an];exact GrN.set _ rfl
  have ac:Blk a3 C 165 [.slice ZA (Jq (rkS K.X K.ds q (i+1))).length zc,.slice none 0 0,.bool false,.int .i64 (st:Int)]:=by rw[an];exact b1.set 0 _
  have e7:=(e5.ext Z).off au d0 o;have e9:=Jv ((br.ext J).ext Z) au d1;have et:C<eo.heap.size:=(cr.ext D).lt;have dj:NatX (λk=>k=K.mb∨k=C∨k=b4) a3 (.slice ZA (Jq (rkS K.X K.ds q (i+1))).length zc) (rkS K.X K.ds q (i+1)):=by
   refine NatX.gr (N:=λk=>k=K.mb∨k=C∨k=b4) ⟨ao,λh0 ad m c e=>?_⟩ (au.mono λk _ h=>.inr (.inl h));have h1:=dv ad m c e;have h2:=ab.size;have h3:=(br.ext (J.trans D)).lt;rintro(h|h|h)
   .have:=nM bm (a2.size);have:=(J.trans D).size;omega
   .omega
   omega
  refine ω5 ?_;refine Ug ?_;refine ρn ?_;refine ρ ?_;refine ld (ac.at (i:=3) rfl) ?_;refine ρ ?_;refine sto (ac.at (i:=3) rfl) (ac.frozen 3) ?_;obtain⟨a7,am⟩:∃ a7,a7=a3.setCell ((⟨C,0,none⟩:Addr).add 3) (.int .i64 ((st+e:Nat):Int)):=⟨_,rfl⟩;have cd:a3.setCell ((⟨C,0,none⟩:Addr).add 3) (.int .i64 ((st:Int)+(e:Int)))=a7:=am.symm;refine Eq.mpr (congrArg _ cd) ?_;have ar:GrN (λk=>k=C) a3 a7:=by rw[am];exact GrN.set _ rfl
  have bs:Blk a7 C 165 [.slice ZA (Jq (rkS K.X K.ds q (i+1))).length zc,.slice none 0 0,.bool false,.int .i64 ((st+e:Nat):Int)]:=by rw[am];exact ac.set 3 _
  have bo:=e7.off ar d0 o;have bq:=Jv e9 ar d1;have bj:=dj.gr (ar.mono λk _ h=>.inr (.inl h));have e0:=o.has a8 (z:=q.take i) hd (q.getD i V0);have df:(st+e<=Qy (i+1) λv=>hmB (K.BB v)):=by rw[Qy];omega
  have dn:K.X.Gp (q.take (i+1))↔Tr.hasT d (q.getD i V0) (K.t i (q.take i))=true:=(Jgn (o.ip.srt ne) li ag).trans e0.symm;refine ρ ?_;refine ci (λh=>?_) (λh=>?_)
  .have di:¬ K.X.Gp (q.take (i+1)):=λhg=>by
    rw[dn.1 hg]at h;cases h
   clear h;have bh:wiL K.L q=[]:=o.ip.wi_none ne λhg=>di (hg.pre (i+1));refine ρ ?_;refine ldW bs ?_;refine ρ ?_;refine stW bq ?_;intro d2 e8 a6 d5;refine ρ ?_;have c6:=d5 w (c8 ▸ o.ext bo.gr) om;have cj:GrN (λk=>k=b4) a7 d2:=GrN.by a6 λk hk=>by injection hk with hk;exact hk.symm
   refine Jqh e8 ⟨_,_,st+e,by rw[bh];rfl,?_,?_,Nat.le_trans df (Jsf om),c6⟩
   .rw[o.ip.rk_stop ne hqf li ag di];exact(bj.gr (cj.mono λk _ h=>.inr (.inr h))).1
   rw[bh];exact NatV.nil _
  have d4:Tr.hasT d (q.getD i V0) (K.t i (q.take i))=true:=by
   cases hh:Tr.hasT d (q.getD i V0) (K.t i (q.take i)) with
   | true=>rfl
   | false=>rw[hh]at h;cases h
  clear h;have dm:=dn.2 d4;have f6:q.take (i+1)=q.take i++[q.getD i V0]:=Qc V0 li;have co:RkV K a7 (q.take (i+1)) (pS K.pf (i+1) i) (32*(i+1)):=by
   rw[f6];exact bo.app o (λc _ hs=>by
    rw[ch];unfold pS at hs;simp only[Bool.and_eq_true,decide_eq_true_eq]at hs;exact hs.2) _
  refine ρ ?_;refine clv (Jtx (k:=i+1) o G co om dm om om (v:=(i:Int)) om) ?_;rintro u d2 ⟨rfl,a6,e6⟩;refine ρ ?_;exact Qp (i+1) _ (st+e) sO ⟨li,dm,(e6.same λc hc=>Qpq (dh c hc)).more om,Jv bs a6 n9,Jv bq a6 n4,bj.gr (a6.mono λk _ h=>.inl h),df,om⟩ om
 have fc:i=q.length:=by have:=oF h;omega
 clear h;subst fc;rw[List.take_length]at ag a9;refine ρ ?_;refine clv (Jtv o G a9) ?_;rw[Qnm];rintro cv v6 ⟨dw,fi,ae⟩;obtain⟨em,el,rfl,_⟩:=id aw.1;obtain⟨CA,cc,rfl,_⟩:=id dw;have cw:=cx.ext ae;have fw:=cq.ext ae;have fq:=a9.ext ae;have dz:=aw.ext ae;have et:=cx.lt;have gh:=cq.lt;have bm:K.mb<v5.heap.size:=nM o.m2 a9.gr.size;have fj:NatX (λk=>k=K.mb∨k=C∨k=b4) v6 (.slice CA (Jq (K.X.pend q.length q)).length cc) (K.X.pend q.length q):=⟨dw,λ_ ad m c e=>by
  have:=fi ad m c e;rintro(h|h|h)<;>omega⟩
 refine ρ ?_;refine sto (cw.at (i:=1) rfl) (cw.frozen 1) ?_;obtain⟨v7,ca⟩:∃ v7,v7=v6.setCell ((⟨C,0,none⟩:Addr).add 1) (.slice CA (Jq (K.X.pend q.length q)).length cc):=⟨_,rfl⟩;rw[<-ca];have dt:GrN (λk=>k=C) v6 v7:=by rw[ca];exact GrN.set _ rfl
 have bb:Blk v7 C 165 [.slice em (Jq (rkS K.X K.ds q q.length)).length el,.slice CA (Jq (K.X.pend q.length q)).length cc,.bool false,.int .i64 (st:Int)]:=by rw[ca];exact cw.set 1 _
 refine ρ ?_;refine ld (bb.at (i:=1) rfl) ?_;refine ρ ?_;refine sto (bb.at (i:=2) rfl) (bb.frozen 2) ?_;have da:=o.ip.wi_len ne hqf ag;have fg:decide (0<((Jq (K.X.pend q.length q)).length:Int))=decide (0<(wiL K.L q).length):=by
  rw[da];show decide _=decide (0<K.X.pend q.length q);rcases Nat.eq_zero_or_pos (K.X.pend q.length q) with h0|h0
  .rw[h0,limbs_0];rfl
  rw[decide_eq_true h0,decide_eq_true (by have:=limbs_pos' (show K.X.pend q.length q≠0 by omega);omega)]
 obtain⟨v8,c9⟩:∃ v8,v8=v7.setCell ((⟨C,0,none⟩:Addr).add 2) (.bool (decide (0<(wiL K.L q).length))):=⟨_,rfl⟩;have db:v7.setCell ((⟨C,0,none⟩:Addr).add 2) (.bool (decide (0<((Jq (K.X.pend q.length q)).length:Int))))=v8:=by rw[fg];exact c9.symm
 refine Eq.mpr (congrArg _ db) ?_;have ff:GrN (λk=>k=C) v7 v8:=by rw[c9];exact GrN.set _ rfl
 have fx:Blk v8 C 165 [.slice em (Jq (rkS K.X K.ds q q.length)).length el,.slice CA (Jq (K.X.pend q.length q)).length cc,.bool (decide (0<(wiL K.L q).length)),.int .i64 (st:Int)]:=by rw[c9];exact bb.set 2 _
 have aq:=dt.trans ff;have fo:=fq.off aq d0 o;have fu:=Jv fw aq d1;refine ρ ?_;refine ldW fx ?_;refine ρ ?_;refine stW fu ?_;intro v9 ft bn c5;have c6:=c5 w (c8 ▸ o.ext fo.gr) om;have dq:GrN (λk=>k=b4) v8 v9:=GrN.by bn λk hk=>by injection hk with hk;exact hk.symm
 have ap:GrN (λk=>k=K.mb∨k=C∨k=b4) v6 v9:=(aq.mono λk _ h=>.inr (.inl h)).trans (dq.mono λk _ h=>.inr (.inr h));refine ρ ?_;refine Jqh ft ⟨_,_,st,rfl,?_,?_,Nat.le_trans f8 (Jsf hqf),c6⟩
 .rw[o.ip.rk_end ne hqf ag];exact(dz.gr ap).1
 rw[da];exact(fj.gr ap).1
end
open Go.RowKit Pl Go.Wk
variable {B0 pc:Nat}
section
variable {w:World} {x:Value} {f:Nat} {ds:List Bool} {kf:Nat->Nat} {pf:Nat->Int} {BB:Nat->List BkT} {tot:Nat} {L:List Row}
theorem Qlz(tb:TB B0 w)(h:IxA w x f ds kf pf BB tot L){PA:Option Addr}{q:Row}(hq:RdR w PA q)(hqc:q.length<=pc):
  Ret Tryz.prog 163 [x,.slice PA q.length pc] w λu w'=>Ext w w'/\(f<q.length->u=.tuple #[.slice none 0 0,.slice none 0 0,.int .i64 0,.int .i64 6]) /\
   (q.length<=f->∃(lv hv:Value) (st:Nat),u=.tuple #[lv,hv,.int .i64 (st:Int),.int .i64 0]/\NatV w' lv (Qq ds L q)/\NatV w' hv (Qq ds L q+(wiL L q).length)/\st<=Qy f λv=>hmB (BB v)):=by
 have ix:=h.ix;have Z:=h.ip;obtain⟨DA,dc,BA,cb,KA,ck,au,cp,tv,am,ak,rfl,aq,ar,hD,hB,hK,hP,ac,an⟩:=id ix.ex;obtain⟨TA,tc,rfl,_⟩:=id ac;refine Jz Tryz.func163 Tryz.ntmps163 rfl kr rfl ?_;refine ρ ?_;refine bx ?_;intro w1 b O hb a3;refine ρ ?_;refine ldW a3 ?_;refine ρ ?_;refine cl (Jch (ix.ext O)) ?_;rintro u w2 ⟨rfl,G⟩;refine ρ ?_;refine ci (λh=>?_) (λh=>?_)
 .have ao:f<q.length:=by have:=oT h;omega
  refine ρ ?_;exact Ie ⟨O.trans G,λ_=>rfl,λh=>om⟩
 have ae:q.length<=f:=by grind
 clear h;refine ρ ?_;refine ldW (a3.ext G) ?_;refine ρ ?_;refine cl (Jxx (ix.ext (O.trans G)) Z.nbT) ?_;rintro u w3 ⟨ab,_,a6⟩;have o:=(O.trans G).trans a6;obtain⟨UA,uc,rfl,_⟩:=id ab;refine ρ ?_;refine ci (λh=>?_) (λh=>?_)
 .have h0:tot=0:=by
   have:=Xa h;grind [Nat.eq_zero_or_pos,tot,limbs_pos']
  have hL:L=[]:=List.eq_nil_of_length_eq_zero (by rw[<-Z.len];exact h0);refine ρ ?_;refine Ie ⟨o,λh=>om,λ_=>⟨_,_,0,rfl,?_,?_,Nat.zero_le _⟩⟩
  .rw[hL];exact NatV.nil _
  rw[hL];exact NatV.nil _
 have ne:tot≠0:=λe=>by
  have:=Zq h;grind [limbs_0]
 clear h;refine ρ ?_;refine ldW ((a3.ext G).ext a6) ?_;refine ρ ?_;refine cl (Qwj (tb.ext o) (ix.ext o) Z ne (Rd.ext hq o) hqc ae) ?_;rintro u w4 ⟨bv,cv,st,rfl,a2,a7,ad,aa⟩;obtain⟨XA,xc,rfl,_⟩:=id a2;obtain⟨YA,yc,rfl,_⟩:=id a7;refine ρ ?_;refine alc Jvx ?_;intro w5 b8 a9 ah ai;refine ρ ?_;refine stW ai ?_;intro w6 aj ap a8;have a5:Ext w4 w6:=a8 w4 a9 ah;have a4:Ext w6 w6.drew:=(Ext.refl w6).drew;have C:=a5.trans a4;have D:=aj.ext a4;have n1:(Jq (Qq ds L q)).length<=1000:=(Z.nbT.le (by rw[Z.len];exact Jvg ds L q)).len;have n2:(Jq (wiL L q).length).length<=1000:=(Z.nbT.le (by rw[Z.len];exact List.length_filter_le _ _)).len;refine ρ ?_;refine drN (λ_=>False) 15 [(0,0),(0,1),(0,3),(0,4),(0,5),(0,6),(0,8),(0,9),(1,2),(1,7),(0,10),(0,11),(0,12),(0,13)] kr ?_;refine ρn ?_;refine nld (λw' hg=>(D.ext hg.toExt).at (i:=0) rfl) ?_;refine ρn ?_;refine nld (λw' hg=>(D.ext hg.toExt).at (i:=0) rfl) ?_
 refine ρn ?_;refine nld (λw' hg=>(D.ext hg.toExt).at (i:=1) rfl) ?_;refine ρn ?_;refine nld (λw' hg=>(D.ext hg.toExt).at (i:=3) rfl) ?_;refine ρn ?_;refine nop ?_;refine cl (Jkx (a2.ext C) n1) ?_;rintro lv w7 ⟨af,_,J⟩;refine ρ ?_;refine Jm (GrN.ext J) ?_;refine ρn ?_;refine nop ?_;refine cl (Jhm ((a2.ext C).ext J) ((a7.ext C).ext J) n1 n2) ?_;rintro hv w8 ⟨ag,a1⟩;refine ρ ?_;refine Jm (GrN.ext a1) ?_;refine ρn ?_;refine ρ ?_;exact Ie ⟨((o.trans aa).trans C).trans (J.trans a1),λh=>om,λ_=>⟨lv,hv,st,rfl,af.ext a1,ag,ad⟩⟩
end
end Go.Proofs.YtbcdghbonlifdaaGreatDoor
