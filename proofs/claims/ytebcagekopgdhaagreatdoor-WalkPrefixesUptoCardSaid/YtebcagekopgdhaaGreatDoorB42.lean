/- Part 42. -/
import Derived.Test.YtebcagekopgdhaaGreatDoorB39
import Derived.Test.YtebcagekopgdhaaGreatDoorB41
set_option linter.unusedVariables false
set_option maxRecDepth 100000
set_option maxHeartbeats 40000000
namespace Go.Proofs.YtebcagekopgdhaaGreatDoor
open Go.RowKit Pl Go.Wk
attribute [local irreducible] WC WL QX WD WDB WP WN WG WH WM
def ansF(m:Nat)(vars:Nat->List Nat)(rs:Nat->List Row)(n f:Nat)(ds:List Bool): List Row:=((Xc m vars rs n).map (List.take f)).foldl (Zj ds) []
theorem Qxh(m:Nat)(vars:Nat->List Nat)(rs:Nat->List Row)(n f:Nat)(ds:List Bool): IsSet ds ((Xc m vars rs n).map (List.take f)) (ansF m vars rs n f ds):=by
 have:=Jzq (ds:=ds) ((Xc m vars rs n).map (List.take f)) (done:=[]) (l:=[]) ⟨List.Pairwise.nil,λx=>Iff.rfl⟩;rwa [List.nil_append]at this
theorem Qbh(ds:List Bool)(l:List Row)(r:Row): (Zj ds l r).length<=l.length+1:=by
 unfold Zj;split
 .omega
 .have:=Jfk ds l r;simp;omega
section
variable {n f:Int} {pA VA RA:Option Addr} {pn pc vc rc N m:Nat} {vars:Nat->List Nat} {rs:Nat->List Row} {w:World}
theorem Jfv(hP:RefP N m vars rs){k:Nat}(hk:k<=N): (Qe m vars rs (List.range N) k).length<=5000:=nL (Qqx hP.asc hP.len hP.cov hk) hP.cnt
def Vp(m:Nat)(vars:Nat->List Nat)(rs:Nat->List Row)(vl:List Nat)(k:Nat)(r:Row)(j:Nat): List Row:=(((Qu m vars rs (vl.getD k 0)).take j).map λx=>r++[x]).filter (Yg m vars rs (vl.take (k+1)))
theorem Qyw{s:Nat}(hP:RefP N m vars rs)(hM:RInM w VA RA m vars rs)(hs:s<4294967296)(hbk:bk s 32=List.range N):
  Ret Tryz.prog 156 [.agg (Vv n f pA pn pc VA vc RA rc m).toArray,.int .u32 (s:Int)] w λu w'=>RowsV w' u (Xc m vars rs N)/\Ext w w':=by
 have cx:=hP.m32;have cw:=hP.n32;refine Jz Tryz.func156 Tryz.ntmps156 rfl kr rfl ?_;refine ρ ?_;refine bx (cs:=Vv n f pA pn pc VA vc RA rc m) ?_;intro w1 b a8 hb hB;refine ρ ?_;refine cl (Qyt hs w1) ?_;rintro lv w2 ⟨bp,c6⟩;rw [hbk]at bp;obtain ⟨LA,lc,rfl,cb,ca,bb⟩:=id bp.n;rw [List.length_range]at cb ca bb ⊢;refine ρ ?_;refine bsl Ir ?_;intro w3 b3 bi d6 d8;refine ρ ?_;refine bsl (λw=>Jvx (.slice (some ⟨b3,0,none⟩) 0 0) w _ _ _ rfl) ?_;intro w4 b4 bh d5 cm;have bm:=(c6.trans bi).trans bh;have bl:=bi.trans bh;have h0:RowsV w4 (.slice (some ⟨b4,0,none⟩) 1 1) (Qe m vars rs (List.range N) 0):=⟨[(.slice (some ⟨b3,0,none⟩) 0 0,[])],_,_,rfl,rfl,by simp,by simp,cm.rd (n:=1) rfl,λp hp=>by
  rw [List.mem_singleton.1 hp];exact ⟨_,_,rfl,by simp,by simp,Rd.nil⟩⟩
 refine ρ ?_;refine Jt (fun (i:Nat) (ov:Value)=>[(2,.pointer (some ⟨b,0,none⟩)),(5,.slice LA N lc),(6,ov),(7,.int .i64 (i:Int))])
  (λi ov w'=>i<=N/\Ext w4 w'/\RowsV w' ov (Qe m vars rs (List.range N) i)) (λi _=>N-i) 0 (.slice (some ⟨b4,0,none⟩) 1 1) sB ⟨Nat.zero_le _,Ext.refl _,h0⟩ ?_
 clear h0;rintro i ov w5 ⟨hi,b1,b7⟩;have J:=bm.trans b1;have ao:=bl.trans b1;have bz:=hB.ext J;refine ρ ?_;refine ci (λh=>?_) (λh=>?_)
 .have li:i<N:=by have:=oT h;omega
  clear h;have bq:=Jfv hP hi;have ag:=Jfv hP (show i+1<=N by omega);have ak:Ext w5 w5.drew:=(Ext.refl w5).drew;have bv:=bb.ext (ao.trans ak);have ba:(Js (nz (List.range N)))[i]?=some (.int .i64 (i:Int)):=by
   have:=Xh (cs:=List.range N) (show i<(List.range N).length by simpa using li);rwa [Ik li]at this
  refine ρ ?_;refine dr [(0,0),(0,1),(0,2),(0,3),(0,4),(1,5),(0,6)] kr ?_;refine ρd ?_;refine Qk (cs:=Vv n f pA pn pc VA vc RA rc m) (λj u hu=>(bz.ext ak).at hu) ?_;refine ρd ?_;refine dix i bv li ?_;refine ρd ?_;refine dld (bv.cell ba) ?_;refine ρd ?_;refine dcl (Qys hP (hM.ext (a8.trans (J.trans ak))) i) ?_;rintro xv w6 ⟨⟨c5,cz⟩,a4⟩;refine ⟨a4,?_⟩;have a6:=ak.trans a4;obtain ⟨OA,oc,rfl,d3,d2,cv,ck,cj⟩:=id (b7.ext a6).parts;obtain ⟨XA,xc,rfl,d0,cy,ch⟩:=id c5;refine ρd ?_;refine ρ ?_;refine Jt (fun (k:Nat) (nv:Value)=>[(2,.pointer (some ⟨b,0,none⟩)),(5,.slice LA N lc),(6,.slice OA (Qe m vars rs (List.range N) i).length oc),(7,.int .i64 (i:Int)),(8,nv),(9,.slice XA (Qu m vars rs i).length xc),(10,.int .i64 (k:Int))])
   (λk nv w'=>k<=(Qe m vars rs (List.range N) i).length/\Ext w6 w'/\OwnR w' w6.heap.size nv (((Qe m vars rs (List.range N) i).take k).flatMap λr=>Vp m vars rs (List.range N) i r (Qu m vars rs i).length)) (λk _=>(Qe m vars rs (List.range N) i).length-k) 0 (.slice none 0 0) sB
   ⟨Nat.zero_le _,Ext.refl _,OwnR.nil _ _⟩ ?_
  rintro k nv w7 ⟨O,C,a1⟩;refine ρ ?_;refine ci (λh=>?_) (λh=>?_)
  .have lk:k<(Qe m vars rs (List.range N) i).length:=by have:=oT h;omega
   clear h;obtain ⟨r,hr⟩:∃ r,r=(Qe m vars rs (List.range N) i).getD k []:=⟨_,rfl⟩;have d1:r.length=i:=((Jyb hP.asc hP.len hP.cov i hi r).1 (by rw [hr];exact getD_mem' [] _ lk)).1;obtain ⟨yv,c4,be⟩:=cj k lk;rw [<-hr]at be;obtain ⟨YA,yc,rfl,cp,co,cg⟩:=id be;have b5:Ku m vars rs (List.range N) i (Qe m vars rs (List.range N) i)=(Qe m vars rs (List.range N) i).flatMap λr=>Vp m vars rs (List.range N) i r (Qu m vars rs i).length:=by
    unfold Ku Vp;rw [Ik li,List.take_length]
   have Zf:∀ j,j<=(Qu m vars rs i).length->(((Qe m vars rs (List.range N) i).take k).flatMap (λr=>Vp m vars rs (List.range N) i r (Qu m vars rs i).length)++Vp m vars rs (List.range N) i r j).length<=5000:=λj hj=>by
    refine nL ?_ ag;rw [Qe,b5];conv=>rhs;rw [<-List.take_append_drop k (Qe m vars rs (List.range N) i),List.flatMap_append,List.length_append]
    rw [List.length_append];refine Nat.add_le_add_left ?_ _;have hd:(Qe m vars rs (List.range N) i).drop k=r::(Qe m vars rs (List.range N) i).drop (k+1):=by
     rw [hr];simp [List.getD,List.getElem?_eq_getElem lk]
    rw [hd,List.flatMap_cons,List.length_append];refine nL ?_ (Nat.le_add_right _ _);unfold Vp;refine List.Sublist.length_le (List.Sublist.filter _ (List.Sublist.map _ ?_));rw [Ik li,List.take_length];exact List.take_sublist _ _
   refine ρ ?_;refine Jt (fun (j:Nat) (nv:Value)=>[(2,.pointer (some ⟨b,0,none⟩)),(5,.slice LA N lc),(6,.slice OA (Qe m vars rs (List.range N) i).length oc),(7,.int .i64 (i:Int)),(8,nv),(9,.slice XA (Qu m vars rs i).length xc),(10,.int .i64 (k:Int)),(11,.int .i64 (j:Int))])
    (λj nv w'=>j<=(Qu m vars rs i).length/\Ext w6 w'/\OwnR w' w6.heap.size nv (((Qe m vars rs (List.range N) i).take k).flatMap (λr=>Vp m vars rs (List.range N) i r (Qu m vars rs i).length)++Vp m vars rs (List.range N) i r j)) (λj _=>(Qu m vars rs i).length-j) 0 nv sB
    ⟨Nat.zero_le _,C,by simpa [Vp] using a1⟩ ?_
   clear a1 nv C w7;rintro j nv w7 ⟨hj,C,a1⟩;refine ρ ?_;refine ci (λh=>?_) (λh=>?_)
   .have lj:j<(Qu m vars rs i).length:=by have:=oT h;omega
    clear h;obtain ⟨x,hx⟩:∃ x,x=(Qu m vars rs i).getD j V0:=⟨_,rfl⟩;have bn:Vp m vars rs (List.range N) i r (j+1)=Vp m vars rs (List.range N) i r j++if Yg m vars rs ((List.range N).take (i+1)) (r++[x])=true then [r++[x]] else []:=by
     unfold Vp;rw [Ik li,Qy V0 lj,List.map_append,List.filter_append,<-hx];congr 1
     by_cases hf:Yg m vars rs ((List.range N).take (i+1)) (r++[x])=true
     .rw [if_pos hf];exact List.filter_cons_of_pos hf
     .rw [if_neg hf];exact List.filter_cons_of_neg hf
    have ay:Ext w7 w7.drew:=(Ext.refl w7).drew;have a5:=C.trans ay;have ai:=Rd.ext cg a5;have au:=Rd.ext ch a5;have av:=ck.ext a5;have xt:∀ {W:World},GrN (λk=>w7.drew.heap.size<=k) w7.drew W->Ext w7.drew W:=λh=>h.old (Ext.refl _) λk O=>O;refine ρ ?_;refine drM (λk=>w7.drew.heap.size<=k) ?_;refine Yo (fuel':=5) [(0,1),(0,2),(0,3),(0,4),(0,6),(0,7),(0,8),(0,9)] #[false,true,true,true,true,false,true,true,true,true,false,false,false] kr kr rfl ?_;refine ρn ?_;refine nix k av lk ?_;refine ρn ?_;refine nld (λw' hg=>(av.ext (xt hg)).cell c4) ?_;refine ρn ?_;refine Vt 3 j au om ?_;refine ρn ?_;refine Xd (cs:=x.cells) (λw' hg q u hu=>RdR.cell (Rd.ext au (xt hg)) lj (by rw [<-hx];exact hu)) ?_;refine ρn ?_;refine Yu ?_;refine mcut 2 (lst 13 11) (fun (q:Value×Nat)=>[(46,q.1),(51,.slice (some ⟨q.2,0,none⟩) 1 1),(2,.pointer (some ⟨b,0,none⟩)),(5,.slice LA N lc),(6,.slice OA (Qe m vars rs (List.range N) i).length oc),(7,.int .i64 (i:Int)),(8,nv),(9,.slice XA (Qu m vars rs i).length xc),(10,.int .i64 (k:Int)),(11,.int .i64 (j:Int))])
     (λq W=>Ext w7.drew W/\W.ownsRow w7.drew.heap.size 47 3 q.1 r.length (Jl r)/\Blk W q.2 47 x.cells) ?_ ?_
    .rintro ⟨a7,aa⟩ W ⟨bf,b8,bw⟩;simp only at b8 bw;refine Vc 11 kr rfl rfl ?_;refine apb (m':=1) (news:=x.cells) EV b8 (bw.rd (n:=1) rfl) (V.one _) (by unfold maxLen;omega) om bf.size ?_;intro cr W2 a9 b9 c9;obtain ⟨_,_,rfl,_,bs⟩:=Jv b8;have U:GrN (λk=>w7.drew.heap.size<=k) W W2:=GrN.by b9 λk O=>(bs k O).1
     have bj:=U.old bf λk O=>O;refine Jh (Xy U ?_);refine Yo (fuel':=0) [(0,12)] (lst 13 13) kr kr rfl ?_;refine ρn ?_;refine Yu ?_;refine mend kr ?_;have cn:Jl r++x.cells=Jl (r++[x]):=by rw [rowC_app',rowC_one'']
     have c3:r.length+1=(r++[x]).length:=by simp
     rw [cn,c3]at a9;obtain ⟨bd,bc,rfl,bt,br⟩:=Jv a9;have c1:RowX W2 (own w6.heap.size nv) (.slice bd (r++[x]).length bc) (r++[x]):=by
      refine ⟨bd,bc,rfl,bt,by simp;omega,Rd.own a9,λ_ ad e O=>?_⟩;have h1:=(br ad.block (by rw [e];simp [Value.ownBlock])).1;have h2:=a5.size;rcases O with O|O
      .omega
      .have:=(a1.lt _ O).2;have:=ay.size;omega
     have ax:Ext W2 W2.drew:=(Ext.refl W2).drew;have am:=(ay.trans bj).trans ax;have an:=C.trans am;have ap:=J.trans (a6.trans an);have b2:=ao.trans (a6.trans an);have c7:IntsV W2.drew (.slice LA (i+1) lc) (nz ((List.range N).take (i+1))):=by
      have hl:((List.range N).take (i+1)).length=i+1:=by rw [List.length_take,List.length_range];omega
      refine ⟨LA,lc,by rw [Qq,hl],by rw [Qq,hl];omega,by rw [Qq,hl];omega,?_⟩;have:=(bb.ext b2).take (m:=i+1) om;rw [Qq,hl];have e:(Js (nz (List.range N))).take ((i+1)*1)=Js (nz ((List.range N).take (i+1))):=by rw [Nat.mul_one];simp only [Js,nz,List.map_take]
      rw [e]at this;exact this
     refine ρ ?_;refine drN (λ_=>False) 10 [(0,0),(0,1),(0,2),(0,3),(0,4),(0,5),(1,6)] kr ?_;refine ρn ?_;refine Xd (cs:=Vv n f pA pn pc VA vc RA rc m) (λw' hg j u hu=>((hB.ext ap).ext hg.toExt).at hu) ?_;refine ρn ?_;refine nslh (A:=LA) (m:=N) (c:=lc) (i+1) ?_ om;refine ρn ?_;refine nop ?_;refine cl (Jnr hP (hM.ext (a8.trans ap)) c7 (c1.v.ext ax) (λu hu=>by have:=List.mem_range.1 (List.mem_of_mem_take hu);omega) (by simp;omega)) ?_;rintro _ W3 ⟨rfl,ae⟩;refine ρ ?_;refine Je (GrN.ext ae) ?_;refine ρn ?_;have a3:=am.trans ae;have aq:=a1.ext a3;refine ρ ?_;refine ci (λhf=>?_) (λhf=>?_)
     .refine ρ ?_;refine bsl (λw=>Jvx (.slice bd (r++[x]).length bc) w _ _ _ rfl) ?_;intro W4 d9 ac cq c0;refine ρ ?_;refine appR (a:=w6) (C.trans (a3.trans ac)) ER (aq.ext ac) c0 ((((c1.ext ax).ext ae)).ext ac) (by have:=Zf j om;omega) ?_;intro c2 W5 bo bg _;refine ρ ?_;refine Jg (j+1) c2 sO ⟨lj,bg,?_⟩ om;rw [bn,if_pos hf,<-List.append_assoc];exact bo
     .refine ρ ?_;refine Jg (j+1) nv sO ⟨lj,C.trans a3,?_⟩ om;rw [bn,if_neg (by rw [hf];simp),List.append_nil];exact aq
    .intro rest;have ab:∀ {W:World} {g:Nat},Blk W g 47 ([]:List Value)->w7.drew.heap.size<=g->W.ownsRow w7.drew.heap.size 47 3 (.slice (some ⟨g,0,none⟩) 0 0) 0 []:=λhB hb=>hB.own (n:=0) hb rfl (Nat.zero_le _);refine Jqk 0 10 kr rfl rfl rfl ?_ ?_
     .refine ρ ?_;refine bsl Ir ?_;intro W1 b0 o a2 aj;refine Jh (Xy (GrN.ext o) ?_);refine Jqk 5 10 kr rfl rfl rfl ?_ ?_
      .refine apb (m':=r.length) (news:=Jl r) EV (ab aj a2) (ai.ext o) (Jwg r) (by unfold maxLen;omega) om o.size ?_;intro a7 W2 a9 b9 c9;rw [Nat.zero_add,List.nil_append]at a9;have U:GrN (λk=>w7.drew.heap.size<=k) W1 W2:=GrN.by b9 λk O=>by simp [Value.ownBlock]at O;omega
       refine Jh (Xy U ?_);refine Vc 10 kr rfl rfl ?_;refine bsl (Jkf x) ?_;intro W3 aa aw ar Z;refine Jh (Xy (GrN.ext aw) ?_);refine Gh (listed':=lst 13 11) kr ?_;exact rest (a7,aa) _ _ ⟨(U.old o λk O=>O).trans aw,Jk a9 aw,Z⟩ sB
      .refine ρ ?_;refine bsl (Jkf x) ?_;intro W2 aa G ar Z;refine Jh (Xy (GrN.ext G) ?_);refine Vc 5 kr rfl rfl ?_;refine apb (m':=r.length) (news:=Jl r) EV (ab (aj.ext G) a2) (ai.ext (o.trans G)) (Jwg r) (by unfold maxLen;omega) om (o.trans G).size ?_;intro a7 W3 af ah c8;rw [Nat.zero_add,List.nil_append]at af;have U:GrN (λk=>w7.drew.heap.size<=k) W2 W3:=GrN.by ah λk O=>by simp [Value.ownBlock]at O;omega
       refine Jh (Xy U ?_);refine Gh (listed':=lst 13 11) kr ?_;refine rest (a7,aa) _ _ ⟨U.old (o.trans G) λk O=>O,af,Z.grown ah ?_⟩ sB;have:=aj.lt;simp [Value.ownBlock];omega
     .refine ρ ?_;refine bsl (Jkf x) ?_;intro W1 aa o ar Z;refine Jh (Xy (GrN.ext o) ?_);refine Vc 0 kr rfl rfl ?_;refine bsl Ir ?_;intro W2 b0 G a2 aj;refine Jh (Xy (GrN.ext G) ?_);refine Vc 5 kr rfl rfl ?_;have bu:=nL o.size a2;refine apb (m':=r.length) (news:=Jl r) EV (ab aj bu) (ai.ext (o.trans G)) (Jwg r) (by unfold maxLen;omega) om (o.trans G).size ?_;intro a7 W3 af ah c8;rw [Nat.zero_add,List.nil_append]at af;have U:GrN (λk=>w7.drew.heap.size<=k) W2 W3:=GrN.by ah λk O=>by simp [Value.ownBlock]at O;omega
      refine Jh (Xy U ?_);refine Gh (listed':=lst 13 11) kr ?_;refine rest (a7,aa) _ _ ⟨U.old (o.trans G) λk O=>O,af,(Z.ext G).grown ah ?_⟩ sB;have:=Z.lt;simp [Value.ownBlock];omega
   .have cd:j=(Qu m vars rs i).length:=by have:=oF h;omega
    subst cd;clear h;refine ρ ?_;refine Jg (k+1) nv sO ⟨lk,C,?_⟩ om;rw [Qy [] lk,List.flatMap_append,<-hr];simpa using a1
  .have cc:k=(Qe m vars rs (List.range N) i).length:=by have:=oF h;omega
   subst cc;clear h;rw [List.take_length]at a1;refine ρ ?_;refine Jg (i+1) nv sO ⟨li,(b1.trans a6).trans C,?_⟩ om;have e:Qe m vars rs (List.range N) (i+1)=(Qe m vars rs (List.range N) i).flatMap λr=>Vp m vars rs (List.range N) i r (Qu m vars rs i).length:=by
    rw [Qe];unfold Ku Vp;rw [Ik li,List.take_length]
   rw [e]at ag ⊢;exact a1.rows om
 .have ce:i=N:=by have:=oF h;omega
  subst ce;clear h;have bq:=Jfv hP (Nat.le_refl i);refine ρ ?_;refine ki 68 (λh=>?_) (λh=>?_)
  .have h0:i=0:=by have:=Xf h;omega
   clear h;refine ρ ?_;refine lds (cs:=Vv n f pA pn pc VA vc RA rc m) (λj u hu=>bz.at hu) ?_;refine ρ ?_;refine bsl Ir ?_;intro w6 b6 a4 d4 d7;refine ρ ?_;refine cl (Jnr (vl:=[]) (r:=[]) hP (hM.ext (a8.trans (J.trans a4))) ⟨none,0,rfl,Nat.le_refl _,Nat.zero_le _,Rd.nil⟩ ⟨some ⟨b6,0,none⟩,0,rfl,Nat.le_refl _,Nat.zero_le _,Rd.nil⟩ (λu hu=>by cases hu) rfl) ?_;rintro _ w7 ⟨rfl,C⟩;refine ρ ?_;subst h0;refine ci (λhf=>?_) (λhf=>?_)
   .have a2:Yg m vars rs [] []=false:=by cases hh:Yg m vars rs [] []<;>first|rfl|(rw [hh]at hf;cases hf)
    refine ρ ?_;refine Jj ⟨?_,(a8.trans J).trans (a4.trans C)⟩;unfold Xc;rw [if_pos rfl,a2];exact ⟨[],none,0,rfl,rfl,Nat.le_refl _,Nat.zero_le _,Rd.nil,λp hp=>by cases hp⟩
   .have a2:Yg m vars rs [] []=true:=by cases hh:Yg m vars rs [] []<;>first|rfl|(rw [hh]at hf;cases hf)
    refine ρ ?_;refine Jj ⟨?_,(a8.trans J).trans (a4.trans C)⟩;unfold Xc;rw [if_pos rfl,if_pos a2];exact b7.ext (a4.trans C)
  .have h0:i≠0:=λe=>by have:=Xg h;omega
   clear h;refine ρ ?_;refine Jj ⟨?_,a8.trans J⟩;unfold Xc;rw [if_neg h0];exact b7
end
open Go.RowKit Pl Go.Wk
theorem Qpb{N:Nat}(hN:N<=32): bk (2^N-1) 32=List.range N:=by
 have key:∀ k,bk (2^N-1) k=List.range (min k N):=by
  intro k;induction k with
  | zero=>rfl
  | succ k ih=>
   rw [Uy,ih,Nat.testBit_two_pow_sub_one];by_cases h:k<N
   .rw [if_pos (by simpa using h),Nat.min_eq_left om,Nat.min_eq_left om,List.range_succ]
   .rw [if_neg (by simpa using h),Nat.min_eq_right om,Nat.min_eq_right om,List.append_nil]
 rw [key,Nat.min_eq_right hN]
theorem Qfv{m N:Nat}{vars:Nat->List Nat}{rs:Nat->List Row}(hP:RefP N m vars rs){z:Row}(hz:z∈Xc m vars rs N): z.length=N:=((Jdl hP.asc hP.len hP.lt hP.cov z).1 hz).1
section
variable {pA VA RA:Option Addr} {pn pc vc rc N m:Nat} {f:Int} {vars:Nat->List Nat} {rs:Nat->List Row} {w:World}
theorem Qyv(hP:RefP N m vars rs)(hM:RInM w VA RA m vars rs)(hN:N<=31):
  Ret Tryz.prog 106 [.agg (Vv (N:Int) f pA pn pc VA vc RA rc m).toArray] w λu w'=>RowsV w' u (Xc m vars rs N)/\Ext w w':=by
 refine Jz Tryz.func106 Tryz.ntmps106 rfl kr rfl ?_;refine ρ ?_;refine bx (cs:=Vv (N:Int) f pA pn pc VA vc RA rc m) ?_;intro U b o Z J;refine ρ ?_;refine lds (cs:=Vv (N:Int) f pA pn pc VA vc RA rc m) (λj u G=>J.at G) ?_;refine ρ ?_;refine ld (J.at (i:=0) rfl) ?_;refine ρ ?_;refine Go.Wk.kv 6 (congrArg (λz=>Value.int .u64 z) (Gz (z:=(N:Int)) om)) ?_;refine Jmb (v:=N) om ?_;refine ρ ?_;have h1:1<=2^N:=Nat.pow_pos (by decide);have h2:=Gc (show N<32 by omega);have e:IntKind.u32.wrap (((2^N:Nat):Int)-1)=((2^N-1:Nat):Int):=by rw [IntKind.wrap_u32];omega
 refine Go.Wk.kv 8 (congrArg (λz=>Value.int .u32 z) e) ?_;refine cl (Qyw hP (hM.ext o) om (Qpb om)) ?_;rintro u O ⟨G,C⟩;refine ρ ?_;exact Jj ⟨G,o.trans C⟩
theorem Qrq{F:Nat}{ds:List Bool}{dv:Value}(hP:RefP N m vars rs)(hM:RInM w VA RA m vars rs)(hN:N<=31)(hF:F<=N)(hd:BoolsV w dv ds):
  Ret Tryz.prog 60 [.agg (Vv (N:Int) (F:Int) pA pn pc VA vc RA rc m).toArray,dv] w λu w'=>RowsV w' u (ansF m vars rs N F ds)/\Ext w w'/\Fresh w u:=by
 have an:(Xc m vars rs N).length<=5000:=nL (Jrt hP.asc hP.len hP.cov) hP.cnt;refine Jz Tryz.func60 Tryz.ntmps60 rfl kr rfl ?_;refine ρ ?_;refine bx (cs:=Vv (N:Int) (F:Int) pA pn pc VA vc RA rc m) ?_;intro w1 b J hb hB;refine ρ ?_;refine lds (cs:=Vv (N:Int) (F:Int) pA pn pc VA vc RA rc m) (λj u hu=>hB.at hu) ?_;refine ρ ?_;refine cl (Qyv hP (hM.ext J) hN) ?_;rintro jv w2 ⟨hj,a3⟩;obtain ⟨JA,jc,rfl,ao,am,ai,ac,ab⟩:=hj.parts;refine ρ ?_;refine Jt (fun (i:Nat) (Z:Value)=>[(1,dv),(2,.pointer (some ⟨b,0,none⟩)),(5,Z),(6,.slice JA (Xc m vars rs N).length jc),(7,.int .i64 (i:Int))])
  (λi Z w'=>i<=(Xc m vars rs N).length/\Ext w2 w'/\Fresh w2 Z/\RowsV w' Z ((((Xc m vars rs N).take i).map (List.take F)).foldl (Zj ds) [])/\((((Xc m vars rs N).take i).map (List.take F)).foldl (Zj ds) []).length<=i) (λi _=>(Xc m vars rs N).length-i) 0 (.slice none 0 0) sB
  ⟨Nat.zero_le _,Ext.refl _,(λad n c e=>by cases e),⟨[],none,0,rfl,rfl,Nat.le_refl _,Nat.zero_le _,Rd.nil,λp hp=>by cases hp⟩,Nat.le_refl _⟩ ?_
 rintro i Z w3 ⟨hi,C,O,U,ak⟩;have G:=a3.trans C;refine ρ ?_;refine ci (λh=>?_) (λh=>?_)
 .have li:i<(Xc m vars rs N).length:=by have:=oT h;omega
  clear h;obtain ⟨xv,a7,a1⟩:=ab i li;obtain ⟨z,hz⟩:∃ z,z=(Xc m vars rs N).getD i []:=⟨_,rfl⟩;have aj:z.length=N:=Qfv hP (by rw [hz];exact getD_mem' [] _ li);rw [<-hz]at a1;obtain ⟨XA,xc,rfl,ah,ag,aa⟩:=id a1;have o:Ext w3 w3.drew:=(Ext.refl w3).drew;have a4:=Jzq (ds:=ds) (((Xc m vars rs N).take i).map (List.take F)) (done:=[]) (l:=[]) ⟨List.Pairwise.nil,λx=>Iff.rfl⟩;refine ρ ?_;refine drN (λ_=>False) 10 [(0,0),(0,1),(0,2),(0,3),(0,4),(0,5),(0,6),(0,7),(0,8),(1,9),(0,10)] kr ?_;have a5:=ac.ext (C.trans o);have ae:=(hB.ext G).ext o;refine ρn ?_;refine nix i a5 li ?_;refine ρn ?_;refine nld (λw' hg=>(a5.ext hg.toExt).cell a7) ?_;refine ρn ?_;refine nld (Jm (ae.at (i:=1) rfl) (λe=>e)) ?_;refine ρn ?_;refine nslh (A:=XA) (m:=z.length) (c:=xc) F ?_ om;refine ρn ?_;refine nop ?_;have a8:RowV w3.drew (.slice XA F xc) (z.take F):=by
   have hl:(z.take F).length=F:=by rw [List.length_take];omega
   refine ⟨XA,xc,by rw [hl],by rw [hl];omega,by rw [hl];omega,?_⟩;have:=(Rd.ext aa (C.trans o)).take (m:=F) om;rw [Jnc z om]at this;unfold RdR;rw [hl];exact this
  refine cl (Jnh (U.ext o) a8 (hd.ext ((J.trans G).trans o)) a4.1 om) ?_;rintro a6 w4 ⟨h4,a2,af⟩;refine ρ ?_;refine Je (GrN.ext a2) ?_;refine ρn ?_;have e:(((Xc m vars rs N).take (i+1)).map (List.take F)).foldl (Zj ds) []=Zj ds ((((Xc m vars rs N).take i).map (List.take F)).foldl (Zj ds) []) (z.take F):=by
   rw [Qy [] li,<-hz,List.map_append,List.foldl_append];rfl
  refine ρ ?_;refine Jg (i+1) a6 sO ⟨li,(C.trans o).trans a2,?_,by rw [e];exact h4,?_⟩ om
  .rcases af with h'|h'
   .rw [h'];exact O
   .exact λad n c e=>nL (C.trans o).size (h' ad n c e)
  rw [e];have:=Qbh ds ((((Xc m vars rs N).take i).map (List.take F)).foldl (Zj ds) []) (z.take F);omega
 .have a9:i=(Xc m vars rs N).length:=by have:=oF h;omega
  rw [a9,List.take_length]at U;refine ρ ?_;exact Jj ⟨U,J.trans G,λad n c e=>nL (J.trans a3).size (O ad n c e)⟩
end
open Go.RowKit Pl Go.Wk
def IntssV(w:World)(v:Value)(zss:List (List Int)): Prop:=∃ A c cs,v=.slice A zss.length c/\zss.length<=c/\zss.length<=1100000/\Rd w 1 A zss.length cs/\∀ i,i<zss.length->∃ u,cs[i]?=some u/\IntsV w u (zss.getD i [])
def RowssV(w:World)(v:Value)(rss:List (List Row)): Prop:=∃ A c cs,v=.slice A rss.length c/\rss.length<=c/\rss.length<=1100000/\Rd w 1 A rss.length cs/\∀ i,i<rss.length->∃ u,cs[i]?=some u/\RowsV w u (rss.getD i [])
theorem IntssV.ext{w w':World}{v:Value}{zss:List (List Int)}(h:IntssV w v zss)(hx:Ext w w'): IntssV w' v zss:=by
 obtain ⟨A,c,cs,U,O,J,G,C⟩:=h;exact ⟨A,c,cs,U,O,J,G.ext hx,λi hi=>by obtain ⟨u,e,o⟩:=C i hi;exact ⟨u,e,o.ext hx⟩⟩
theorem RowssV.ext{w w':World}{v:Value}{zss:List (List Row)}(h:RowssV w v zss)(hx:Ext w w'): RowssV w' v zss:=by
 obtain ⟨A,c,cs,U,O,J,G,C⟩:=h;exact ⟨A,c,cs,U,O,J,G.ext hx,λi hi=>by obtain ⟨u,e,o⟩:=C i hi;exact ⟨u,e,o.ext hx⟩⟩
structure Cse where
 n: Int
 f:Int
 ds:List Bool
 pm:List Int
 vs:List (List Int)
 rss:List (List Row)
def CseV(w:World)(cs:List Value)(c:Cse): Prop:=∃ dA dc pA pc vA vc rA rc,cs=[.int .i64 c.n,.int .i64 c.f,.slice dA c.ds.length dc,.slice pA c.pm.length pc,.slice vA c.vs.length vc,.slice rA c.rss.length rc] /\
 BoolsV w (.slice dA c.ds.length dc) c.ds/\IntsV w (.slice pA c.pm.length pc) c.pm/\IntssV w (.slice vA c.vs.length vc) c.vs/\RowssV w (.slice rA c.rss.length rc) c.rss/\(-9223372036854775808<=c.n/\c.n<=9223372036854775807)/\(-9223372036854775808<=c.f/\c.f<=9223372036854775807)
theorem CseV.ext{w w':World}{cs:List Value}{c:Cse}(h:CseV w cs c)(hx:Ext w w'): CseV w' cs c:=by
 obtain ⟨dA,dc,pA,pc,o,vc,u,rc,Z,U,O,J,G,C⟩:=h;exact ⟨dA,dc,pA,pc,o,vc,u,rc,Z,U.ext hx,O.ext hx,J.ext hx,G.ext hx,C⟩
structure FewP(c:Cse): Prop where
 row:∀ i,i<c.rss.length->(c.rss.getD i []).length<=10
 cnt:(Jc c.rss.length λi=>max 1 (c.rss.getD i []).length)<=5000
 n6:c.n<=6∨32<c.n
 v5:c.vs.length<=5
 r5:c.rss.length<=5
structure FewS(c:Cse): Prop where
 row:∀ i,i<c.rss.length->(c.rss.getD i []).length<=10
 cnt:(Jc c.rss.length λi=>max 1 (c.rss.getD i []).length)<=5000
 n6:c.n<=6
 v5:c.vs.length<=5
 r5:c.rss.length<=5
 v8:∀ i,i<c.vs.length->(c.vs.getD i []).length<=8
 d10:c.ds.length<=10
 p10:c.pm.length<=10
theorem few_any{w:World}{cs:List Value}{c:Cse}(h:CseV w cs c): Ret Tryz.prog 59 [.agg cs.toArray] w λu w'=>Ext w w'/\∃ b:Bool,u=.bool b/\(b=true->FewP c)/\(FewS c->b=true):=by
 obtain ⟨dA,dc,pA,pc,vA,vc,rA,rc,rfl,hD,hP,hV,hR,hn,hf⟩:=h;obtain ⟨_,_,af,e1,_,_,a2,ad⟩:=id hR;injection e1 with e1 e2 e3
 subst e1;subst e3;obtain ⟨_,_,ae,e1,_,_,a6,ac⟩:=id hV;injection e1 with e1 e2 e3
 subst e1;subst e3;refine Jz Tryz.func59 Tryz.ntmps59 rfl kr rfl ?_;refine ρ ?_;refine bx ?_;intro w1 b C hb O;refine ρ ?_;refine Jt (fun (i:Nat) (o:Nat)=>[(1,.pointer (some ⟨b,0,none⟩)),(2,.bool false),(3,.int .i64 (o:Int)),(4,.int .i64 (i:Int))])
  (λi o w'=>i<=6/\i<=c.rss.length/\w'=w1/\o=(Jc i λi=>max 1 (c.rss.getD i []).length)/\o<=10^i/\∀ j,j<i->(c.rss.getD j []).length<=10) (λi _=>6-i) 0 1 sB ⟨om,Nat.zero_le _,rfl,rfl,by simp,λj hj=>om⟩ ?_
 rintro i o w2 ⟨h6,hi,rfl,J,a3,U⟩;refine ρ ?_;refine ld (O.at (i:=5) rfl) ?_;refine ρ ?_;refine Vm (fun (t:Bool)=>[(14,.bool t),(1,.pointer (some ⟨b,0,none⟩)),(2,.bool false),(3,.int .i64 (o:Int)),(4,.int .i64 (i:Int))]) (λt w3=>w3=w2/\(t=true↔i<c.rss.length/\i<6)) ?_ ?_
 .refine ki 11 (λh=>?_) (λh=>?_)
  .have:=oT h;refine ρ ?_;refine Jb (decide ((i:Int)<6)) sB ⟨rfl,?_⟩;rw [decide_eq_true_eq];omega
  .have:=oF h;refine ρ ?_;refine Jb false sB ⟨rfl,?_⟩;constructor
   .intro h;cases h
   .omega
 rintro t w3 ⟨rfl,ht⟩;refine ρ ?_;refine ci (λh=>?_) (λh=>?_)
 .obtain ⟨li,l6⟩:=ht.1 h;clear h;obtain ⟨ru,a5,aa⟩:=ad i li;obtain ⟨TA,tc,rfl,_,_,_⟩:=id (aa.ext C).parts;refine ρ ?_;refine ld (O.at (i:=5) rfl) ?_;refine ρ ?_;refine ix i (a2.ext C) li ?_;refine ρ ?_;refine ld ((a2.ext C).cell a5) ?_;refine ρ ?_;refine ci (λh=>?_) (λh=>?_)
  .refine ρ ?_;exact Jj ⟨C,false,rfl,λh=>(by cases h),λG=>by have h1:=G.row i li;have h2:=oT h;exact False.elim om⟩
  .have a7:(c.rss.getD i []).length<=10:=by have:=oF h;omega
   clear h;refine ρ ?_;refine ld (O.at (i:=5) rfl) ?_;refine ρ ?_;refine ix i (a2.ext C) li ?_;refine ρ ?_;refine ld ((a2.ext C).cell a5) ?_;refine ρ ?_;have ab:(if (1:Int)<((c.rss.getD i []).length:Int) then ((c.rss.getD i []).length:Int) else 1)=((max 1 (c.rss.getD i []).length:Nat):Int):=by
    split<;>omega
   have a4:o<=100000:=nL a3 (Nat.pow_le_pow_right (by decide) (show i<=5 by omega));have ag:o*max 1 (c.rss.getD i []).length<=o*10:=Nat.mul_le_mul_left _ om;have e:IntKind.i64.wrap ((o:Int)*(if (1:Int)<((c.rss.getD i []).length:Int) then ((c.rss.getD i []).length:Int) else 1))=((o*max 1 (c.rss.getD i []).length:Nat):Int):=by
    rw [ab,<-Int.natCast_mul];exact Gm om
   rw [e];refine Jg (i+1) (o*max 1 (c.rss.getD i []).length) sO ⟨om,om,rfl,?_,?_,λj hj=>?_⟩ om
   .rw [Jc,<-J]
   .rw [Nat.pow_succ];exact Nat.mul_le_mul a3 om
   .by_cases e:j=i
    .rw [e];exact a7
    .exact U j om
 have ah:¬ (i<c.rss.length/\i<6):=λh'=>by have:=ht.2 h';rw [h]at this;cases this
 clear h ht;refine ρ ?_;refine ci (λh=>?_) (λh=>?_)
 .refine ρ ?_;exact Jj ⟨C,false,rfl,λh=>(by cases h),λG=>by
   have h1:=G.cnt;have h2:=G.r5;have h3:=oT h;have h4:i=c.rss.length:=om
   rw [<-h4,<-J]at h1;exact False.elim om⟩
 have a4:o<=5000:=by have:=oF h;omega
 clear h;refine ρ ?_;refine Qd (fun (k:Nat)=>[(1,.pointer (some ⟨b,0,none⟩)),(2,.bool false),(5,.int .i64 (k:Int))])
  (λk w'=>k<=6/\k<=c.vs.length/\w'=w3) (λk=>6-k) 0 sB ⟨om,Nat.zero_le _,rfl⟩ ?_
 rintro k w4 ⟨k6,hk,rfl⟩;refine ρ ?_;refine ld (O.at (i:=4) rfl) ?_;refine ρ ?_;refine Vm (fun (t:Bool)=>[(43,.bool t),(1,.pointer (some ⟨b,0,none⟩)),(2,.bool false),(5,.int .i64 (k:Int))]) (λt w5=>w5=w4/\(t=true->k<c.vs.length/\k<6)) ?_ ?_
 .refine ki 40 (λh=>?_) (λh=>?_)
  .have:=oT h;refine ρ ?_;refine Jb (decide ((k:Int)<6)) sB ⟨rfl,?_⟩;rw [decide_eq_true_eq];omega
  .refine ρ ?_;exact Jb false sB ⟨rfl,λh=>by cases h⟩
 rintro t w5 ⟨rfl,ht⟩;refine ρ ?_;refine ci (λh=>?_) (λh=>?_)
 .obtain ⟨lk,l6⟩:=ht h;clear h;obtain ⟨vu,a8,a9⟩:=ac k lk;obtain ⟨QA,qc,rfl,_⟩:=id a9;refine ρ ?_;refine ld (O.at (i:=4) rfl) ?_;refine ρ ?_;refine ix k (a6.ext C) lk ?_;refine ρ ?_;refine ld ((a6.ext C).cell a8) ?_;refine ρ ?_;refine ci (λh=>?_) (λh=>?_)
  .refine ρ ?_;exact Jj ⟨C,false,rfl,λh=>(by cases h),λG=>by have h1:=G.v8 k lk;have h2:=oT h;exact False.elim om⟩
  .refine ρ ?_;exact Qw (k+1) sO ⟨om,om,rfl⟩ om
 clear h ht;refine ρ ?_;refine ld (O.at (i:=0) rfl) ?_;refine ρ ?_;refine ki 56 (λh=>?_) (λh=>?_)
 .have hN:c.n<=6:=oT h;clear h;refine ρ ?_;refine ld (O.at (i:=4) rfl) ?_;refine ρ ?_;refine ki 67 (λh4=>?_) (λh4=>?_)
  .refine ρ ?_;refine ld (O.at (i:=5) rfl) ?_;refine ρ ?_;refine ki 73 (λh5=>?_) (λh5=>?_)
   .have r5:c.rss.length<=5:=by have:=oT h5;omega
    have v5:c.vs.length<=5:=by have:=oT h4;omega
    have ir:i=c.rss.length:=om
    have a1:FewP c:=⟨λj hj=>U j om,by rw [<-ir,<-J];exact a4,.inl hN,v5,r5⟩;refine ρ ?_;refine ld (O.at (i:=2) rfl) ?_;refine ρ ?_;refine ki 79 (λh6=>?_) (λh6=>?_)
    .refine ρ ?_;refine ld (O.at (i:=3) rfl) ?_;refine ρ ?_;exact Jj ⟨C,decide ((c.pm.length:Int)<=10),rfl,λ_=>a1,λG=>by have:=G.p10;exact decide_eq_true om⟩
    .refine ρ ?_;exact Jj ⟨C,false,rfl,λh=>(by cases h),λG=>by have h1:=G.d10;have h2:=oF h6;exact False.elim om⟩
   .refine ρ ?_;exact Jj ⟨C,false,rfl,λh=>(by cases h),λG=>by have h1:=G.r5;have h2:=oF h5;exact False.elim om⟩
  .refine ρ ?_;exact Jj ⟨C,false,rfl,λh=>(by cases h),λG=>by have h1:=G.v5;have h2:=oF h4;exact False.elim om⟩
 .have Z:¬ c.n<=6:=oF h;clear h;refine ρ ?_;refine ld (O.at (i:=0) rfl) ?_;refine ρ ?_;refine ki 61 (λh=>?_) (λh=>?_)
  .have hN:32<c.n:=oT h;clear h;refine ρ ?_;refine ld (O.at (i:=4) rfl) ?_;refine ρ ?_;refine ki 67 (λh4=>?_) (λh4=>?_)
   .refine ρ ?_;refine ld (O.at (i:=5) rfl) ?_;refine ρ ?_;refine ki 73 (λh5=>?_) (λh5=>?_)
    .have r5:c.rss.length<=5:=by have:=oT h5;omega
     have v5:c.vs.length<=5:=by have:=oT h4;omega
     have ir:i=c.rss.length:=om
     have a1:FewP c:=⟨λj hj=>U j om,by rw [<-ir,<-J];exact a4,.inr hN,v5,r5⟩;refine ρ ?_;refine ld (O.at (i:=2) rfl) ?_;refine ρ ?_;refine ki 79 (λh6=>?_) (λh6=>?_)
     .refine ρ ?_;refine ld (O.at (i:=3) rfl) ?_;refine ρ ?_;exact Jj ⟨C,decide ((c.pm.length:Int)<=10),rfl,λ_=>a1,λG=>absurd G.n6 Z⟩
     .refine ρ ?_;exact Jj ⟨C,false,rfl,λh=>(by cases h),λG=>absurd G.n6 Z⟩
    .refine ρ ?_;exact Jj ⟨C,false,rfl,λh=>(by cases h),λG=>absurd G.n6 Z⟩
   .refine ρ ?_;exact Jj ⟨C,false,rfl,λh=>(by cases h),λG=>absurd G.n6 Z⟩
  .refine ρ ?_;exact Jj ⟨C,false,rfl,λh=>(by cases h),λG=>absurd G.n6 Z⟩
end Go.Proofs.YtebcagekopgdhaaGreatDoor
