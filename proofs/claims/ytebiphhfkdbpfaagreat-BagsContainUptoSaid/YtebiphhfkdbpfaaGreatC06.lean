/- Part 6. -/
import Derived.Test.YtebiphhfkdbpfaaGreatC05
set_option linter.unusedVariables false
set_option maxRecDepth 100000
set_option maxHeartbeats 40000000
namespace Go.Proofs.YtebiphhfkdbpfaaGreat
open Go.RowKit Pl Go.Wk Bl
attribute [local irreducible] WC WL QX WD WDB WP WN WG WH
variable {A:List (List PR)}{g:List PR}{b base i n:Nat}{N:Nat->Prop}{vA vB vC vb vg vr:Value}{w:World}
theorem Qzc(hC:GX 3 RtC N w vC (List.replicate n (PR.int 1)))(hA:GX 1 MxC N w vA A)(hB:GX 3 RtC N w vB (List.replicate A.length (PR.int 1)))(hbin:Bin n A)(hm:A.length<=64):
  Ret Tryz.prog 81 [.agg #[vC,vA,vB]] w λu w'=>u=.bool true/\Ext w w':=by
 obtain⟨CA,cc,_,rfl,O,_,_,_,_⟩:=id hC.el;obtain⟨AA,ac,_,rfl,a8,_,a4,_,a3⟩:=id hA.el;obtain⟨BA,bc,_,rfl,U,_,a2,_,a1⟩:=id hB.el;simp only[List.length_replicate]at hC hB O U a2 a1 ⊢;refine Jz Tryz.func81 Tryz.ntmps81 rfl kr rfl ?_;refine ρ ?_;refine bx ?_;intro w1 b1 D a7 y;refine ρ ?_;refine ld (y.at (i:=1) rfl) ?_;refine ρ ?_;refine ld (y.at (i:=2) rfl) ?_;refine ρ ?_;refine cf ?_ ?_
 .simp
 refine ρ ?_;refine ld (y.at (i:=1) rfl) ?_;refine ρ ?_;refine Jl (fun (i:Nat)=>[(1,.pointer (some ⟨b1,0,none⟩)),(13,.slice AA A.length ac),(14,.int .i64 (A.length:Int)),(15,.int .i64 (i:Int))]) (λi w'=>i<=A.length/\w'=w1) (λi=>A.length-i) 0 sB ⟨Nat.zero_le _,rfl⟩ ?_;rintro i w2 ⟨hi,rfl⟩;refine ρ ?_;refine ci (λh=>?_) (λh=>?_)
 .have j:i<A.length:=by have:=oT h;omega
  clear h;obtain⟨ce,a6,⟨va,rfl,hG⟩,G⟩:=a3 i j;obtain⟨K,kc,_,rfl,a5,_,_,_,_⟩:=id hG.el;have J:=(hbin i j).1;have Z:A.getD i []=A[i]:=by simp[List.getD,List.getElem?_eq_getElem j]
  rw[Z]at J;rw[J]at G;have F:w2.cell? (adr AA i)=some (.slice K n kc):=by
   have:=Qp D (G 0 _ rfl);rwa [Nat.mul_one,add_zero]at this
  refine ρ ?_;refine ix i (a4.ext D) j ?_;refine ρ ?_;refine ld F ?_;refine ρ ?_;refine ld (y.at (i:=0) rfl) ?_;refine ρ ?_;refine cf ?_ ?_
  .simp
  refine ρ ?_;exact Jf (i+1) sO ⟨om,rfl⟩ om
 refine ρ ?_;exact Jq ⟨rfl,D⟩
theorem Qdm(hbin:Bin n A)(hi:i<A.length): ((PT.ofP n A).rows.getD i []).getD (n+A.length+1) pr0=PR.int 1:=by
 rw[Ia hbin.rok i _ hi,if_neg om,if_neg om,if_neg om,if_pos rfl]
theorem Qdl(hbin:Bin n A)(hi:i<A.length): ((PT.ofP n A).rows.getD i []).length=n+A.length+2:=by
 rw[Jxc i hi,List.length_append,List.length_append,(hbin i hi).1,List.length_map,List.length_range];rfl
theorem Qlv(hT:TbV w base b vr vg vb ⟨n,A.length,(PT.ofP n A).rows,g,(PT.ofP n A).basis⟩)(hbin:Bin n A)(hn:n<=64)(hm:A.length<=64):
  Ret Tryz.prog 83 [.pointer (some ⟨b,0,none⟩)] w λu w'=>u=.bool true/\Ext w w':=by
 have U:(PT.ofP n A).rows.length=A.length:=by simp[PT.ofP]
 obtain⟨R,rc,_,ev,am,a7,a6⟩:=id hT.rows.el;simp only[U]at ev a7 a6;subst ev;refine Jz Tryz.func83 Tryz.ntmps83 rfl kr rfl ?_;refine ρ ?_;refine ld (hT.blk.at (i:=2) rfl) ?_;refine ρ ?_;refine Jl (fun (k:Nat)=>[(0,.pointer (some ⟨b,0,none⟩)),(3,.int .i64 (-1)),(13,.slice R A.length rc),(14,.int .i64 (A.length:Int)),(15,.int .i64 (k:Int))]) (λk w'=>k<=A.length/\Ext w w') (λk=>A.length-k) 0 sB ⟨Nat.zero_le _,Ext.refl _⟩ ?_;rintro k w1 ⟨hk,y⟩;refine ρ ?_;refine ci (λh=>?_) (λh=>?_)
 .have D:k<A.length:=by have:=oT h;omega
  clear h;obtain⟨ce,ap,⟨vk,rfl,a9⟩,a5⟩:=a6 k D;have ah:(PT.ofP n A).rows[k]'(by rw[U];exact D)=(PT.ofP n A).rows.getD k []:=by simp[List.getD,List.getElem?_eq_getElem (show k<(PT.ofP n A).rows.length by rw[U];exact D)]
  rw[ah]at a9;have F:=Qdl hbin D;have af:=Qdm hbin D;generalize (PT.ofP n A).rows.getD k []=row at *
  obtain⟨K,kc,_,rfl,an,_,a8,_,aj⟩:=id a9.el;rw[F]at a5 a8;have a4:w1.cell? (adr R k)=some (.slice K (n+A.length+2) kc):=by
   have:=Qp y (a5 0 _ rfl);rwa [Nat.mul_one,add_zero]at this
  obtain⟨cr,_,a2,a3⟩:=aj (n+A.length+1) (by rw[F];omega);have er:row[n+A.length+1]'(by rw[F];omega)=PR.int 1:=by rw[<-af];simp[List.getD,List.getElem?_eq_getElem (show n+A.length+1<row.length by rw[F];omega)]
  rw[er]at a2;obtain⟨F1,f1,F2,f2,rfl,ae⟩:=a2.sl;refine ρ ?_;refine ix k (a7.ext y) D ?_;refine ρ ?_;refine ld a4 ?_;refine ρ ?_;refine cl (Gt (n:=n) (m:=A.length) (hT.blk.ext y) rfl rfl om om) ?_;rintro _ w2 ⟨rfl,O⟩;refine ρ ?_;refine ixq 3 (n+A.length+1) ((a8.ext y).ext O) om ?_;refine ρ ?_;refine lds (λj u hu=>Qp (y.trans O) (a3 j u hu)) ?_;refine ρ ?_;refine alc Vq ?_;intro w3 b6 ad ai ak;refine ρ ?_;refine stb (cs':=[.bool (PR.int 1).neg,.slice F1 _ f1,.slice F2 _ f2]) ak ?_ (Qv rfl rfl rfl);intro w4 aa ao ac;have a1:Ext w2 w4:=ac w2 ad ai;have G:=(y.trans O).trans a1;have J:Ext w4 w4.drew:=(Ext.refl w4).drew;refine ρ ?_;refine dr [(0,0),(1,1),(0,2),(0,3),(0,4),(0,5),(0,6),(0,7),(0,8),(0,9),(0,10),(0,11),(0,12),(0,13),(0,14),(0,15),(1,16),(0,17),(0,18),(1,19),(0,20),(0,21),(0,22)] kr ?_;refine ρd ?_;refine Qq (λj u hu=>(aa.ext J).at hu) ?_
  refine ρd ?_;refine dcl (Uf (ae.ext (G.trans J)) (by have:=Qs (n:=(PR.int 1).num) (by decide);omega)) ?_;rintro _ w5 ⟨rfl,Z⟩;refine⟨Z,?_⟩;refine ρd ?_;refine ρ ?_;exact Jf (k+1) sO ⟨om,(G.trans J).trans Z⟩ om
 refine ρ ?_;exact Jq ⟨rfl,y⟩
theorem Qdn: (PT.ofP n A).goal=mix (List.replicate n (PR.int (-1))++List.replicate (A.length+2) pr0) (List.replicate (n+A.length+2) pr0) n:=by
 unfold mix PT.ofP;simp only;rw[List.take_append_of_le_length (by simp),List.take_of_length_le (by simp),List.drop_replicate,show n+A.length+2-n=A.length+2 by omega]
theorem Qdr(hT:TbV w base b vr vg vb ⟨n,A.length,(PT.ofP n A).rows,g,(PT.ofP n A).basis⟩)(hC:GX 3 RtC N w vC (List.replicate n (PR.int 1)))(hNC:∀ k,TN b vr vb k->N k)(hbin:Bin n A)(hn:n<=64)(hm:A.length<=64):
  Ret Tryz.prog 85 [.pointer (some ⟨b,0,none⟩),vC] w λu w'=>u=.tuple #[]/\∃ vg',TbV w' base b vr vg' vb (PT.ofP n A)/\GrN (TN b vr vb) w w':=by
 obtain⟨CA,cc,_,rfl,b5,_,bh,_,bg⟩:=id hC.el;simp only[List.length_replicate]at hC b5 bh bg ⊢;have a1:=hT.lt;refine Jz Tryz.func85 Tryz.ntmps85 rfl kr rfl ?_;refine ρ ?_;refine cl (Gt (n:=n) (m:=A.length) hT.blk rfl rfl om om) ?_;rintro _ w1 ⟨rfl,G⟩;refine ρ ?_;refine Go.Wk.kv 10 (u:=.int .i64 ((n+A.length+2:Nat):Int)) (congrArg (Value.int .i64) (show((n+A.length+1:Nat):Int)+1=_ by omega)) ?_;refine cl (Jzj (n+A.length+2) om w1) ?_;rintro u w2 ⟨hU,a3⟩;obtain⟨U,uc,_,eu,bn,_,_⟩:=id hU.el;rw[List.length_replicate]at eu;subst eu;obtain⟨_,_,_,_,Z⟩:=id hU.form;have ah:=G.trans a3;have a7:=hT.ext G;generalize hu:Value.slice U (n+A.length+2) uc=u at *
 have bf:∀ k,(TN b vr vb k∨u.ownBlock=some k)->TN b vr vb k∨w1.heap.size<=k:=λk y=>y.elim .inl λh=>.inr (Z k h).1;have be:=(a7.rows.old MxC.sta bf).ext MxC.sta a3;have ba:OX 84 3 RtC (λk=>TN b vr vb k∨u.ownBlock=some k) w2 w1.heap.size u (List.replicate (n+A.length+2) pr0):=hU.old RtC.sta λk y=>by
  rcases y with y|y
  .exact .inl (.inl (nM (a1 k y) G.size))
  exact .inl (.inr y)
 have aq:u.ownBlock≠some b:=λe=>by have:=(Z b e).1;have:=a7.blk.lt;omega
 have bc:=Jv a7.bas a3;have bl:=a7.blk.ext a3;refine ρ ?_;refine stF (i:=3) (v:=u) bl rfl ?_ rfl rfl rfl rfl rfl (by rw[<-hu];rfl);intro w3 bj b2;have O:GrN (λk=>k=b) w2 w3:=GrN.by b2 λk y=>by injection y with y;exact y.symm
 have bd:=be.gr MxC.sta O λk y=>⟨.inl (.inl y),λe=>hT.ne1 (by rw[e,y])⟩;have b9:=ba.gr RtC.sta O λk y=>⟨.inl (.inl y),λe=>aq (by rw[e,y])⟩;have bb:Qz w3 base vb (PT.ofP n A).basis:=Qj bc O λg h1 h2=>hT.ne2 (by rw[h1,h2]);have ao:GrN (TN b vr vb) w w3:=(GrN.ext ah).trans (O.mono λk _ y=>.inl y);have am:(List.replicate n (PR.int (-1))++List.replicate (A.length+2) pr0).length=(List.replicate (n+A.length+2) pr0).length:=by simp;omega
 refine ρ ?_;refine Jl (fun (j:Nat)=>[(0,.pointer (some ⟨b,0,none⟩)),(1,.slice CA n cc),(15,.int .i64 (n:Int)),(16,.int .i64 (j:Int))])
  (λj w'=>j<=n/\GrN (TN b vr vb) w w'/\Blk w' b 168 [.int .i64 (n:Int),.int .i64 (A.length:Int),vr,u,vb]/\OX 80 1 MxC (λk=>TN b vr vb k∨u.ownBlock=some k) w' base vr (PT.ofP n A).rows/\Qz w' base vb (PT.ofP n A).basis/\OX 84 3 RtC (λk=>TN b vr vb k∨u.ownBlock=some k) w' w1.heap.size u (mix (List.replicate n (PR.int (-1))++List.replicate (A.length+2) pr0) (List.replicate (n+A.length+2) pr0) j)) (λj=>n-j) 0 sB
  ⟨Nat.zero_le _,ao,bj,bd,bb,by rw[Kw];exact b9⟩ ?_
 rintro j w4 ⟨hj,a4,ae,ad,av,a6⟩;have ak:(mix (List.replicate n (PR.int (-1))++List.replicate (A.length+2) pr0) (List.replicate (n+A.length+2) pr0) j).length=n+A.length+2:=by rw[Us am (by simp;omega)];simp
 refine ρ ?_;refine ci (λh=>?_) (λh=>?_)
 .have J:j<n:=by have:=oT h;omega
  clear h;have aa:Ext w4 w4.drew:=(Ext.refl w4).drew;have bi:=(hC.gr RtC.sta (by decide) (a4.mono λk _ y=>hNC k y)).ext RtC.sta (by decide) aa;obtain⟨br,bq,_,ev,_,_,a9,_,aw⟩:=id bi.el;simp only[List.length_replicate]at ev a9;injection ev with ev1 ev2 ev3
  subst ev1;obtain⟨ce,_,ap,b4⟩:=aw j (by simpa using J);have e1:(List.replicate n (PR.int 1))[j]'(by simpa using J)=PR.int 1:=by simp
  simp only[e1]at ap;obtain⟨F1,f1,F2,f2,rfl,b6⟩:=ap.sl;have ai:(PR.int 1).opp=PR.int (-1):=by decide +kernel
  have ax:=ae.ext aa;have ay:∀ {w':World} {ls:List PR},OX 84 3 RtC (λk=>TN b vr vb k∨u.ownBlock=some k) w' w1.heap.size u ls->ls.length=n+A.length+2->∃ cs,Rd w' 3 U (n+A.length+2) cs:=fun {w' ls} h hl=>by
   obtain⟨U',bm,cs,ev,_,hd,_⟩:=id h.el;rw[hl]at ev hd;rw[<-hu]at ev;injection ev with ev1 ev2 ev3
   subst ev1;exact⟨cs,hd⟩
  refine ρ ?_;refine dr [(0,0),(0,1),(0,2),(0,3),(0,4),(0,5),(0,6),(0,7),(0,8),(1,9),(0,10),(2,11)] kr ?_;refine ρd ?_;refine dld (v:=.slice U (n+A.length+2) uc) (by rw[hu];exact ax.at (i:=3) rfl) ?_;refine ρd ?_;refine Qr 3 j a9 J ?_;refine ρd ?_;refine Qq (λk x hx=>b4 k x hx) ?_;refine ρd ?_;refine dcl (Jlw b6 (by decide) (by decide)) ?_;rintro r w5 ⟨hR,af⟩;refine⟨af,?_⟩;rw[ai]at hR;have F:=aa.trans af;have ac:=a6.ext RtC.sta F;obtain⟨_,b3⟩:=ay ac ak;obtain⟨G1,g1,G2,g2,rfl,b7⟩:=hR.cell;refine ρd ?_;refine Qr 3 j b3 om ?_;refine ρd ?_;refine Jg ?_;obtain⟨_,_,_,_,ar⟩:=id a6.form;have an:∀ w1' ,OX 84 3 RtC (λk=>TN b vr vb k∨u.ownBlock=some k) w1' w1.heap.size u ((mix (List.replicate n (PR.int (-1))++List.replicate (A.length+2) pr0) (List.replicate (n+A.length+2) pr0) j).set j (PR.int (-1)))->w5.grownBy w1' u.ownBlock->GrN (TN b vr vb) w w1'/\Blk w1' b 168 [.int .i64 (n:Int),.int .i64 (A.length:Int),vr,u,vb]/\OX 80 1 MxC (λk=>TN b vr vb k∨u.ownBlock=some k) w1' base vr (PT.ofP n A).rows/\Qz w1' base vb (PT.ofP n A).basis/\OX 84 3 RtC (λk=>TN b vr vb k∨u.ownBlock=some k) w1' w1.heap.size u (mix (List.replicate n (PR.int (-1))++List.replicate (A.length+2) pr0) (List.replicate (n+A.length+2) pr0) (j+1)):=λw6 a5 D=>by
   rw[Ur am (by simp;omega) (by rw[List.getElem?_append_left (by simpa using J)];simp[J])]at a5;have a8:GrN (λk=>u.ownBlock=some k) w5 w6:=GrN.by D λk y=>y
   refine⟨?_,?_,?_,?_,a5⟩
   .have h1:GrN (TN b vr vb) w w5:=a4.trans (GrN.ext F);refine⟨D.os.trans h1.os,D.tape.trans h1.tape,D.output.trans h1.output,Nat.le_trans h1.size D.size,λk y hn=>(D.block k (nM y h1.size) λe=>?_).trans (h1.block k y hn)⟩;have:=(Z k e.symm).1;have:=G.size;omega
   .exact(ae.ext F).grown D (λe=>aq e.symm)
   .obtain⟨_,_,_,_,h3⟩:=id ad.form;refine(ad.ext MxC.sta F).gr MxC.sta a8 λk y=>⟨.inr y,λe=>?_⟩;have:=a1 k (.inr (.inl e));have:=(Z k y).1;have:=G.size;omega
   exact Qj (Jv av F) a8 λg h1 h2=>by
    have:=a1 g (.inr (.inr h1));have:=(Z g h2).1;have:=G.size;omega
  rw[<-hu]at ac an ⊢;refine stX RtC.sta ac ak.symm (show j<_ by omega) (cs:=[.bool (PR.int (-1)).neg,.slice G1 _ g1,.slice G2 _ g2]) (a:=PR.int (-1)) (RtC.sta.old b7 λk y=>.inl ?_) (λg hg=>.inr hg) (Qv rfl rfl rfl) ?_
  .rcases y with y|y
   .exact nM (a1 k y) a4.size
   rw[hu]at y;exact(ar k y).2
  intro w6 a5 D;obtain⟨k1,k2,k3,k4,k5⟩:=an w6 a5 D;refine ρ ?_;exact Jf (j+1) sO ⟨om,k1,k2,k3,k4,k5⟩ om
 have J:j=n:=by have:=oF h;omega
 clear h;subst J;rw[<-Qdn]at a6;have az:(PT.ofP j A).goal.length<=1100000:=by simp[PT.ofP];omega
 have a2:TbV w4 base b vr u vb (PT.ofP j A):=⟨ae,ad.old MxC.sta λk y=>.inl (.inl y),a6.gx RtC.sta az λk y=>⟨.inl y,λe=>by
  have:=a1 k y;have:=(Z k e).1;have:=G.size;omega⟩,av⟩
 obtain⟨S,sc,eS,bo,_⟩:=Jy a2.bas;have bp:(PT.ofP j A).basis.length=A.length:=by simp[PT.ofP]
 have b8:∀ k,k<A.length->(PT.ofP j A).basis.getD k 0=j+k:=λk y=>by simp[PT.ofP,List.getD,y]
 have au:=Rd.own (show w4.ownsRow base 3 1 (.slice S (PT.ofP j A).basis.length sc) (PT.ofP j A).basis.length (Jt (nz (PT.ofP j A).basis)) by rw[<-eS];exact a2.bas);subst eS;refine ρ ?_;refine ld (a2.blk.at (i:=4) rfl) ?_;refine ρ ?_;refine Jl (fun (k:Nat)=>[(0,.pointer (some ⟨b,0,none⟩)),(34,.slice S (PT.ofP j A).basis.length sc),(35,.int .i64 ((PT.ofP j A).basis.length:Int)),(36,.int .i64 (k:Int))]) (λk w'=>k<=A.length/\w'=w4) (λk=>A.length-k) 0 sB ⟨Nat.zero_le _,rfl⟩ ?_;rintro k w5 ⟨y,rfl⟩;refine ρ ?_;refine ci (λh=>?_) (λh=>?_)
 .have aj:k<(PT.ofP j A).basis.length:=by have:=oT h;omega
  clear h;refine ρ ?_;refine ix k au aj ?_;refine ρ ?_;refine ld (au.cell (Qg aj)) ?_;refine ρ ?_;refine ld (v:=.int .i64 (j:Int)) (a2.blk.at (i:=0) rfl) ?_;refine ρ ?_;refine cf ?_ ?_
  .rw[b8 k om];exact dF om
  refine ρ ?_;exact Jf (k+1) sO ⟨om,rfl⟩ om
 refine ρ ?_;exact Vl ⟨rfl,u,a2,a4⟩
end Go.Proofs.YtebiphhfkdbpfaaGreat
namespace Go.Wk
open Go.RowKit
theorem Jsb{α:Type}{sz:Nat}: ∀ {ps:List (List Value×α)} {k:Nat},(∀ p∈ps,p.1.length=sz)->k<=ps.length->Jd (ps.drop k)=(Jd ps).drop (k*sz)
 | ps,0,_,_=>by simp
 | [],k+1,_,h=>by simp at h
 | p::ps,k+1,h,hk=>by
  have hp:=h p (by simp);have ih:=Jsb (ps:=ps) (k:=k) (λx hx=>h x (by simp[hx])) (by simpa using hk);have e:Jd (p::ps)=p.1++Jd ps:=rfl;rw[List.drop_succ_cons,ih,e,Nat.succ_mul,List.drop_append,show p.1.drop (k*sz+sz)=[] from List.drop_of_length_le om,List.nil_append,hp,show k*sz+sz-sz=k*sz by omega]
theorem Jrw{α:Type}{sz:Nat}: ∀ {ps:List (List Value×α)} {k:Nat},(∀ p∈ps,p.1.length=sz)->k<=ps.length->Jd (ps.take k)=(Jd ps).take (k*sz)
 | ps,0,_,_=>by simp[Jd]
 | [],k+1,_,h=>by simp at h
 | p::ps,k+1,h,hk=>by
  have hp:=h p (by simp);have ih:=Jrw (ps:=ps) (k:=k) (λx hx=>h x (by simp[hx])) (by simpa using hk);have e:Jd (p::ps)=p.1++Jd ps:=rfl;have e2:Jd (p::ps.take k)=p.1++Jd (ps.take k):=rfl;rw[List.take_succ_cons,e2,ih,e,Nat.succ_mul,List.take_append,show p.1.take (k*sz+sz)=p.1 from List.take_of_length_le om,hp,show k*sz+sz-sz=k*sz by omega]
theorem OX.rd{α:Type}{e sz base m c:Nat}{A:Option Addr}{Φ:(Nat->Prop)->World->List Value->α->Prop}{N:Nat->Prop}{w:World}{ls:List α}(h:OX e sz Φ N w base (.slice A m c) ls)(hm:m=ls.length): ∃ L,Rd w sz A m L:=by
 obtain⟨ps,j,i,u⟩:=h;have:m=ps.length:=by rw[hm,j,List.length_map]
 subst this;exact⟨_,Rd.own i⟩
theorem GX.cut{α:Type}{sz:Nat}{Φ:(Nat->Prop)->World->List Value->α->Prop}{N:Nat->Prop}{w:World}{A:Option Addr}{L c:Nat}{ls:List α}(h:GX sz Φ N w (.slice A L c) ls)(hs:0<sz){k m:Nat}(hk:k<=m)(hm:m<=ls.length):
  GX sz Φ N w (.slice (if c=k then A else A.map (·.add (k*sz))) (m-k) (c-k)) ((ls.drop k).take (m-k)):=by
 obtain⟨⟨ps,A0,c0,e,J,e2,e3,G,D⟩,hn⟩:=h;injection J with h1 h2 h3
 subst h1;subst h3;have hl:ls.length=ps.length:=by rw[e,List.length_map]
 have hcut:=G.cut k m c hk om om;have u:((ps.drop k).take (m-k)).length=m-k:=by rw[List.length_take,List.length_drop];omega
 have F:Jd ((ps.drop k).take (m-k))=((Jd ps).drop (k*sz)).take ((m-k)*sz):=by
  rw[Jrw (sz:=sz) (λp i=>(D p (List.mem_of_mem_drop i)).1) (by rw[List.length_drop];omega),Jsb (λp i=>(D p i).1) om]
 refine⟨⟨(ps.drop k).take (m-k),_,c-k,by rw[e];simp[List.map_drop,List.map_take],by rw[u],om,om,by rw[u,F];exact hcut,λp i=>D p (List.mem_of_mem_drop (List.mem_of_mem_take i))⟩,λh0 U Z c' ev j=>?_⟩;injection ev with ev _ _
 have y:ls≠[]:=λO=>h0 (by rw[O];simp);split at ev
 .exact hn y U L c (by rw[ev]) j
 cases A with
 | none=>cases ev
 | some a0=>
  simp only[Option.map_some,Option.some.injEq]at ev;subst ev;rw[Yn]at j;exact hn y a0 L c rfl j
end Go.Wk
namespace Go.Proofs.YtebiphhfkdbpfaaGreat
open Go.RowKit Pl Go.Wk Bl
attribute [local irreducible] WC WL QX WD WDB WP WN WG WH
variable {b base i:Nat}{t:PT}{vb vg vr:Value}{w:World}
def ptK(t:PT)(i:Nat): List PR:=(List.range t.n).map λv=>match(List.range i).reverse.find? λi=>t.basis.getD i 0 == v with
 | none=>pr0
 | some i=>(t.rows.getD i []).getD t.right pr0
theorem ptK_0(t:PT): ptK t 0=List.replicate t.n pr0:=by
 unfold ptK;exact List.eq_replicate_iff.2 ⟨by simp,λx i=>by obtain⟨_,_,e⟩:=List.mem_map.1 i;exact e.symm⟩
theorem Jbh(t:PT)(i:Nat): (ptK t i).length=t.n:=by simp[ptK]
theorem Qbl(h:t.basis.getD i 0<t.n): ptK t (i+1)=(ptK t i).set (t.basis.getD i 0) ((t.rows.getD i []).getD t.right pr0):=by
 refine List.ext_getElem? λv=>?_;have j:∀ k,(ptK t k)[v]?=if v<t.n then some (match(List.range k).reverse.find? λi=>t.basis.getD i 0 == v with|none=>pr0|some i=>(t.rows.getD i []).getD t.right pr0) else none:=λk=>by
  unfold ptK;rw[List.getElem?_map];by_cases hv:v<t.n
  .rw[if_pos hv,List.getElem?_range hv];rfl
  rw[if_neg hv,List.getElem?_eq_none (by simpa using hv)];rfl
 have u:(List.range (i+1)).reverse=i::(List.range i).reverse:=by rw[List.range_succ];simp
 by_cases hv:t.basis.getD i 0=v
 .subst hv;rw[List.getElem?_set_self (by rw[Jbh];exact h),j,if_pos h,u,List.find?_cons];simp only[beq_self_eq_true]
 rw[List.getElem?_set_ne hv,j,j,u,List.find?_cons];have:(t.basis.getD i 0 == v)=false:=by simpa using hv
 rw[this]
theorem Qbm(h:¬ t.basis.getD i 0<t.n): ptK t (i+1)=ptK t i:=by
 unfold ptK;refine List.map_congr_left λv j=>?_;have u:(List.range (i+1)).reverse=i::(List.range i).reverse:=by rw[List.range_succ];simp
 have:(t.basis.getD i 0 == v)=false:=by
  have:=List.mem_range.1 j;exact beq_eq_false_iff_ne.2 om
 rw[u,List.find?_cons,this]
theorem Jmh(t:PT): ptK t t.basis.length=t.point:=rfl
theorem Qcb(hT:TbV w base b vr vg vb t)(hp:POk t)(hn:t.n<=64)(hm:t.m<=64):
  Ret Tryz.prog 87 [.pointer (some ⟨b,0,none⟩)] w λu w'=>GX 3 RtC (TN b vr vb) w' u t.point/\(∀ k,u.ownBlock=some k->w.heap.size<=k)/\Ext w w':=by
 have ad:=hT.lt;have az:t.rows.length=t.m:=hp.rows;have b5:t.basis.length=t.m:=hp.basis;have F:∀ i (hi:i<t.rows.length),t.rows[i].length=t.n+t.m+2:=λi hi=>by
  have:=(hp.row i (by rw[<-hp.rows];exact hi)).1;rwa [List.getD,List.getElem?_eq_getElem hi]at this
 refine Jz Tryz.func87 Tryz.ntmps87 rfl kr rfl ?_;refine ρ ?_;refine ld (hT.blk.at (i:=0) rfl) ?_;refine ρ ?_;refine cl (Jzj t.n om w) ?_;rintro u w1 ⟨hU,a5⟩;obtain⟨U,uc,_,eu,ax,_,_⟩:=id hU.el;rw[List.length_replicate]at eu;subst eu;obtain⟨_,_,_,_,a1⟩:=id hU.form;have aq:∀ k,(TN b vr vb k∨(Value.slice U t.n uc).ownBlock=some k)->TN b vr vb k∨w.heap.size<=k:=λk O=>O.elim .inl λh=>.inr (a1 k h).1;have hR:=hT.rows.old MxC.sta aq;have an:OX 84 3 RtC (λk=>TN b vr vb k∨(Value.slice U t.n uc).ownBlock=some k) w1 w.heap.size (.slice U t.n uc) (ptK t 0):=by
  rw[ptK_0];exact hU.old RtC.sta λk O=>.inl (O.elim (λh=>.inl (ad k h)) .inr)
 obtain⟨S,sc,eS,ay,_⟩:=Jy hT.bas;have ae:=Rd.own (show w.ownsRow base 3 1 (.slice S t.basis.length sc) t.basis.length (Jt (nz t.basis)) by rw[<-eS];exact hT.bas);subst eS;obtain⟨R,rc,_,eR,b2,ap,ao⟩:=id hR.el;subst eR;have aw:=hT.blk.ext a5;refine ρ ?_;refine ld (aw.at (i:=4) rfl) ?_;refine ρ ?_;refine Jl (fun (k:Nat)=>[(0,.pointer (some ⟨b,0,none⟩)),(3,.slice U t.n uc),(14,.slice S t.basis.length sc),(15,.int .i64 (t.basis.length:Int)),(16,.int .i64 (k:Int))]) (λk w'=>k<=t.m/\Ext w w'/\OX 84 3 RtC (λk=>TN b (.slice R t.rows.length rc) (.slice S t.basis.length sc) k∨(Value.slice U t.n uc).ownBlock=some k) w' w.heap.size (.slice U t.n uc) (ptK t k)) (λk=>t.m-k) 0 sB ⟨Nat.zero_le _,a5,an⟩ ?_;rintro k w2 ⟨O,G,a2⟩;refine ρ ?_;refine ci (λh=>?_) (λh=>?_)
 .have a8:k<t.basis.length:=by have:=oT h;omega
  clear h;refine ρ ?_;refine ix k (ae.ext G) a8 ?_;refine ρ ?_;refine ld ((ae.ext G).cell (Qg a8)) ?_;refine ρ ?_;refine ld ((hT.blk.ext G).at (i:=0) rfl) ?_;refine ρ ?_;refine ci (λh=>?_) (λh=>?_)
  .have Z:t.basis.getD k 0<t.n:=by have:=oT h;omega
   clear h;have a3:Ext w2 w2.drew:=(Ext.refl w2).drew;have y:=G.trans a3;have D:k<t.rows.length:=om
   obtain⟨ce,_,⟨vk,rfl,av⟩,aj⟩:=ao k D;obtain⟨K,kc,_,rfl,b4,_,au,_,ar⟩:=id av.el;rw[F k D]at *;have a9:w2.drew.cell? (adr R k)=some (.slice K (t.n+t.m+2) kc):=by
    have:=Qp y (aj 0 _ rfl);rwa [Nat.mul_one,add_zero]at this
   obtain⟨cr,_,a4,a7⟩:=ar (t.n+t.m+1) (by rw[F k D];omega);have er:t.rows[k][t.n+t.m+1]'(by rw[F k D];omega)=(t.rows.getD k []).getD t.right pr0:=by simp[PT.right,List.getD,List.getElem?_eq_getElem D,List.getElem?_eq_getElem (show t.n+t.m+1<t.rows[k].length by rw[F k D];omega)]
   rw[er]at a4;have af:=Qbl Z;generalize (t.rows.getD k []).getD t.right pr0=q at *
   obtain⟨F1,f1,F2,f2,rfl,b3⟩:=a4.sl;have ac:=a2.ext RtC.sta a3;have a6:t.n=(ptK t k).length:=(Jbh t k).symm;refine ρ ?_;refine dr [(0,0),(0,1),(0,2),(0,3),(0,4),(0,5),(0,6),(0,7),(0,8),(0,9),(1,10),(0,11),(0,12),(0,13),(2,14)] kr ?_;refine ρd ?_;refine dld ((hT.blk.ext y).at (i:=2) rfl) ?_;refine ρd ?_;refine dix k (ap.ext y) D ?_;refine ρd ?_;refine dld a9 ?_;refine ρd ?_;refine dcl (Gt (n:=t.n) (m:=t.m) (hT.blk.ext y) rfl rfl om om) ?_;rintro _ w3 ⟨rfl,J⟩;refine⟨J,?_⟩;refine ρd ?_;refine Qr 3 (t.n+t.m+1) ((au.ext y).ext J) om ?_;refine ρd ?_;refine Qq (λj u hu=>Qp (y.trans J) (a7 j u hu)) ?_;refine ρd ?_;have aa:=ac.ext RtC.sta J;obtain⟨_,ak⟩:=aa.rd a6;refine Qr 3 (t.basis.getD k 0) ak Z ?_;refine ρd ?_;refine Jg ?_;refine stX RtC.sta aa a6 (show t.basis.getD k 0<_ by omega) (cs:=[.bool q.neg,.slice F1 _ f1,.slice F2 _ f2]) (a:=q) (RtC.sta.gr a4 (GrN.ext (y.trans J))) (λg hg=>.inr hg) (Qv rfl rfl rfl) ?_
   intro w4 am ai;refine ρ ?_;exact Jf (k+1) sO ⟨om,Jh (G.trans (a3.trans J)) ai λk O=>(a1 k O).1,by rw[af];exact am⟩ om
  have Z:¬ t.basis.getD k 0<t.n:=by have:=oF h;omega
  refine ρ ?_;exact Jf (k+1) sO ⟨om,G,by rw[Qbm Z];exact a2⟩ om
 have ah:k=t.basis.length:=by have:=oF h;omega
 subst ah;rw[Jmh]at a2;refine ρ ?_;refine Jq ⟨a2.gx RtC.sta ?_ λk O=>⟨.inl O,λe=>by have:=ad k O;have:=(a1 k e).1;omega⟩,λk O=>(a1 k O).1,G⟩;rw[<-Jmh,Jbh];omega
theorem Qmj(hT:TbV w base b vr vg vb t)(hp:POk t)(hn:t.n<=64)(hm:t.m<=64)(h0:0<t.m):
  Ret Tryz.prog 84 [.pointer (some ⟨b,0,none⟩)] w λu w'=>GX 3 RtC (TN b vr vb) w' u t.dual/\(∀ k,u.ownBlock=some k->w.heap.size<=k)/\Ext w w':=by
 have Z:=hT.lt;have O:t.goal.length=t.n+t.m+2:=hp.goal.1;refine Jz Tryz.func84 Tryz.ntmps84 rfl kr rfl ?_;refine ρ ?_;refine ld (hT.blk.at (i:=1) rfl) ?_;refine ρ ?_;refine cl (Jzj t.m om w) ?_;rintro u w1 ⟨hU,a1⟩;obtain⟨U,uc,_,eu,a7,_,_⟩:=id hU.el;rw[List.length_replicate]at eu;subst eu;obtain⟨_,_,_,_,D⟩:=id hU.form;have a6:∀ k,(TN b vr vb k∨(Value.slice U t.m uc).ownBlock=some k)->TN b vr vb k∨w.heap.size<=k:=λk y=>y.elim .inl λh=>.inr (D k h).1;have a5:OX 84 3 RtC (λk=>TN b vr vb k∨(Value.slice U t.m uc).ownBlock=some k) w1 w.heap.size (.slice U t.m uc) (List.replicate t.m pr0):=hU.old RtC.sta λk y=>.inl (y.elim (λh=>.inl (Z k h)) .inr);have hG:=hT.goal.old RtC.sta (by decide) a6;obtain⟨G,gc,_,eG,a2,a9,a8⟩:=id hG.el;subst eG;have hcut:=hG.cut (by decide) (k:=t.n) (m:=t.n+t.m) om (by rw[O];omega);rw[O]at a2;rw[show t.n+t.m-t.n=t.m by omega]at hcut
 have J:Ext w1 w1.drew:=(Ext.refl w1).drew;have j:=a1.trans J;have F:=hT.ext j;refine ρ ?_;refine drC 14 [0,1,5,9,13] [(0,2),(0,3),(0,4),(0,6),(0,7),(0,8),(0,10),(0,11),(0,12),(0,14),(0,15),(0,16),(0,17),(0,18),(2,19)] kr ?_;refine ρp ?_;refine ρd ?_;refine dld (F.blk.at (i:=3) rfl) ?_;refine ρd ?_;refine dld (F.blk.at (i:=0) rfl) ?_;refine ρd ?_;refine dld (F.blk.at (i:=0) rfl) ?_;refine ρd ?_;refine dld (F.blk.at (i:=1) rfl) ?_;refine ρd ?_;refine Qmk Iz t.n (t.n+t.m) gc rfl rfl rfl rfl ⟨_,_,rfl,rfl⟩ ⟨_,_,rfl,by push_cast;rfl⟩ rfl (.inl rfl) om om (nR _) rfl ?_;rw[show t.n+t.m-t.n=t.m by omega];refine ρd ?_;refine Jg ?_;refine cpX RtC.sta (a5.ext RtC.sta J) (by simp) (hcut.ext RtC.sta (by decide) j) h0 (by decide) (λcs a h=>h) RtC.one (λg hg=>.inr hg) ?_;intro w2 a4 a3;refine ρ ?_;exact Jq ⟨a4.gx RtC.sta (by simp;omega) λk y=>⟨.inl y,λe=>by have:=Z k y;have:=(D k e).1;omega⟩,λk y=>(D k y).1,Jh j a3 λk y=>(D k y).1⟩
open Go.RowKit Pl Go.Wk Bl
variable {b fuel n t:Nat}{N:Nat->Prop}{v vA vB vC:Value}{w:World}
abbrev Nn: Nat->Prop:=λ_=>False
theorem zSol: Xz Tryz.prog 126=some (.agg #[.int .i64 0,.slice none 0 0,.slice none 0 0,.slice none 0 0,.bool false,.slice none 0 0,.slice none 0 0]):=kr
theorem Qrl(A B C D:Option Addr)(m c m' c' k d k' d':Nat)(b:Bool)(w:World): (Instr.build 126 #[(0,.int .i64 0),(1,.slice A m c),(2,.slice B m' c'),(4,.agg #[.bool b,.slice C k d,.slice D k' d'])]).run Tryz.prog w=.ok (.agg #[.int .i64 0,.slice A m c,.slice B m' c',.slice none 0 0,.bool b,.slice C k d,.slice D k' d']) w:=kr
theorem Jwj{ls:List PR}{cs:List Value}(h:GX 3 RtC N w v ls)(hB:Blk w b t cs)(hc:∀ u∈cs,∀ z,u≠.int .u32 z)(hv:v.ownBlock≠some b): GX 3 RtC (λk=>N k∨k=b) w v ls:=by
 obtain⟨⟨ps,A,c,e,e1,Z,U,O,j⟩,hn⟩:=h;refine⟨⟨ps,A,c,e,e1,Z,U,O,λp D=>⟨(j p D).1,?_⟩⟩,λh0 ad m c' ev i=>i.elim (hn h0 ad m c' ev) λi=>hv (by rw[ev,<-i];rfl)⟩;obtain⟨x,y,J,G,F⟩:=(j p D).2;exact⟨x,y,J,G.box hB hc,F.box hB hc⟩
theorem noS: ∀ u∈[Value.int .i64 0,.slice none 0 0,.slice none 0 0,.slice none 0 0,.bool false,.slice none 0 0,.slice none 0 0],∀ z,u≠.int .u32 z:=λu i z e=>by
 simp only[List.mem_cons,List.not_mem_nil,or_false]at i;rcases i with rfl|rfl|rfl|rfl|rfl|rfl|rfl<;>cases e
theorem Qwk{A:List (List PR)}{t':PT}(hC:GX 3 RtC N w vC (List.replicate n (PR.int 1)))(hA:GX 1 MxC N w vA A)(hB:GX 3 RtC N w vB (List.replicate A.length (PR.int 1)))(hNw:∀ k,N k->k<w.heap.size)(hbin:Bin n A)(h1:∀ j,j<n->∃ i,i<A.length/\Xe A i j=1)(hn:n<=64)(hm:A.length<=5)(h0:0<A.length)(hf:(n+A.length)^A.length<=fuel)(hmx:PT.maxim (n+A.length) fuel (PT.ofP n A)=some t'):
  Ret Tryz.prog 53 [.agg #[vC,vA,vB]] w λu w'=>∃ X Y q1 q2,u=.tuple #[.agg #[.int .i64 0,X,Y,.slice none 0 0,.bool (t'.goal.getD t'.right pr0).neg,q1,q2],.int .i64 0]/\GX 3 RtC Nn w' X t'.point/\GX 3 RtC Nn w' Y t'.dual/\NatX Nn w' q1 (t'.goal.getD t'.right pr0).num/\NatX Nn w' q2 (t'.goal.getD t'.right pr0).den/\Ext w w':=by
 obtain⟨c7,cd,S,b5,hS,cn⟩:=Jmx hbin h1 hf;rw[hmx]at b5;cases b5
 obtain⟨i1,i2,i3⟩:=Qcp hbin;have bq:∀ t S,PSt n A.length (pck n (Xe A)) t S->TSl t:=λt S h=>Qzq h i1 i2 i3 rfl om hm;have am:=hS.agr.ok;have ck:=hS.en;have cm:=hS.em;obtain⟨CA,cc,_,rfl,bu,_,_,_,_⟩:=id hC.el;obtain⟨AA,ac,_,rfl,cq,_,_,_,_⟩:=id hA.el;obtain⟨BA,bc,_,rfl,bv,_,_,_,_⟩:=id hB.el;simp only[List.length_replicate]at hC hB bu bv ⊢;refine Jz Tryz.func53 Tryz.ntmps53 rfl kr rfl ?_;refine ρ ?_;refine bx ?_;intro w1 b1 ay cp bj;refine ρ ?_;refine alc zSol ?_;intro w2 b2 aw bw ap;have U:=ay.trans aw;have af:=bj.ext aw;have c8:b1≠b2:=by have:=bj.lt;omega
 have bg:=hC.ext RtC.sta (by decide) U;have bl:=hA.ext MxC.sta (by decide) U;have ae:=hB.ext RtC.sta (by decide) U;refine ρ ?_;refine lds (cs:=[.slice CA n cc,.slice AA A.length ac,.slice BA A.length bc]) (λj u hu=>af.at hu) ?_;refine ρ ?_;refine cl (Qzc bg bl ae hbin om) ?_;rintro _ w3 ⟨rfl,D⟩;have O:=af.ext D;refine ρ ?_;refine ld (O.at (i:=0) rfl) ?_;refine ρ ?_;refine kf 15 ?_ ?_
 .simp;omega
 refine ρ ?_;refine ld (O.at (i:=2) rfl) ?_;refine ρ ?_;refine cf ?_ ?_
 .simp;omega
 have a3:=U.trans D;refine ρ ?_;refine lds (cs:=[.slice CA n cc,.slice AA A.length ac,.slice BA A.length bc]) (λj u hu=>O.at hu) ?_;refine ρ ?_;refine cl (Qfh (bg.ext RtC.sta (by decide) D) (bl.ext MxC.sta (by decide) D) (ae.ext RtC.sta (by decide) D) hbin hn om) ?_;rintro _ w4 ⟨base,b,vr,vb,rfl,ad,bb,ba,a9,ak⟩;refine ρ ?_;refine cl (Qlv a9 hbin hn om) ?_;rintro _ w5 ⟨rfl,Z⟩;have az:=a3.trans (ak.trans Z);have bh:=(O.ext ak).ext Z;refine ρ ?_;refine ld (bh.at (i:=0) rfl) ?_;refine ρ ?_;have c4:=a9.ext Z;have an:∀ k,TN b vr vb k->w3.heap.size<=k:=λk y=>by
  rcases y with y|y|y
  .rw[y];exact bb
  .obtain⟨_,_,_,_,h⟩:=id a9.rows.form;exact nL ad (h k y).1
  obtain⟨_,_,_,_,h⟩:=Jy a9.bas;exact nL ad (h k y).1
 refine cl (Qdr (N:=TN b vr vb) c4 ((hC.old RtC.sta (by decide) λk y=>.inr (nL a3.size (an k y))).ext RtC.sta (by decide) az) (λk y=>y) hbin hn om) ?_;rintro _ w6 ⟨rfl,vg,c3,b7⟩;have a2:Ext w3 w6:=b7.old (ak.trans Z) an;have ca:=O.ext a2;have c9:=(ap.ext D).ext a2;have b9:base<=w6.heap.size:=nL ba (nL Z.size b7.size);have aj:Ext w6 w6.drew:=(Ext.refl w6).drew;have a5:=c3.ext aj;have av:=a2.trans aj;refine ρ ?_;refine drH (λi=>i == 10) ?_;refine Uj (fuel':=6) 17 [(0,0),(0,1),(0,2),(0,3),(0,4),(0,5),(0,6),(0,7),(0,8),(0,9)] #[true,true,true,true,true,true,true,true,true,true,false,false,false,false,false,false] kr kr rfl ?_;refine ρd ?_;refine dld (a5.blk.at (i:=0) rfl) ?_;refine ρd ?_;refine dld (a5.blk.at (i:=1) rfl) ?_;refine ρd ?_;refine Uq ?_;refine Zs 10 kr rfl rfl ?_;refine Go.Wk.kv 45 (u:=.int .i64 ((n+A.length:Nat):Int)) (congrArg (Value.int .i64) ((Vw ⟨by show _<=((n:Nat):Int)+((A.length:Nat):Int);omega,by show((n:Nat):Int)+((A.length:Nat):Int)<=_;omega⟩).trans (by show((n:Nat):Int)+((A.length:Nat):Int)=_;omega))) ?_
 refine cl (Qft a5 (PSt.start hbin) bq c7 hmx om om (nL b9 aj.size)) ?_;rintro _ w7 ⟨rfl,cb,ao,bt⟩;have a1:Ext w3 w7:=bt.old av an;refine Qk (Xq (λh=>by cases h) ?_);refine Zs 11 kr rfl rfl ?_;refine ρ ?_;refine Xq (λ_=>Ext.refl _) ?_;refine hmkS 17 0 _ #[true,true,true,true,true,true,true,true,true,true,true,true,true,true,true,true] [12,13,14,15] [47,48,5,6] [SF.eq (.int .i64 0),SF.eq (.bool true),SF.eq (.int .i64 0),SF.eq (.bool true)] kr (by rfl) ?_ ?_
 .refine gsc (λvs v1 ai hd=>?_) ?_
  .simp only[slM];refine ρ ?_;exact Xk (Ext.refl _) rfl
  refine gsc (λvs v1 ai hd=>?_) ?_
  .simp only[slM];refine ρ ?_;exact Xk (Ext.refl _) rfl
  refine gsc (λvs v1 ai hd=>?_) ?_
  .have e0:vs 0=_:=hd 0;simp only[slM,e0];refine ρ ?_;exact Xk (Ext.refl _) rfl
  refine gsc (λvs v1 ai hd=>?_) gse
  have e1:vs 1=_:=hd 1;simp only[slM,e1];refine ρ ?_;exact Xk (Ext.refl _) rfl
 intro vs bm aq hd;have e0:vs 0=_:=hd 0;have e1:vs 1=_:=hd 1;have e2:vs 2=_:=hd 2;have e3:vs 3=_:=hd 3;simp only[slM,e0,e1,e2,e3];clear e0 e1 e2 e3 hd;have ao:=ao.ext aq;have a1:=a1.trans aq;generalize bm=w7 at *
 refine Xg kr ?_;refine ρ ?_;have au:Ext w7 w7.drew:=(Ext.refl w7).drew;have a4:=ao.ext au;have aa:=a1.trans au;refine ρ ?_;refine drC 18 [0,2,4,8] [(0,5),(0,6),(0,7),(1,1),(1,3),(1,9),(0,10),(0,11),(0,12),(2,13),(2,14)] kr ?_;refine ρp ?_;refine ρd ?_;refine dld (a4.blk.at (i:=3) rfl) ?_;refine ρd ?_;refine dcl (Qcb a4 am om om) ?_;rintro X w8 ⟨hX,c1,a7⟩;refine⟨a7,?_⟩;have be:=a4.ext a7;refine ρd ?_;refine dcl (Qmj be am om om om) ?_;rintro Y w9 ⟨hY,bz,a6⟩;refine⟨a6,?_⟩;have bd:=be.ext a6;refine ρd ?_;refine dcl (Gt (n:=t'.n) (m:=t'.m) bd.blk rfl rfl om om) ?_;rintro _ ah ⟨rfl,F⟩;refine⟨F,?_⟩;have bf:=bd.ext F;refine ρd ?_;obtain⟨G,gc,_,eG,co,_,c6,_,c5⟩:=id bf.goal.el;have b6:t'.goal.length=t'.n+t'.m+2:=am.goal.1;rw[b6]at eG;subst eG;have ar:Ext w3 ah:=aa.trans (a7.trans (a6.trans F));have J:=(ap.ext D).ext ar
 obtain⟨cr,_,b3,b4⟩:=c5 (t'.n+t'.m+1) om;have er:t'.goal[t'.n+t'.m+1]'(by omega)=t'.goal.getD t'.right pr0:=by simp[PT.right,List.getD,List.getElem?_eq_getElem (show t'.n+t'.m+1<t'.goal.length by omega)]
 rw[er]at b3;generalize t'.goal.getD t'.right pr0=q at *
 obtain⟨F1,f1,F2,f2,rfl,br⟩:=b3.sl;have bs:Rd ah 3 G (t'.n+t'.m+2) _:=b6 ▸ c6;refine Qr 3 (t'.n+t'.m+1) bs om ?_;refine ρd ?_;refine Qq (λj u hu=>b4 j u hu) ?_;refine ρd ?_;obtain⟨X1,X2,_,rfl,_,_,_,_,_⟩:=id hX.el;obtain⟨Y1,Y2,_,rfl,_,_,_,_,_⟩:=id hY.el;refine dbld (λw=>Qrl _ _ _ _ _ _ _ _ _ _ _ _ _ w) ?_;refine ρd ?_;refine Jg ?_;have cj:=ap.lt;have ch:=D.size;have cg:=aa.size;have ce:=a7.size;have c2:=Jwj (hX.ext RtC.sta (by decide) (a6.trans F)) J noS (λe=>by have:=c1 b2 e;omega);have c0:=Jwj (hY.ext RtC.sta (by decide) F) J noS (λe=>by have:=bz b2 e;omega);obtain⟨_,_,ev,q2,q3⟩:=br;cases ev
 have bp:=q2.box J noS;have bo:=q3.box J noS;refine stb (cs':=[.int .i64 0,.slice X1 _ X2,.slice Y1 _ Y2,.slice none 0 0,.bool q.neg,.slice F1 _ f1,.slice F2 _ f2]) J ?_ (λu hu=>by
  simp only[List.mem_cons,List.not_mem_nil,or_false]at hu;rcases hu with rfl|rfl|rfl|rfl|rfl|rfl|rfl<;>rfl)
 intro bn bi b8 ax;have a8:GrN (λk=>TN b vr vb k∨k=b2) ah bn:=GrN.by b8 λk y=>by injection y with y;exact .inr y.symm
 refine ρ ?_;refine Qm ?_;refine Jg ?_;refine ρ ?_;exact Zo bi ⟨_,_,_,_,rfl,(c2.gr RtC.sta (by decide) a8).old RtC.sta (by decide) λk y=>y.elim,(c0.gr RtC.sta (by decide) a8).old RtC.sta (by decide) λk y=>y.elim,(bp.gr a8).old λk y=>y.elim,(bo.gr a8).old λk y=>y.elim,ax w (a3.trans ar) (nL ay.size bw)⟩
end Go.Proofs.YtebiphhfkdbpfaaGreat
namespace Go.Wk
open Go.RowKit
variable {base d e k n s ty:Nat}{N:Nat->Prop}{v v':Value}{w w1 w2:World}
theorem Jhj{P:Program}{al:AL}{Q:Exit->Act->World->Prop}{ops:Array Oper}{rest:List Oper}{pos:String}{aft:Array Edge}{x y:Operand}{t yt:TypeId}{k2:IntKind}{v:Nat}(hv:v<=32)(kk:WL P n ops Q rest ((d,.int .u32 ((s / 2^v:Nat):Int))::al) w)(hx:ev al x=some (.int .u32 (s:Int)):=by rfl)(hy:ev al y=some (.int k2 (v:Int)):=by rfl)(hd:Nat.blt d n=true:=by rfl):
  WL P n ops Q (⟨some d,.binOp .shr t x y yt,ty,pos,aft,none⟩::rest) al w:=by
 rw[<-Jhr s v hv]at kk;exact wop hd (λa i=>Jhx hx hy om i (some d) w) kk
theorem Um{sz m base' e' sz' m':Nat}{xs xs':List Value}(h:w.ownsRow base e sz v m xs)(h':w.ownsRow base' e' sz' v' m' xs')(hne:Nat.beq e e'=false)(hk:v.ownBlock=some k): v'.ownBlock≠some k:=by
 have j:e≠e':=by intro i;subst i;simp at hne
 rcases h.2 with⟨rfl,_⟩|⟨g,cap,cur,rfl,_,hh,_⟩
 .simp[Value.ownBlock]at hk
 intro u;rcases h'.2 with⟨rfl,_⟩|⟨g',cap',cur',rfl,_,hh',_⟩
 .simp[Value.ownBlock]at u
 have D:g=k:=by simpa [Value.ownBlock] using hk
 have y:g'=k:=by simpa [Value.ownBlock] using u
 grind
theorem OX.own{α:Type}{sz:Nat}{Φ:(Nat->Prop)->World->List Value->α->Prop}{ls:List α}(h:OX e sz Φ N w base v ls): ∃ m xs,w.ownsRow base e sz v m xs:=by
 obtain⟨ps,_,i,_⟩:=h;exact⟨_,_,i⟩
theorem GrN.by2{g:Option Nat}(h:GrN N w w1)(hg:w1.grownBy w2 g)(ho:∀ k,g=some k->w.heap.size<=k∨N k): GrN N w w2 :=
 ⟨hg.os.trans h.os,hg.tape.trans h.tape,hg.output.trans h.output,Nat.le_trans h.size hg.size,λk i hn=>(hg.block k (nM i h.size) λe=>(ho k e.symm).elim (λj=>om) hn).trans (h.block k i hn)⟩
end Go.Wk
namespace Go.Proofs.YtebiphhfkdbpfaaGreat
open Go.RowKit Pl Go.Wk Bl
attribute [local irreducible] WC WL QX WD WDB WP WN WG WH
theorem Qnf(n:Nat)(hn:n<=1000)(w:World): Ret Tryz.prog 54 [.int .i64 (n:Int)] w λu w'=>OX 84 3 RtC (Ov w u) w' w.heap.size u (List.replicate n pr0)/\Ext w w':=by
 refine Jz Tryz.func54 Tryz.ntmps54 rfl kr rfl ?_;refine ρ ?_;refine mkRt n hn ?_;intro w1 A a2 hO hA;have hO:=hO (Ov w (.slice A n n));refine ρ ?_;refine Jl (fun (k:Nat)=>[(3,.slice A n n),(8,.int .i64 (n:Int)),(9,.int .i64 (k:Int))]) (λk w'=>k<=n/\Ext w w'/\OX 84 3 RtC (Ov w (.slice A n n)) w' w.heap.size (.slice A n n) (mix (List.replicate n pr0) (List.replicate n prz) k)) (λk=>n-k) 0 sB ⟨Nat.zero_le _,a2,by rw[Kw];exact hO⟩ ?_;rintro k w2 ⟨hk,y,i⟩;have U:(mix (List.replicate n pr0) (List.replicate n prz) k).length=n:=by rw[Us (by simp) (by simpa using hk)];simp
 refine ρ ?_;refine ci (λh=>?_) (λh=>?_)
 .have F:k<n:=by have:=oT h;omega
  clear h;refine ρ ?_;refine cl (Gu 0 (by decide) (by decide) w2) ?_;rintro r w3 ⟨hr,J⟩;have e0:PR.int 0=pr0:=rfl;rw[e0]at hr;obtain⟨C,e,D,f,rfl,hc⟩:=hr.cell;have G:=i.ext RtC.sta J;obtain⟨A',c',cs,ev,_,O,_⟩:=id G.el;rw[U]at ev O;injection ev with ev1 ev2 ev3
  subst ev1;refine ρ ?_;refine ixq 3 k O F ?_;refine ρ ?_;obtain⟨_,_,_,_,a3⟩:=id G.form;have a5:k<(mix (List.replicate n pr0) (List.replicate n prz) k).length:=om
  refine stX RtC.sta G U.symm a5 (cs:=[.bool pr0.neg,.slice C _ e,.slice D _ f]) (a:=pr0) (RtC.sta.old hc λj Z=>.inl ?_) (λg hg=>.inr hg) (Qv rfl rfl rfl) ?_
  .rcases Z with Z|Z
   .exact nM Z y.size
   obtain⟨_,_,_,_,h3⟩:=id i.form;exact(h3 j Z).2
  intro w4 a1 a6;rw[Ur (l':=List.replicate n pr0) (l:=List.replicate n prz) (x:=pr0) (by simp) (by simpa using F) (by simp[F])]at a1;refine ρ ?_;exact Jf (k+1) sO ⟨om,Jh (y.trans J) a6 (λg hg=>(a3 g hg).1),a1⟩ om
 have a4:k=n:=by have:=oF h;omega
 subst a4;have e:=Jxg (l':=List.replicate k pr0) (l:=List.replicate k prz) (by simp);rw[List.length_replicate]at e;rw[e]at i;refine ρ ?_;exact Jq ⟨i,y⟩
theorem Qxz{w:World}{A:Option Addr}{c n:Nat}{es:List Nat}(hn:n<=32): Ret Tryz.prog 51 [.agg (grC A c n es).toArray] w λu w'=>u=.int .u32 ((2^n-1:Nat):Int)/\Ext w w':=by
 have F:=Kx hn;have y:0<2^n:=Nat.two_pow_pos n;refine Jz Tryz.func51 Tryz.ntmps51 rfl kr rfl ?_;refine ρ ?_;refine bx (cs:=grC A c n es) ?_;intro w1 b j G D;refine ρ ?_;refine ld (D.at (i:=0) rfl) ?_;refine ρ ?_;refine sl64 (v:=n) om ?_;refine ρ ?_;refine Jq ⟨?_,j⟩;generalize 2^n=p at *
 congr 1
 rw[IntKind.wrap_u64,IntKind.wrap_u32];omega
open Go.RowKit Pl Go.Wk Bl
variable {E es:List Nat}{c i k n p s set v:Nat}
theorem zBl: Xz Tryz.prog 4=some (.bool false):=kr
theorem wfU(h:p<4294967296): (Lit.int .u32 (p:Int)).wf=true:=by
 simp only[Lit.wf,Bool.and_eq_true,decide_eq_true_eq];exact⟨by show(0:Int)<=_;omega,by show _<=(4294967295:Int);omega⟩
theorem Qrz(hs:s<4294967296): bits .and .u32 ((s / 2^v:Nat):Int) 1=((s.testBit v).toNat:Int):=by
 have u:s / 2^v<4294967296:=nN (Nat.div_le_self _ _) hs;have i:=u32_and_nat (s / 2^v) 1 u om;have j:s / 2^v &&& 1=(s.testBit v).toNat:=by
  rw[Nat.and_one_is_mod,Nat.toNat_testBit]
 rw[j]at i;exact i
theorem KU: Maps.Keyed Tryz.prog 25:=Maps.int_keyed Tryz.underlying25
theorem Jds(b:Bool)(A B:Option Addr)(m c m' c':Nat)(w:World): (Instr.buildSlice 80 1 #[(0,.agg #[.bool b,.slice A m c,.slice B m' c'])]).run Tryz.prog w=.ok (.slice (some ⟨w.heap.size,0,none⟩) 1 1) (w.alloc (.cells #[.bool b,.slice A m c,.slice B m' c'] 84)):=kr
def pkA(n:Nat)(E:List Nat)(set i:Nat): List (List PR):=(Jm E set i).map λi=>(Jb n set).map λv=>PR.int (((E.getD i 0) &&& set).testBit v).toNat
theorem Jwn(E:List Nat)(set:Nat): ∀ i,(Jm E set i).length<=i
 | 0=>by simp[Jm]
 | i+1=>by
  have:=Jwn E set i;unfold Jm;simp only;split<;>simp<;>omega
def Vs(E:List Nat)(set i p:Nat): Bool:=(List.range i).any λk=>(E.getD k 0) &&& set == p
theorem Jxn(h:(E.getD i 0) &&& set=0∨Vs E set i ((E.getD i 0) &&& set)=true): Jm E set (i+1)=Jm E set i:=by
 rw[Jm];exact if_pos h
theorem Jwm(h0:(E.getD i 0) &&& set≠0)(h1:Vs E set i ((E.getD i 0) &&& set)=false): Jm E set (i+1)=Jm E set i++[i]:=by
 rw[Jm];exact if_neg (by rintro(h|h);exact h0 h;unfold Vs at h1;rw[h1]at h;cases h)
theorem Jyn(E:List Nat)(set i p:Nat): Vs E set (i+1) p=(Vs E set i p || ((E.getD i 0) &&& set == p)):=by
 unfold Vs;rw[List.range_succ,List.any_append];simp
abbrev N2(s:Nat)(vF vA vB:Value): Nat->Prop:=λk=>k<s∨vA.ownBlock=some k∨vB.ownBlock=some k∨vF.ownBlock=some k
abbrev N1(s:Nat)(vM vC:Value): Nat->Prop:=λk=>k<s∨vC.ownBlock=some k∨vM.ownBlock=some k
theorem zPb: Xz Tryz.prog 122=some (.agg #[.slice none 0 0,.slice none 0 0,.slice none 0 0]):=kr
theorem Jkv(k set:Nat): Jb (k+1) set=if set.testBit k then Jb k set++[k] else Jb k set:=by
 unfold Jb;rw[List.range_succ,List.filter_append];cases h:set.testBit k<;>simp[h]
theorem Jnt(h:v∈Jb k set): v<k:=List.mem_range.1 (List.mem_filter.1 h).1
theorem Jxh(k set:Nat): (Jb k set).length<=k:=by
 unfold Jb;exact nL (List.length_filter_le _ _) (by simp)
theorem Qcw{w:World}{A:Option Addr}(h:GrV w A c n es)(hs:set<2^n)(hm:es.length<=5):
  Ret Tryz.prog 52 [.agg (grC A c n es).toArray,.int .u32 (set:Int)] w λu w'=>∃ vC vA vB MA mc FA fc,u=.tuple #[.agg #[vC,vA,vB],.slice MA (Jb n set).length mc,.slice FA (Jm es set es.length).length fc] /\
   GX 3 RtC Nn w' vC (List.replicate (Jb n set).length (PR.int 1))/\GX 1 MxC Nn w' vA (Vk n es set)/\GX 3 RtC Nn w' vB (List.replicate (Vk n es set).length (PR.int 1))/\Rd w' 1 MA (Jb n set).length (Jt (nz (Jb n set)))/\Rd w' 1 FA (Jm es set es.length).length (Jt (nz (Jm es set es.length)))/\Ext w w':=by
 have hn:=h.n32;have bh:set<4294967296:=nM hs (Kx hn);refine Jz Tryz.func52 Tryz.ntmps52 rfl kr rfl ?_;refine ρ ?_;refine bx (cs:=grC A c n es) ?_;intro w1 b1 co gt ep;refine ρ ?_;refine alc zPb ?_;intro w2 b2 cn fh ej;refine ρ ?_;refine alc zPb ?_;intro w3 b3 cm fg av;have df:=co.trans (cn.trans cm);have b7:=(ep.ext cn).ext cm;have ei:=ej.ext cm;refine ρ ?_;refine ld (b7.at (i:=0) rfl) ?_;refine ρ ?_;refine Zy (fun (k:Nat) (vM vC:Value)=>[(1,.int .u32 (set:Int)),(2,.pointer (some ⟨b1,0,none⟩)),(4,.pointer (some ⟨b2,0,none⟩)),(7,.pointer (some ⟨b3,0,none⟩)),(8,vM),(9,.slice none 0 0),(19,.int .i64 (n:Int)),(20,.int .i64 (k:Int))])
  (λk vM vC w'=>k<=n/\GrN (λi=>i=b3) w3 w'/\Qz w' w3.heap.size vM (Jb k set)/\OX 84 3 RtC (N1 w3.heap.size vM vC) w' w3.heap.size vC (List.replicate (Jb k set).length (PR.int 1))/\Blk w' b3 122 [vC,.slice none 0 0,.slice none 0 0]) (λk _ _=>n-k) 0 (.slice none 0 0) (.slice none 0 0) sB ⟨Nat.zero_le _,GrN.refl _ _,by simp[Jb,Qz];exact Qo _ _ _ _,by simp[Jb];exact OX.nil _ _,av⟩ ?_
 rintro k vM vC w4 ⟨hk,a7,ap,ar,d8⟩;refine ρ ?_;refine ci (λhc=>?_) (λhc=>?_)
 .have c1:k<n:=by have:=oT hc;omega
  clear hc;refine ρ ?_;refine Jhj (s:=set) (v:=k) om ?_;refine ρ ?_;rw[Jxz bh];refine ci (λhc=>?_) (λhc=>?_)
  .have cu:set.testBit k=true:=hc;have hmk:Jb (k+1) set=Jb k set++[k]:=by rw[Jkv,if_pos cu]
   have f7:=Jxh k set;refine ρ ?_;refine bsl (Gh _) ?_;intro w5 b5 Z gs fn;refine ρ ?_;refine apI (z:=k) (Jv ap Z) fn om (nL a7.size Z.size) ?_;intro ck w6 ad a1 f6;rw[<-hmk]at ad;refine ρ ?_;have ah:¬ vC.ownBlock=some b3:=λe=>by
    obtain⟨_,_,_,_,h3⟩:=id ar.form;have:=(h3 b3 e).1;have:=av.lt;omega
   have ak:Ext w6 w6.drew:=(Ext.refl w6).drew;have ca:∀ k,vM.ownBlock=some k->w3.heap.size<=k:=λk e=>by
    obtain⟨_,_,_,_,h3⟩:=Jy ap;exact(h3 k e).1
   have dl:some b3≠vM.ownBlock:=λe=>by
    have:=ca b3 e.symm;have:=av.lt;omega
   have au:=((d8.ext Z).grown a1 dl).ext ak;have c4:=(((ar.ext RtC.sta Z).old RtC.sta (N':=λk=>N1 w3.heap.size vM vC k∨ck.ownBlock=some k) λk hk=>hk.elim .inl λhk=>(f6 k hk).imp (λhk=>.inr (.inr hk)) id).gr RtC.sta (GrN.by a1 λk e=>e) (M:=λk=>vM.ownBlock=some k) λk hk=>⟨.inl (.inr (.inr hk)),by
    obtain⟨_,_,ho⟩:=ar.own;exact Um ap ho rfl hk⟩)
   refine drN (λk=>vC.ownBlock=some k) 18 [(0,0),(0,1),(1,2),(1,3),(1,4),(0,5),(2,6)] kr ?_;refine ρn ?_;refine nld (λw' hg=>(Ju au hg ah).at (i:=0) rfl) ?_;refine ρn ?_;refine nop ?_;refine cl (Gu 1 (by decide) (by decide) _) ?_;rintro r w7 ⟨hr,bf⟩;obtain⟨D,e,F,f,rfl,hc⟩:=hr.cell;refine Qk (Ql (GrN.ext bf) ?_);refine ρn ?_;refine nop ?_;refine bsl (Jds _ _ _ _ _ _ _) ?_;intro w8 b8 G ff d6;refine Qk (Ql (GrN.ext G) ?_);have ay:=ak.trans (bf.trans G);have ea:=(c4.ext RtC.sta ay).old RtC.sta (N':=λk=>(N1 w3.heap.size vM vC k∨ck.ownBlock=some k)∨w8.heap.size<=k) λk hk=>hk;have gq:(List.replicate (Jb k set).length (PR.int 1)).length=(Jb k set).length:=by simp
   refine ρn ?_;refine nop ?_;refine apX ERt RtC.sta ea d6 rfl (Qv rfl rfl rfl) (RtC.sta.old (RtC.sta.gr hc (GrN.ext G)) λj hj=>?_) (λg hg=>.inl (.inl (.inr (.inl hg)))) om (by decide) (nL a7.size (nL Z.size (nL a1.size ay.size))) ?_
   .have z1:=a7.size;have z2:=Z.size;have z3:=a1.size;have z4:=ak.size;rcases hj with((hj|hj|hj)|hj)|hj
    .exact .inl (show j<w6.drew.heap.size by omega)
    .obtain⟨_,_,_,_,h3⟩:=id c4.form;have:=(h3 j hj).2;exact .inl (show j<w6.drew.heap.size by omega)
    .obtain⟨_,_,_,_,h3⟩:=Jy ap;have:=(h3 j hj).2;exact .inl (show j<w6.drew.heap.size by omega)
    .obtain⟨_,_,_,_,h3⟩:=Jy ad;have:=(h3 j hj).2;exact .inl (show j<w6.drew.heap.size by omega)
    exact .inr hj
   intro gb w9 bc a5 c0;obtain⟨_,g8,br⟩:=ea.own;have cz:=Zw (Jv ad ay) br a5 rfl;have bi:List.replicate (Jb k set).length (PR.int 1)++[PR.int 1]=List.replicate (Jb (k+1) set).length (PR.int 1):=by rw[hmk,List.length_append,List.length_singleton,List.replicate_succ']
   rw[bi]at bc;obtain⟨U,uc,eU,gg,_⟩:=id bc.form;subst eU;have cx:¬ (Value.slice U (List.replicate (Jb (k+1) set).length (PR.int 1)).length uc).ownBlock=some b3:=λe=>by
    obtain⟨_,_,_,_,h3⟩:=id bc.form;have:=(h3 b3 e).1;have:=av.lt;omega
   have cw:¬ ck.ownBlock=some b3:=λe=>by
    obtain⟨_,_,_,_,h3⟩:=Jy ad;have:=(h3 b3 e).1;have:=av.lt;omega
   refine Qk (Ql (GrN.by a5 λk e=>e) ?_);have d5:=(au.ext (bf.trans G)).grown a5 λe=>ah e.symm;refine ρn ?_;refine Xt ?_;refine stF (i:=0) d5 rfl ?_;intro cj b9 c7;have bn:GrN (λi=>i=b3) w9 cj:=GrN.by c7 λk hk=>by injection hk with hk;exact hk.symm
   have ee:=bc.gr RtC.sta bn λk hk=>⟨.inl (.inl (.inl (by rw[hk];exact av.lt))),by rw[hk];exact cx⟩;have e3:=Qj cz bn λg hg e=>cw (e ▸ hg);refine Qk (Up ?_);refine ρn ?_;refine ρ ?_;refine Xj (k+1) _ _ sO ⟨om,?_,e3,ee.old RtC.sta λi hi=>?_,b9⟩ om
   .exact((((a7.trans (GrN.ext Z)).by2 a1 λk e=>.inl (ca k e)).trans (GrN.ext ay)).by2 a5 λi e=>.inl (by
     obtain⟨_,_,_,_,h3⟩:=id ar.form;exact(h3 i e).1)).by2 c7 λi e=>.inr (by injection e with e;exact e.symm)
   rcases hi with hi|hi|hi
   .exact .inl (.inl (.inl (.inl hi)))
   .exact .inl ((c0 i hi).elim (λh=>.inl (.inl (.inr (.inl h)))) .inr)
   exact .inl (.inl (.inr hi))
  have cu:¬ set.testBit k=true:=by rw[hc];decide
  have hmk:Jb (k+1) set=Jb k set:=by rw[Jkv,if_neg cu]
  refine ρ ?_;exact Xj (k+1) _ _ sO ⟨om,a7,by rw[hmk];exact ap,by rw[hmk];exact ar,d8⟩ om
 have f8:k=n:=by have:=oF hc;omega
 subst f8;clear hk hc;have gp:=a7;refine ρ ?_;refine mkm 25 ?_;intro w5 bm Z cv cq;have gn:=ep.lt;have gm:=ej.lt;have gl:=av.lt;have ge:=a7.size;have en:=Ju b7 (a7.trans (GrN.ext Z)) om;have cp:w.heap.size<=b3:=nL (co.trans cn).size fg;have ax:Ext w w4:=a7.old df λk e=>by rw[e];exact cp
 have e0:Jm es set 0=[]:=rfl;refine ρ ?_;refine ld (en.at (i:=1) rfl) ?_;obtain⟨MA,mc,eM,gk,cy⟩:=Jy ap;have du:=Jv ap Z;subst eM;have f7:=Jxh k set;refine ρ ?_;refine Ku (fun (i:Nat) (vF vA vB:Value)=>[(1,.int .u32 (set:Int)),(2,.pointer (some ⟨b1,0,none⟩)),(4,.pointer (some ⟨b2,0,none⟩)),(7,.pointer (some ⟨b3,0,none⟩)),(8,.slice MA (Jb k set).length mc),(9,vF),(11,.map (some bm)),(41,.slice A es.length c),(42,.int .i64 (es.length:Int)),(43,.int .i64 (i:Int))])
  (λi vF vA vB w'=>i<=es.length/\GrN (λi=>i=b3∨i=bm) w5 w'/\Qz w' w5.heap.size vF (Jm es set i)/\OX 80 1 MxC (N2 w5.heap.size vF vA vB) w' w5.heap.size vA (pkA k es set i)/\OX 84 3 RtC (N2 w5.heap.size vF vA vB) w' w5.heap.size vB (List.replicate (Jm es set i).length (PR.int 1))/\Blk w' b3 122 [vC,vA,vB]/\(∃ m f,m<=i/\MapS Tryz.prog 25 w' bm m f/\∀ p:Nat,0<p->p<4294967296->(f (.int .u32 (p:Int))).getD (.bool false)=.bool (Vs es set i p)))
  (λi _ _ _=>es.length-i) 0 (.slice none 0 0) (.slice none 0 0) (.slice none 0 0) sB ⟨Nat.zero_le _,GrN.refl _ _,by rw[e0];exact Qo _ _ _ _,by rw[pkA,e0];exact OX.nil _ _,by rw[e0];exact OX.nil _ _,d8.ext Z,0,_,Nat.le_refl _,cq,λp _ _=>rfl⟩ ?_
 rintro i vF vA vB w6 ⟨hi,a1,aq,bd,ac,au,m,f,gj,ad,c2⟩;have gd:=Z.size;refine ρ ?_;refine ci (λhc=>?_) (λhc=>?_)
 .have c1:i<es.length:=by have:=oT hc;omega
  clear hc;have be:Ext w w6:=a1.old (ax.trans Z) λk e=>e.elim (λe=>by rw[e];exact cp) λe=>by rw[e];exact nL ax.size cv
  have hm:=getD_mem' 0 es c1;have h6:=h.ext be;refine ρ ?_;refine ix i h6.rd c1 ?_;refine ρ ?_;refine ld (h6.rd.cell (Jfj c1)) ?_;refine ρ ?_;have dj:=h6.lt32 hm;have bz:es.getD i 0 &&& set<4294967296:=nN Nat.and_le_right bh;have fa:=Jwn es set i;have fe:bits .and .u32 ((es.getD i 0:Nat):Int) ((set:Nat):Int)=((es.getD i 0 &&& set:Nat):Int):=u32_and_nat _ _ dj bh;rw[fe];have gh:Jm es set (i+1)=Jm es set i->∀ w',GrN (λi=>i=b3∨i=bm) w5 w'->True:=λ_ _ _=>trivial;by_cases hp0:es.getD i 0 &&& set=0
  .refine kt 53 ?_ ?_
   .rw[hp0];rfl
   refine ρ ?_;have hk:=Jxn (E:=es) (set:=set) (i:=i) (.inl hp0);refine Yb (i+1) _ _ _ sO ⟨om,a1,by rw[hk];exact aq,by rw[pkA,hk];exact bd,by rw[hk];exact ac,au,m,f,om,ad,λp h1 h2=>?_⟩ om;rw[c2 p h1 h2,Jyn,hp0,show(0 == p)=false from beq_eq_false_iff_ne.2 om,Bool.or_false]
  refine kf 53 ?_ ?_
  .exact beq_eq_false_iff_ne.2 om
  refine ρ ?_;refine mlk KU ad zBl (Maps.keyOf_int_mk Tryz.underlying25 (a:=((es.getD i 0 &&& set:Nat):Int)) (wfU bz)) ?_;rw[c2 (es.getD i 0 &&& set) om bz];refine ρ ?_;refine ci (λhc=>?_) (λhc=>?_)
  .refine ρ ?_;have hk:=Jxn (E:=es) (set:=set) (i:=i) (.inr hc);refine Yb (i+1) _ _ _ sO ⟨om,a1,by rw[hk];exact aq,by rw[pkA,hk];exact bd,by rw[hk];exact ac,au,m,f,om,ad,λp h1 h2=>?_⟩ om;rw[c2 p h1 h2,Jyn];by_cases e:es.getD i 0 &&& set=p
   .subst e;rw[hc];rfl
   rw[beq_eq_false_iff_ne.2 e,Bool.or_false]
  have hk:=Jwm hp0 hc;have b6:∀ k,vF.ownBlock=some k->w5.heap.size<=k:=λk e=>by
   obtain⟨_,_,_,_,h3⟩:=Jy aq;exact(h3 k e).1
  have aj:∀ k,vA.ownBlock=some k->w5.heap.size<=k/\k<w6.heap.size:=λk e=>by
   obtain⟨_,_,_,_,h3⟩:=id bd.form;exact h3 k e
  have aa:∀ k,vB.ownBlock=some k->w5.heap.size<=k/\k<w6.heap.size:=λk e=>by
   obtain⟨_,_,_,_,h3⟩:=id ac.form;exact h3 k e
  have dk:bm<w5.heap.size:=cq.lt;refine ρ ?_;refine mup KU ad (by unfold maxLen;omega) (Maps.keyOf_int_mk Tryz.underlying25 (a:=((es.getD i 0 &&& set:Nat):Int)) (wfU bz)) ?_;intro w7 d0 af;have a2:GrN (λi=>i=bm) w6 w7:=GrN.by af λk e=>by injection e with e;exact e.symm
  have bq:=Qj aq a2 λg hg e=>by have:=b6 g hg;omega
  have c5:=bd.gr MxC.sta a2 λk e=>⟨.inl om,λe'=>by have:=(aj k e').1;omega⟩;have c3:=ac.gr RtC.sta a2 λk e=>⟨.inl om,λe'=>by have:=(aa k e').1;omega⟩;have d7:=Ju au a2 om;refine ρ ?_;refine bsl (Gh _) ?_;intro w8 b8 G ff d6;refine ρ ?_;refine apI (z:=i) (Jv bq G) d6 om (nL a1.size (nL af.size G.size)) ?_;intro a3 w9 d1 a5 c0;rw[<-hk]at d1;have bj:GrN (λi=>i=b3∨i=bm) w5 w9:=((a1.by2 af λq e=>.inr (by injection e with e;exact .inr e.symm)).trans (GrN.ext G)).by2 a5 λq e=>.inl (b6 q e);have cz:=Qj du bj λg hg e=>by
   have:=cy g hg;omega
  have dq:=Rd.own cz;refine ρ ?_;refine Qw (fun (j:Nat) (vR:Value)=>[(1,.int .u32 (set:Int)),(2,.pointer (some ⟨b1,0,none⟩)),(4,.pointer (some ⟨b2,0,none⟩)),(7,.pointer (some ⟨b3,0,none⟩)),(8,.slice MA (Jb k set).length mc),(9,a3),(11,.map (some bm)),(14,.int .u32 ((es.getD i 0 &&& set:Nat):Int)),(15,vR),(41,.slice A es.length c),(42,.int .i64 (es.length:Int)),(43,.int .i64 (i:Int)),(64,.slice MA (Jb k set).length mc),(65,.int .i64 ((Jb k set).length:Int)),(66,.int .i64 (j:Int))])
   (λj vR w'=>j<=(Jb k set).length/\Ext w9 w'/\OX 84 3 RtC (λq=>q<w9.heap.size∨vR.ownBlock=some q) w' w9.heap.size vR (((Jb k set).take j).map λv=>PR.int (((es.getD i 0) &&& set).testBit v).toNat)) (λj _=>(Jb k set).length-j) 0 (.slice none 0 0) sB ⟨Nat.zero_le _,Ext.refl _,OX.nil _ _⟩ ?_
  rintro j vR cj ⟨hj,O,ai⟩;refine ρ ?_;refine ci (λhc=>?_) (λhc=>?_)
  .have am:j<(Jb k set).length:=by have:=oT hc;omega
   clear hc;refine ρ ?_;refine ix j (dq.ext O) am ?_;refine ρ ?_;refine ld ((dq.ext O).cell (Qg am)) ?_;refine ρ ?_;have gf:(Jb k set).getD j 0<k:=Jnt (getD_mem' 0 _ am);refine Jhj (s:=es.getD i 0 &&& set) (v:=(Jb k set).getD j 0) om ?_;refine ρ ?_;refine Go.Wk.kv 75 (u:=.int .i64 (((es.getD i 0 &&& set).testBit ((Jb k set).getD j 0)).toNat:Int)) (congrArg (Value.int .i64) ?_) ?_
   .rw[Qrz bz];exact Vw (by cases (es.getD i 0 &&& set).testBit ((Jb k set).getD j 0)<;>decide)
   refine cl (Gu ((((es.getD i 0 &&& set).testBit ((Jb k set).getD j 0)).toNat:Nat):Int) (by cases (es.getD i 0 &&& set).testBit ((Jb k set).getD j 0)<;>decide) (by cases (es.getD i 0 &&& set).testBit ((Jb k set).getD j 0)<;>decide) _) ?_;rintro r bb ⟨hr,J⟩;obtain⟨D,e,F,f',rfl,fb⟩:=hr.cell;refine ρ ?_;refine bsl (Jds _ _ _ _ _ _ _) ?_;intro ch gw b4 g6 bu;have dm:=((ai.ext RtC.sta J).ext RtC.sta b4).old RtC.sta (N':=λq=>(q<w9.heap.size∨vR.ownBlock=some q)∨ch.heap.size<=q) λq y=>y;have bo:∀ q,vR.ownBlock=some q->w9.heap.size<=q/\q<cj.heap.size:=λq e=>by
    obtain⟨_,_,_,_,h3⟩:=id ai.form;exact h3 q e
   refine ρ ?_;refine apX ERt RtC.sta dm bu rfl (Qv rfl rfl rfl) (RtC.sta.old (RtC.sta.gr fb (GrN.ext b4)) λq y=>?_) (λg hg=>.inl (.inr hg)) (by simp;omega) (by decide) (nL O.size (nL J.size b4.size)) ?_
   .rcases y with(y|y)|y
    .exact .inl (nM y O.size)
    .exact .inl (bo q y).2
    exact .inr y
   intro ga ba c8 a8 di;refine ρ ?_;refine Ja (j+1) _ sO ⟨om,Jh (O.trans (J.trans b4)) a8 λq e=>(bo q e).1,?_⟩ om;have e1:((Jb k set).take j).map (λv=>PR.int (((es.getD i 0) &&& set).testBit v).toNat)++[PR.int ((((es.getD i 0 &&& set).testBit ((Jb k set).getD j 0)).toNat:Nat):Int)]=((Jb k set).take (j+1)).map λv=>PR.int (((es.getD i 0) &&& set).testBit v).toNat:=by
    rw[List.take_add_one,List.getElem?_eq_getElem am,List.map_append];simp[List.getD,List.getElem?_eq_getElem am]
   rw[e1]at c8;exact c8.old RtC.sta λq y=>.inl (y.elim (λy=>.inl (.inl y)) λy=>(di q y).elim (λy=>.inl (.inr y)) .inr)
  have am:j=(Jb k set).length:=by have:=oF hc;omega
  subst am;rw[List.take_length]at ai;clear hc hj;have e9:∀ q,vB.ownBlock=some q->q<w9.heap.size:=λq e=>by have:=(aa q e).2;have:=af.size;have:=G.size;have:=a5.size;omega
  have er:∀ q,vA.ownBlock=some q->q<w9.heap.size:=λq e=>by have:=(aj q e).2;have:=af.size;have:=G.size;have:=a5.size;omega
  have bp:∀ q,a3.ownBlock=some q->w5.heap.size<=q/\q<w9.heap.size:=λq e=>by
   obtain⟨_,_,_,_,h3⟩:=Jy d1;exact h3 q e
  have g4:b3<w5.heap.size:=om
  have e4:∀ q,vF.ownBlock=some q->q<w9.heap.size:=λq e=>by
   obtain⟨_,_,_,_,h3⟩:=Jy aq;have:=(h3 q e).2;have:=af.size;have:=G.size;have:=a5.size;omega
  have fy:=bj.size;have g3:=O.size;have d5:=(d7.ext G).grown a5 λe=>by have:=b6 b3 e.symm;omega
  have b9:=d5.ext O;have ds:=(d0.ext G).kept a5 λe=>by have:=b6 bm e.symm;omega
  have fp:=(((c5.ext MxC.sta G).old MxC.sta (N':=λq=>N2 w5.heap.size vF vA vB q∨a3.ownBlock=some q) λq y=>y.elim .inl λy=>(c0 q y).imp (λy=>.inr (.inr (.inr y))) id).gr MxC.sta (GrN.by a5 λq e=>e) (M:=λq=>vF.ownBlock=some q) λq y=>⟨.inl (.inr (.inr (.inr y))),by
   obtain⟨_,_,ho⟩:=(c5.ext MxC.sta G).own;exact Um (Jv bq G) ho rfl y⟩)
  have bc:=(((c3.ext RtC.sta G).old RtC.sta (N':=λq=>N2 w5.heap.size vF vA vB q∨a3.ownBlock=some q) λq y=>y.elim .inl λy=>(c0 q y).imp (λy=>.inr (.inr (.inr y))) id).gr RtC.sta (GrN.by a5 λq e=>e) (M:=λq=>vF.ownBlock=some q) λq y=>⟨.inl (.inr (.inr (.inr y))),by
   obtain⟨_,_,ho⟩:=(c3.ext RtC.sta G).own;exact Um (Jv bq G) ho rfl y⟩)
  have dn:∀ q,(N2 w5.heap.size vF vA vB q∨a3.ownBlock=some q)->q<w9.heap.size:=λq y=>by
   rcases y with(y|y|y|y)|y
   .omega
   .exact er q y
   .exact e9 q y
   .exact e4 q y
   exact(bp q y).2
  obtain⟨RA,rc,eR,_,bo⟩:=id ai.form;subst eR;refine ρ ?_;refine ld (b9.at (i:=1) rfl) ?_;refine ρ ?_;refine bsl (Qjj _ _ _) ?_;intro bb gy J g7 eo;have g2:=J.size;have ce:=((fp.ext MxC.sta O).ext MxC.sta J).old MxC.sta (N':=λq=>(N2 w5.heap.size vF vA vB q∨a3.ownBlock=some q)∨bb.heap.size<=q) λq y=>y;have cc:=((bc.ext RtC.sta O).ext RtC.sta J).old RtC.sta (N':=λq=>(N2 w5.heap.size vF vA vB q∨a3.ownBlock=some q)∨bb.heap.size<=q) λq y=>y;generalize hrow:(Jb k set).map (λv=>PR.int (((es.getD i 0) &&& set).testBit v).toNat)=row at *
  have gi:row.length=(Jb k set).length:=by rw[<-hrow];simp
  have fj:GX 3 RtC (λq=>(N2 w5.heap.size vF vA vB q∨a3.ownBlock=some q)∨bb.heap.size<=q) bb (.slice RA row.length rc) row:=((ai.ext RtC.sta J).old RtC.sta (N':=λq=>(q<w9.heap.size∨(Value.slice RA row.length rc).ownBlock=some q)∨bb.heap.size<=q) λq y=>y).gx RtC.sta om λq y=>by
   rcases y with y|y
   .have:=dn q y;exact⟨.inl (.inl this),λe=>by have:=(bo q e).1;omega⟩
   exact⟨.inr y,λe=>by have:=(bo q e).2;omega⟩
  have dg:(pkA k es set i).length=(Jm es set i).length:=by simp[pkA]
  refine ρ ?_;refine apX EMx MxC.sta ce eo rfl (λu hu=>by rw[List.mem_singleton.1 hu];rfl) ⟨_,rfl,fj⟩ (λg hg=>.inl (.inl (.inr (.inl hg)))) om (by decide) om ?_;intro ae ch bv a9 c6;have f5:pkA k es set i++[row]=pkA k es set (i+1):=by rw[pkA,pkA,hk,List.map_append,<-hrow];rfl
  rw[f5]at bv;obtain⟨A',fx,fw,_,aw⟩:=id bv.form;subst fw;have g1:=a9.size;obtain⟨_,_,bw⟩:=ce.own;obtain⟨_,_,d3⟩:=cc.own;have e8:=Zw (Jv d1 (O.trans J)) bw a9 rfl;have ed:=cc.gr RtC.sta (GrN.by a9 λq e=>e) (M:=λq=>vA.ownBlock=some q) λq y=>⟨.inl (.inl (.inr (.inl y))),Um bw d3 rfl y⟩;have bu:=(b9.ext J).grown a9 λe=>by have:=(aj b3 e.symm).1;omega
  have e2:=((ds.ext O).ext J).kept a9 λe=>by have:=(aj bm e.symm).1;omega
  refine ρ ?_;refine stF (i:=1) bu rfl ?_;intro ba b7 a8;have ao:GrN (λq=>q=b3) ch ba:=GrN.by a8 λq e=>by injection e with e;exact e.symm
  have g0:=a8.size;generalize hvA:Value.slice A' (pkA k es set (i+1)).length fx=ae at *
  have ew:=(bv.old MxC.sta (N':=λq=>(N2 w5.heap.size vF vA vB q∨a3.ownBlock=some q)∨ae.ownBlock=some q) λq y=>.inl (y.elim .inl λy=>(c6 q y).imp (λy=>.inl (.inr (.inl y))) id)).gr MxC.sta ao λq y=>⟨.inl (.inl (.inl om)),λe=>by have:=(aw q e).1;omega⟩;have ec:=(ed.old RtC.sta (N':=λq=>(N2 w5.heap.size vF vA vB q∨a3.ownBlock=some q)∨ae.ownBlock=some q) λq y=>.inl (y.elim .inl λy=>(c6 q y).imp (λy=>.inl (.inr (.inl y))) id)).gr RtC.sta ao λq y=>⟨.inl (.inl (.inl om)),λe=>by have:=(aa q e).1;omega⟩;have e7:=Qj e8 ao λg hg e=>by have:=(bp g hg).1;omega
  have dz:=e2.kept a8 λe=>by injection e with e;omega
  have fi:∀ q,((N2 w5.heap.size vF vA vB q∨a3.ownBlock=some q)∨ae.ownBlock=some q)->q<ba.heap.size:=λq y=>by
   rcases y with y|y
   .have:=dn q y;omega
   have:=(aw q y).2;omega
  have ak:Ext ba ba.drew:=(Ext.refl ba).drew;have f3:=ak.size;have ef:=b7.ext ak;have ah:¬ vB.ownBlock=some b3:=λe=>by have:=(aa b3 e).1;omega
  refine ρ ?_;refine drN (λq=>vB.ownBlock=some q) 18 [(0,0),(0,1),(1,2),(1,3),(1,4),(0,5),(2,6)] kr ?_;refine ρn ?_;refine nld (λw' hg=>(Ju ef hg ah).at (i:=2) rfl) ?_;refine ρn ?_;refine nop ?_;refine cl (Gu 1 (by decide) (by decide) _) ?_;rintro r g9 ⟨hr,bg⟩;obtain⟨D,e,F,f',rfl,fd⟩:=hr.cell;refine Qk (Ql (GrN.ext bg) ?_);refine ρn ?_;refine nop ?_;refine bsl (Jds _ _ _ _ _ _ _) ?_;intro cg gu az g5 d9;have a4:=ak.trans (bg.trans az);have f4:=a4.size;have cb:=(ec.ext RtC.sta a4).old RtC.sta (N':=λq=>((N2 w5.heap.size vF vA vB q∨a3.ownBlock=some q)∨ae.ownBlock=some q)∨cg.heap.size<=q) λq y=>y;have cd:=(ew.ext MxC.sta a4).old MxC.sta (N':=λq=>((N2 w5.heap.size vF vA vB q∨a3.ownBlock=some q)∨ae.ownBlock=some q)∨cg.heap.size<=q) λq y=>y;refine Qk (Ql (GrN.ext az) ?_);refine ρn ?_;refine nop ?_;refine apX ERt RtC.sta cb d9 rfl (Qv rfl rfl rfl) (RtC.sta.old (RtC.sta.gr fd (GrN.ext az)) λq y=>y.elim (λy=>.inl (nM (fi q y) f3)) .inr) (λg hg=>.inl (.inl (.inl (.inr (.inr (.inl hg)))))) (by simp;omega) (by decide) om ?_
  intro de f2 bs a6 dh;have bi:List.replicate (Jm es set i).length (PR.int 1)++[PR.int 1]=List.replicate (Jm es set (i+1)).length (PR.int 1):=by rw[hk,List.length_append,List.length_singleton,List.replicate_succ']
  rw[bi]at bs;obtain⟨_,_,bt⟩:=cb.own;obtain⟨_,_,da⟩:=cd.own;have e6:=Zw (Jv e7 a4) bt a6 rfl;have eu:=cd.gr MxC.sta (GrN.by a6 λq e=>e) (M:=λq=>vB.ownBlock=some q) λq y=>⟨.inl (.inl (.inl (.inr (.inr (.inl y))))),Um bt da rfl y⟩;have em:=(ef.ext (bg.trans az)).grown a6 λe=>ah e.symm;have dx:=(dz.ext a4).kept a6 λe=>by have:=(aa bm e.symm).1;omega
  obtain⟨U,uc,eU,_,d2⟩:=id bs.form;subst eU;have fz:=a6.size;refine Qk (Ql (GrN.by a6 λq e=>e) ?_);refine ρn ?_;refine Xt ?_;refine stF (i:=2) em rfl ?_;intro dd ek bl;have an:GrN (λq=>q=b3) f2 dd:=GrN.by bl λq e=>by injection e with e;exact e.symm
  generalize hvB:Value.slice U (List.replicate (Jm es set (i+1)).length (PR.int 1)).length uc=de at *
  have c9:∀ q,N2 w5.heap.size a3 ae de q->(((N2 w5.heap.size vF vA vB q∨a3.ownBlock=some q)∨ae.ownBlock=some q)∨cg.heap.size<=q):=λq y=>by
   rcases y with y|y|y|y
   .exact .inl (.inl (.inl (.inl y)))
   .exact .inl (.inr y)
   .exact(dh q y).imp (λy=>.inl (.inl (.inr (.inr (.inl y))))) id
   exact .inl (.inl (.inr y))
  have et:=(eu.gr MxC.sta an λq y=>⟨.inl (.inl (.inl (.inl om))),λe=>by have:=(aw q e).1;omega⟩).old MxC.sta λq y=>.inl (c9 q y);have eb:=(bs.gr RtC.sta an λq y=>⟨.inl (.inl (.inl (.inl om))),λe=>by have:=(d2 q e).1;omega⟩).old RtC.sta λq y=>.inl (c9 q y);have e5:=Qj e6 an λg hg e=>by have:=(bp g hg).1;omega
  have dw:=dx.kept bl λe=>by injection e with e;omega
  have cr:GrN (λi=>i=b3∨i=bm) w5 dd:=((((bj.trans (GrN.ext (O.trans J))).by2 a9 λq e=>.inl (aj q e).1).by2 a8 λq e=>.inr (by injection e with e;exact .inl e.symm)).trans (GrN.ext a4)).by2 a6 (λq e=>.inl (aa q e).1) |>.by2 bl λq e=>.inr (by injection e with e;exact .inl e.symm);refine Qk (Up ?_);refine ρn ?_;refine ρ ?_;refine Yb (i+1) _ _ _ sO ⟨om,cr,e5,et,eb,ek,m+1,_,om,dw,λp h1 h2=>?_⟩ om;rw[Jyn];by_cases e:es.getD i 0 &&& set=p
  .subst e;rw[Jqg (by trivial)];simp
  rw[Jqf (λe'=>e (by injection e' with _ e';omega)),c2 p h1 h2,beq_eq_false_iff_ne.2 e,Bool.or_false]
 have f9:i=es.length:=by have:=oF hc;omega
 subst f9;obtain⟨ey,ex,fr,_,br⟩:=id ar.form;obtain⟨f0,ez,fu,_,fo⟩:=id bd.form;obtain⟨dc,db,ft,_,fl⟩:=id ac.form;obtain⟨h4,gz,fq,_,fk⟩:=Jy aq;have dk:bm<w5.heap.size:=cq.lt;have c4:=((ar.old RtC.sta (N':=λq=>N1 w3.heap.size (.slice MA (Jb k set).length mc) vC q∨q=bm) λq y=>y.imp id λy=>by rw[y];exact cv).ext RtC.sta Z).gr RtC.sta a1 λq y=>y.elim (λy=>⟨.inl (.inl om),λe=>by have:=(br q e).1;omega⟩) λy=>⟨.inr y,λe=>by have:=(br q e).2;omega⟩;have dt:=Qj du a1 λg hg e=>by
  have:=cy g hg;omega
 have eh:=Ju (Ju (ei.ext (Ext.refl _)) (a7.trans (GrN.ext Z)) om) a1 om;subst fr;subst fu;subst ft;subst fq;refine ρ ?_;refine lds (cs:=[.slice ey _ ex,.slice f0 _ ez,.slice dc _ db]) (λj u hu=>au.at hu) ?_;refine ρ ?_;refine stb (cs':=[.slice ey _ ex,.slice f0 _ ez,.slice dc _ db]) eh ?_ (λu hu=>by
  simp only[List.mem_cons,List.not_mem_nil,or_false]at hu;rcases hu with rfl|rfl|rfl<;>rfl)
 intro w7 d7 af bf;have a2:GrN (λq=>q=b2) w6 w7:=GrN.by af λq e=>by injection e with e;exact e.symm
 have gc:=a1.size;have c3:=(c4.gr RtC.sta a2 λq y=>⟨.inl (.inl om),λe=>by have:=(br q e).1;omega⟩).gx (N':=Nn) RtC.sta (by simp;omega) λq y=>y.elim;have dg:(pkA k es set es.length).length=(Jm es set es.length).length:=by simp[pkA]
 have fa:=Jwn es set es.length;have c5:=(bd.gr MxC.sta a2 λq y=>⟨.inl om,λe=>by have:=(fo q e).1;omega⟩).gx (N':=Nn) MxC.sta om λq y=>y.elim;have eg:=(ac.gr RtC.sta a2 λq y=>⟨.inl om,λe=>by have:=(fl q e).1;omega⟩).gx (N':=Nn) RtC.sta (by simp;omega) λq y=>y.elim;have d0:=Rd.own (Qj dt a2 λg hg e=>by have:=cy g hg;omega);have bq:=Rd.own (Qj aq a2 λg hg e=>by have:=fk g hg;omega);have be:Ext w w6:=a1.old (ax.trans Z) λq e=>e.elim (λe=>by rw[e];exact cp) λe=>by rw[e];exact nL ax.size cv
 have fm:GX 3 RtC Nn w7 (.slice dc (List.replicate (Jm es set es.length).length (PR.int 1)).length db) (List.replicate (Vk k es set).length (PR.int 1)):=by
  rw[show(Vk k es set).length=(Jm es set es.length).length from dg];exact eg
 refine ρ ?_;exact Jsg d7 ⟨_,_,_,_,_,_,_,rfl,c3,c5,fm,d0,bq,bf w be (nL co.size fh)⟩
open Go.RowKit Pl Go.Wk Bl
variable {E es is:List Nat}{l l1 l2 xs:List PR}{b i j n s set:Nat}
theorem Jkj(n:Nat)(E:List Nat)(set:Nat): (Vk n E set).length=(Jm E set E.length).length:=by simp[Vk]
theorem Jmt(hi:i<(Jm E set E.length).length): (Vk n E set).getD i []=(Jb n set).map λv=>PR.int (((E.getD (Jm E set E.length)[i] 0) &&& set).testBit v).toNat:=by
 unfold Vk;simp[List.getD,List.getElem?_map,List.getElem?_eq_getElem hi]
theorem Jmw(hi:i<(Jm E set E.length).length)(hj:j<(Jb n set).length): ((Vk n E set).getD i []).getD j pr0=PR.int (((E.getD (Jm E set E.length)[i] 0) &&& set).testBit (Jb n set)[j]).toNat:=by
 rw[Jmt hi];simp[List.getD,List.getElem?_map,List.getElem?_eq_getElem hj]
theorem Jmv(n:Nat)(E:List Nat)(set:Nat): Bin (Jb n set).length (Vk n E set):=λi hi=>by
 rw[Jkj]at hi;refine⟨by rw[Jmt hi];simp,λj u=>?_⟩;rw[Jmw hi u];cases ((E.getD (Jm E set E.length)[i] 0) &&& set).testBit (Jb n set)[j]
 .exact .inl rfl
 exact .inr rfl
theorem Jcr(E:List Nat)(set:Nat): ∀ {i k:Nat},k<i->(E.getD k 0) &&& set≠0->∃ x∈Jm E set i,(E.getD x 0) &&& set=(E.getD k 0) &&& set
 | i+1,k,hk,h0=>by
  by_cases e:k=i
  .subst e;cases hs:Vs E set k ((E.getD k 0) &&& set) with
   | true=>
    obtain⟨x,hx,e⟩:=List.any_eq_true.1 hs;have e:=eq_of_beq e;obtain⟨y,hy,e2⟩:=Jcr E set (List.mem_range.1 hx) (by rw[e];exact h0);exact⟨y,by rw[Jxn (.inr hs)];exact hy,e2.trans e⟩
   | false=>exact⟨k,by rw[Jwm h0 hs];simp,rfl⟩
  obtain⟨x,hx,e2⟩:=Jcr E set (show k<i by omega) h0;refine⟨x,?_,e2⟩;by_cases h1:(E.getD i 0) &&& set=0∨Vs E set i ((E.getD i 0) &&& set)=true
  .rw[Jxn h1];exact hx
  rw[Jwm (λe=>h1 (.inl e)) (by cases hs:Vs E set i ((E.getD i 0) &&& set);rfl;exact absurd (.inr hs) h1)];simp[hx]
theorem Jcq{E:List Nat}{set:Nat}: ∀ {i x:Nat},x∈Jm E set i->x<i
 | i+1,x,h=>by
  by_cases h1:(E.getD i 0) &&& set=0∨Vs E set i ((E.getD i 0) &&& set)=true
  .rw[Jxn h1]at h;have:=Jcq h;omega
  rw[Jwm (λe=>h1 (.inl e)) (by cases hs:Vs E set i ((E.getD i 0) &&& set);rfl;exact absurd (.inr hs) h1)]at h;rcases List.mem_append.1 h with h|h
  .have:=Jcq h;omega
  rw[List.mem_singleton.1 h];omega
theorem noC: ∀ u∈[Value.slice none 0 0,.slice none 0 0,.bool false,.slice none 0 0,.slice none 0 0],∀ z,u≠.int .u32 z:=λu i z e=>by
 simp only[List.mem_cons,List.not_mem_nil,or_false]at i;rcases i with rfl|rfl|rfl|rfl|rfl<;>cases e
def Covd(n:Nat)(E:List Nat)(set:Nat): Prop:=∀ v,v<n->set.testBit v=true->∃ k,k<E.length/\(E.getD k 0).testBit v=true
theorem Jbl(h:Covd n E set): ∀ j,j<(Jb n set).length->∃ i,i<(Vk n E set).length/\Xe (Vk n E set) i j=1:=λj U=>by
 have J:(Jb n set)[j]∈Jb n set:=List.getElem_mem _;obtain⟨G,D⟩:=List.mem_filter.1 J;obtain⟨k,O,y⟩:=h _ (List.mem_range.1 G) D;have u:((E.getD k 0) &&& set).testBit (Jb n set)[j]=true:=by rw[Nat.testBit_and,y,D];rfl
 obtain⟨x,F,e⟩:=Jcr E set O (λe=>by rw[e]at u;simp at u);obtain⟨i,hi,Z⟩:=List.getElem_of_mem F;refine⟨i,by rw[Jkj];exact hi,?_⟩;unfold Xe;rw[Jmw hi U,Z,e,u];decide +kernel
def Vc(l:List PR)(is:List Nat)(xs:List PR)(i:Nat): List PR:=Yt l (is.take i) (xs.take i)
theorem Jmg(l:List PR)(is:List Nat)(xs:List PR): Vc l is xs 0=l:=by simp[Vc,Yt]
theorem Jkf(h:is.length=xs.length): Vc l is xs is.length=Yt l is xs:=by
 rw[Vc,List.take_length,h,List.take_length]
theorem Jmf(hi:i<is.length)(hx:i<xs.length): Vc l is xs (i+1)=(Vc l is xs i).set is[i] xs[i]:=by
 unfold Vc Yt;rw[List.take_add_one,List.take_add_one,List.getElem?_eq_getElem hi,List.getElem?_eq_getElem hx,List.zip_append (by simp;omega),List.foldl_append];rfl
theorem Jkd(l:List PR)(is:List Nat)(xs:List PR)(i:Nat): (Vc l is xs i).length=l.length:=by
 unfold Vc Yt;generalize (is.take i).zip (xs.take i)=z
 induction z generalizing l with
 | nil=>rfl
 | cons p z ih=>rw[List.foldl_cons,ih,List.length_set]
abbrev NZ(s b:Nat)(v1 v2:Value): Nat->Prop:=λk=>k<s∨k=b∨v1.ownBlock=some k∨v2.ownBlock=some k
structure TwoZ(s b:Nat)(w:World)(v1 v2:Value)(l1 l2:List PR): Prop where
 o1:∃ base,OX 84 3 RtC (NZ s b v1 v2) w base v1 l1
 o2:∃ base,OX 84 3 RtC (NZ s b v1 v2) w base v2 l2
 ne:∀ k,v1.ownBlock=some k->v2.ownBlock≠some k
 f1:∀ k,v1.ownBlock=some k->s<=k
 f2:∀ k,v2.ownBlock=some k->s<=k
theorem TwoZ.ext{s b:Nat}{w w':World}{v1 v2:Value}{l1 l2:List PR}(h:TwoZ s b w v1 v2 l1 l2)(hx:Ext w w'): TwoZ s b w' v1 v2 l1 l2:=by
 obtain⟨⟨_,D⟩,⟨_,y⟩,u,j,i⟩:=h;exact⟨⟨_,D.ext RtC.sta hx⟩,⟨_,y.ext RtC.sta hx⟩,u,j,i⟩
theorem twoZ{wa w1 wb w2:World}{v1 v2:Value}(hs:s<=wa.heap.size)(h1:OX 84 3 RtC (Ov wa v1) w1 wa.heap.size v1 l1)(hx0:Ext wa w1)(hx1:Ext w1 wb)(h2:OX 84 3 RtC (Ov wb v2) w2 wb.heap.size v2 l2)(hx2:Ext wb w2)(hb:b<wa.heap.size∨(w1.heap.size<=b/\b<wb.heap.size)∨w2.heap.size<=b): TwoZ s b w2 v1 v2 l1 l2:=by
 obtain⟨_,_,_,_,f1⟩:=id h1.form;obtain⟨_,_,_,_,j⟩:=id h2.form;have z0:=hx0.size;have D:=hx1.size;have y:=hx2.size;refine⟨⟨_,(h1.old RtC.sta (N':=NZ s b v1 v2) λk i=>?_).ext RtC.sta (hx1.trans hx2)⟩,⟨_,h2.old RtC.sta λk i=>?_⟩,λk e u=>?_,λk e=>nL hs (f1 k e).1,λk e=>?_⟩
 .rcases i with i|i|i|i
  .exact .inl (.inl om)
  .rcases hb with hb|hb|hb
   .exact .inl (.inl om)
   .exact .inr om
   exact .inr om
  .exact .inl (.inr i)
  exact .inr (by have:=(j k i).1;omega)
 .rcases i with i|i|i|i
  .exact .inl (.inl om)
  .rcases hb with hb|hb|hb
   .exact .inl (.inl om)
   .exact .inl (.inl om)
   exact .inr om
  .exact .inl (.inl (by have:=(f1 k i).2;omega))
  exact .inl (.inr i)
 .have:=(f1 k e).2;have:=(j k u).1;omega
 have:=(j k e).1;omega
theorem Kt: Xz Tryz.prog 86=some (.agg #[.slice none 0 0,.slice none 0 0,.bool false,.slice none 0 0,.slice none 0 0]):=kr
theorem Jwz(A B C D:Option Addr)(m c m' c' k d k' d':Nat)(b:Bool)(w:World): (Instr.build 86 #[(0,.slice A m c),(1,.slice B m' c'),(2,.agg #[.bool b,.slice C k d,.slice D k' d'])]).run Tryz.prog w=.ok (.agg #[.slice A m c,.slice B m' c',.bool b,.slice C k d,.slice D k' d']) w:=kr
theorem Jnb{E:List Nat}: ∀ {i v:Nat},i<=E.length->(((List.range i).foldl (λa k=>a ||| E.getD k 0) 0).testBit v=true↔∃ k,k<i/\(E.getD k 0).testBit v=true)
 | 0,v,_=>by simp
 | i+1,v,h=>by
  rw[List.range_succ,List.foldl_append,List.foldl_cons,List.foldl_nil,Nat.testBit_or,Bool.or_eq_true,Jnb om];constructor
  .rintro(⟨k,hk,e⟩|e)
   .exact⟨k,om,e⟩
   exact⟨i,om,e⟩
  rintro⟨k,hk,e⟩;by_cases h1:k=i
  .subst h1;exact .inr e
  exact .inl ⟨k,om,e⟩
def orK(E:List Nat)(i:Nat): Nat:=(List.range i).foldl (λa k=>a ||| E.getD k 0) 0
theorem Jnc(E:List Nat)(i:Nat): orK E (i+1)=orK E i ||| E.getD i 0:=by unfold orK;rw[List.range_succ,List.foldl_append];rfl
theorem Qnh{w:World}{A:Option Addr}{c fuel:Nat}{pc:PC}(h:GrV w A c n es)(hs:set<2^n)(h0:set≠0)(hm:es.length<=5)(hcv:Covd n es set)(hf:((Jb n set).length+(Jm es set es.length).length)^(Jm es set es.length).length<=fuel)(hpc:cvr fuel n es set=some pc):
  Ret Tryz.prog 27 [.agg (grC A c n es).toArray,.int .u32 (set:Int)] w λu w'=>∃ W P q1 q2,u=.tuple #[.agg #[W,P,.bool pc.val.neg,q1,q2],.int .i64 0]/\GX 3 RtC Nn w' W pc.ws/\GX 3 RtC Nn w' P pc.ps/\NatX Nn w' q1 pc.val.num/\NatX Nn w' q2 pc.val.den/\Ext w w':=by
 have hn:=h.n32;have f4:=Kx hn;have au:set<4294967296:=om
 obtain⟨t',c3,e9⟩:=Option.map_eq_some_iff.1 hpc;rw[<-Jkj n]at c3 hf;have f7:=Jxh n set;have f5:=Jkj n es set;have fa:=Jwn es set es.length;have ex:0<(Vk n es set).length:=by
  obtain⟨v,hv⟩:=Nat.exists_testBit_of_ne_zero h0;have ar:v<n:=Nat.lt_of_not_le λc4=>by
   rw[Nat.testBit_lt_two_pow (nM hs (Nat.pow_le_pow_right (n:=2) (by decide) c4))]at hv;cases hv
  have e6:v∈Jb n set:=List.mem_filter.2 ⟨List.mem_range.2 ar,hv⟩;obtain⟨j,hj,_⟩:=List.getElem_of_mem e6;obtain⟨i,hi,_⟩:=Jbl hcv j hj;omega
 obtain⟨cz,cx⟩:t'.point.length=(Jb n set).length/\t'.dual.length=(Jm es set es.length).length:=by
  obtain⟨_,t2,S,cw,hS,_⟩:=Jmx (Jmv n es set) (Jbl hcv) hf;rw[c3]at cw;cases cw
  have h1:=hS.en;have h2:=hS.em;have h3:=hS.agr.ok.goal.1;refine⟨by simp[PT.point,h1],?_⟩;simp only[PT.dual,List.length_take,List.length_drop,h3];simp only[PT.right];omega
 refine Jz Tryz.func27 Tryz.ntmps27 rfl kr rfl ?_;refine ρ ?_;refine bx (cs:=grC A c n es) ?_;intro w1 b1 c0 fb ew;refine ρ ?_;refine alc Kt ?_;intro w2 b2 bz ec dd;have a4:=ew.ext bz;refine ρ ?_;refine lds (cs:=grC A c n es) (λj u F=>a4.at F) ?_;refine ρ ?_;refine cl (Qlh ((h.ext c0).ext bz)) ?_;rintro u w3 ⟨rfl,bb⟩;have an:=a4.ext bb;refine ρ ?_;refine lds (cs:=grC A c n es) (λj u F=>an.at F) ?_;refine ρ ?_;refine cl (Qxz (w:=w3) hn) ?_;rintro u w4 ⟨rfl,ba⟩;have b8:=an.ext ba;have f6:0<2^n:=Nat.two_pow_pos n;refine ρ ?_;refine cf ?_ ?_
 .rw[Jfb au om,Qqf hs hn];rfl
 refine ρ ?_;refine ld (b8.at (i:=1) rfl) ?_;have bg:=c0.trans (bz.trans (bb.trans ba));have h4:=h.ext bg;refine ρ ?_;refine Jl (fun (i:Nat)=>[(1,.int .u32 (set:Int)),(2,.pointer (some ⟨b1,0,none⟩)),(4,.pointer (some ⟨b2,0,none⟩)),(7,.int .u32 ((orK es i:Nat):Int)),(33,.slice A es.length c),(34,.int .i64 (es.length:Int)),(35,.int .i64 (i:Int))]) (λi w'=>i<=es.length/\w'=w4/\orK es i<4294967296) (λi=>es.length-i) 0 sB ⟨Nat.zero_le _,rfl,show 0<4294967296 by decide⟩ ?_;rintro i w5 ⟨hi,rfl,ho⟩;refine ρ ?_;refine ci (λhc=>?_) (λhc=>?_)
 .have a1:i<es.length:=by have:=oT hc;omega
  clear hc;refine ρ ?_;refine ix i h4.rd a1 ?_;refine ρ ?_;refine ld (h4.rd.cell (Jfj a1)) ?_;have bm:=h4.lt32 (getD_mem' 0 es a1);refine ρ ?_;rw[Qrw ho bm,<-Jnc];exact Jf (i+1) sO ⟨om,rfl,by rw[Jnc];exact Qdd ho bm⟩ om
 have ax:i=es.length:=by have:=oF hc;omega
 subst ax;clear hc hi;have d2:Jzd set (orK es es.length)=0:=by
  apply Nat.eq_of_testBit_eq
  intro v;rw[Qqg au ho,Nat.zero_testBit];cases hb:set.testBit v with
  | false=>rfl
  | true=>
   have hv:v<n:=Nat.lt_of_not_le λc4=>by
    rw[Nat.testBit_lt_two_pow (nM hs (Nat.pow_le_pow_right (n:=2) (by decide) c4))]at hb;cases hb
   have:=(Jnb (E:=es) (v:=v) (nR _)).2 (hcv v hv hb);unfold orK;rw[this];rfl
 refine ρ ?_;refine cf ?_ ?_
 .rw[Jfb au ho,d2];rfl
 refine ρ ?_;refine lds (cs:=grC A c n es) (λj u F=>b8.at F) ?_;refine ρ ?_;refine cl (Qcw h4 hs hm) ?_;rintro _ w6 ⟨vC,vA,vB,MA,mc,FA,fc,rfl,dc,di,bv,ep,er,cn⟩;obtain⟨dm,dl,_,rfl,_,_,_,_,_⟩:=id dc.el;obtain⟨dt,ds,_,rfl,_,_,_,_,_⟩:=id di.el;obtain⟨dq,dn,_,rfl,_,_,_,_,_⟩:=id bv.el;refine ρ ?_;refine alc zPb ?_;intro w7 b7 e4 eb eu;refine ρ ?_;refine stb (cs':=[.slice dm _ dl,.slice dt _ ds,.slice dq _ dn]) eu ?_ (λu F=>by
  simp only[List.mem_cons,List.not_mem_nil,or_false]at F;rcases F with rfl|rfl|rfl<;>rfl)
 intro w8 et f9 e3;have ac:Ext w6 w8:=e3 w6 e4 eb;have ey:=cn.trans ac;refine ρ ?_;refine lds (cs:=[.slice dm _ dl,.slice dt _ ds,.slice dq _ dn]) (λj u F=>et.at F) ?_;refine cl (Qwk (dc.ext RtC.sta (by decide) ac) (di.ext MxC.sta (by decide) ac) (bv.ext RtC.sta (by decide) ac) (λk J=>J.elim) (Jmv n es set) (Jbl hcv) om om ex hf c3) ?_;rintro _ w9 ⟨X,Y,q1,q2,rfl,d5,d3,cu,cr,e2⟩;generalize hq:t'.goal.getD t'.right pr0=q at *
 obtain⟨X1,X2,_,rfl,_,_,_,_,_⟩:=id d5.el;obtain⟨Y1,Y2,_,rfl,_,_,_,_,_⟩:=id d3.el;obtain⟨Q1,c1,rfl⟩:=cu.1.sl;obtain⟨Q2,c2,rfl⟩:=cr.1.sl;refine ρ ?_;refine alc zSol ?_;intro f0 cj cq d1 dh;refine ρ ?_;refine stb (cs':=[.int .i64 0,.slice X1 _ X2,.slice Y1 _ Y2,.slice none 0 0,.bool q.neg,.slice Q1 _ c1,.slice Q2 _ c2]) dh ?_ (λu F=>by
  simp only[List.mem_cons,List.not_mem_nil,or_false]at F;rcases F with rfl|rfl|rfl|rfl|rfl|rfl|rfl<;>rfl)
 intro a5 dg ez cp;have aq:Ext w9 a5:=cp w9 cq d1;have ap:Ext a5 a5.drew:=(Ext.refl a5).drew;have af:=ac.trans (e2.trans aq);have aj:=cn.trans (af.trans ap);have bw:=b8.ext aj;have ad:=dg.ext ap;refine ρ ?_;refine drH (λi=>i == 11) ?_;refine Uj (fuel':=5) 18 [(0,0),(0,1),(0,2),(0,4),(0,5),(0,7),(0,8)] #[true,true,true,false,true,true,false,true,true,false,false,false] kr kr rfl ?_;refine ρd ?_;refine dld (bw.at (i:=1) rfl) ?_;refine ρd ?_;refine dld (bw.at (i:=0) rfl) ?_;refine ρd ?_;refine Qq (cs:=[.bool q.neg,.slice Q1 (Jj q.num).length c1,.slice Q2 (Jj q.den).length c2]) (λj u F=>match j,F with
  | 0,F=>by injection F with F;subst F;exact ad.at (i:=4) rfl
  | 1,F=>by injection F with F;subst F;exact ad.at (i:=5) rfl
  | 2,F=>by injection F with F;subst F;exact ad.at (i:=6) rfl
  | j+3,F=>by cases F) ?_
 refine ρd ?_;refine Uq ?_;refine hcut 1 (lst 12 11) (fun (y:(Option Addr×Nat)×(Option Addr×Nat)×Nat)=>[(73,.agg #[.slice y.1.1 es.length y.1.2,.slice y.2.1.1 n y.2.1.2,.bool q.neg,.slice Q1 (Jj q.num).length c1,.slice Q2 (Jj q.den).length c2]),(15,.pointer (some ⟨y.2.2,0,none⟩)),(2,.pointer (some ⟨b1,0,none⟩)),(4,.pointer (some ⟨b2,0,none⟩)),(11,.slice MA (Jb n set).length mc),(12,.slice FA (Jm es set es.length).length fc),(13,.pointer (some ⟨cj,0,none⟩))])
  (λy W=>Ext a5.drew W/\TwoZ a5.drew.heap.size y.2.2 W (.slice y.1.1 es.length y.1.2) (.slice y.2.1.1 n y.2.1.2) (List.replicate es.length pr0) (List.replicate n pr0)/\Blk W y.2.2 86 [.slice none 0 0,.slice none 0 0,.bool false,.slice none 0 0,.slice none 0 0]/\a5.drew.heap.size<=y.2.2) ?_ ?_
 rotate_left
 .intro rest;have zl (m:Nat) (W:World) (hm:m<=64):=Qnf m (show m<=1000 by omega) W;refine Jxl 3 10 kr rfl rfl rfl ?_ ?_
  .refine cl (zl es.length _ om) ?_;rintro W v1 ⟨hW,a2⟩;obtain⟨W1,W2,_,eW,_,_⟩:=id hW.el;rw[List.length_replicate]at eW;subst eW;refine Qk (Xq (λ_=>a2) ?_);refine Jxl 6 10 kr rfl rfl rfl ?_ ?_
   .refine cl (zl n _ om) ?_;rintro P v2 ⟨hP,Z⟩;obtain⟨P1,P2,_,eP,_,_⟩:=id hP.el;rw[List.length_replicate]at eP;subst eP;have hZ (b:Nat) (hb:v2.heap.size<=b):=twoZ (b:=b) (nR _) hW a2 (Ext.refl _) hP Z (.inr (.inr hb));refine Qk (Xq (λ_=>Z) ?_);refine Jxl 9 10 kr rfl rfl rfl ?_ ?_
    .refine bld (Jwz _ _ _ _ _ _ _ _ _ _ _ _ _ _) ?_;refine Qk (Xq (λ_=>Ext.refl _) ?_);refine Zs 10 kr rfl rfl ?_;refine alc Kt ?_;intro v3 D O G U;refine Qk (Xq (λ_=>O) ?_);refine hlist (listed':=lst 12 11) kr ?_;exact rest ((W1,W2),(P1,P2),D) _ _ ⟨a2.trans (Z.trans O),(hZ D G).ext O,U,Nat.le_trans (a2.trans Z).size G⟩ sB
    refine alc Kt ?_;intro v3 D O G U;refine Qk (Xq (λ_=>O) ?_);refine Zs 9 kr rfl rfl ?_;refine bld (Jwz _ _ _ _ _ _ _ _ _ _ _ _ _ _) ?_;refine Qk (Xq (λ_=>Ext.refl _) ?_);refine hlist (listed':=lst 12 11) kr ?_;exact rest ((W1,W2),(P1,P2),D) _ _ ⟨a2.trans (Z.trans O),(hZ D G).ext O,U,Nat.le_trans (a2.trans Z).size G⟩ sB
   refine alc Kt ?_;intro v2 D Z G U;refine Qk (Xq (λ_=>Z) ?_);refine Zs 6 kr rfl rfl ?_;refine cl (zl n _ om) ?_;rintro P v3 ⟨hP,O⟩;obtain⟨P1,P2,_,eP,_,_⟩:=id hP.el;rw[List.length_replicate]at eP;subst eP;have hZ:=twoZ (b:=D) (nR _) hW a2 Z hP O (.inr (.inl ⟨G,U.lt⟩));refine Qk (Xq (λ_=>O) ?_);refine Zs 9 kr rfl rfl ?_;refine bld (Jwz _ _ _ _ _ _ _ _ _ _ _ _ _ _) ?_;refine Qk (Xq (λ_=>Ext.refl _) ?_);refine hlist (listed':=lst 12 11) kr ?_;exact rest ((W1,W2),(P1,P2),D) _ _ ⟨a2.trans (Z.trans O),hZ,U.ext O,Nat.le_trans a2.size G⟩ sB
  refine alc Kt ?_;intro v1 D a2 G U;refine Qk (Xq (λ_=>a2) ?_);refine Zs 3 kr rfl rfl ?_;refine cl (zl es.length _ om) ?_;rintro W v2 ⟨hW,Z⟩;obtain⟨W1,W2,_,eW,_,_⟩:=id hW.el;rw[List.length_replicate]at eW;subst eW;refine Qk (Xq (λ_=>Z) ?_);refine Zs 6 kr rfl rfl ?_;refine cl (zl n _ om) ?_;rintro P v3 ⟨hP,O⟩;obtain⟨P1,P2,_,eP,_,_⟩:=id hP.el;rw[List.length_replicate]at eP;subst eP;have hZ:=twoZ (b:=D) a2.size hW Z (Ext.refl _) hP O (.inl U.lt);refine Qk (Xq (λ_=>O) ?_);refine Zs 9 kr rfl rfl ?_;refine bld (Jwz _ _ _ _ _ _ _ _ _ _ _ _ _ _) ?_;refine Qk (Xq (λ_=>Ext.refl _) ?_);refine hlist (listed':=lst 12 11) kr ?_;exact rest ((W1,W2),(P1,P2),D) _ _ ⟨a2.trans (Z.trans O),hZ,(U.ext Z).ext O,G⟩ sB
 rintro⟨⟨W1,W2⟩,⟨P1,P2⟩,D⟩ dx ⟨bf,bn,a4,G⟩;simp only at bn a4 G ⊢;refine Zs 11 kr rfl rfl ?_;refine stb (cs':=[.slice W1 es.length W2,.slice P1 n P2,.bool q.neg,.slice Q1 (Jj q.num).length c1,.slice Q2 (Jj q.den).length c2]) a4 ?_ (λu F=>by
  simp only[List.mem_cons,List.not_mem_nil,or_false]at F;rcases F with rfl|rfl|rfl|rfl|rfl<;>rfl)
 intro cm an bl be;have e1:Ext a5.drew cm:=be _ bf G;obtain⟨⟨dk,b4⟩,⟨dj,b6⟩,cv,c8,c7⟩:=bn;have ah:GrN (λk=>k=D) dx cm:=GrN.by bl λk e=>by injection e with e;exact e.symm
 obtain⟨_,_,bc⟩:=b4.own;obtain⟨_,_,bd⟩:=b6.own;have bq:=b4.gr RtC.sta ah λk e=>⟨.inr (.inl e),by rw[e];exactλe'=>a4.ne_own bc kr e'.symm⟩;have bt:=b6.gr RtC.sta ah λk e=>⟨.inr (.inl e),by rw[e];exactλe'=>a4.ne_own bd kr e'.symm⟩;refine Qk (Xq (λh=>by cases h) ?_);refine Xg kr ?_;generalize hsz:a5.drew.heap.size=s at *
 clear b4 b6 bc bd a4 bf be bl ah;have cd:=bq.old RtC.sta (N':=λk=>k=D∨(Value.slice W1 es.length W2).ownBlock=some k∨(Value.slice P1 n P2).ownBlock=some k) λk J=>.inl (.inr J);have ch:=bt.old RtC.sta (N':=λk=>k=D∨(Value.slice W1 es.length W2).ownBlock=some k∨(Value.slice P1 n P2).ownBlock=some k) λk J=>.inl (.inr J);clear bq bt;have eo:∀ k,(k=D∨(Value.slice W1 es.length W2).ownBlock=some k∨(Value.slice P1 n P2).ownBlock=some k)->s<=k:=λk J=>by
  rcases J with J|J|J
  .omega
  .exact c8 k J
  exact c7 k J
 generalize hNN:(λk=>k=D∨(Value.slice W1 es.length W2).ownBlock=some k∨(Value.slice P1 n P2).ownBlock=some k)=NN at *
 have d9:∀ k,(Value.slice W1 es.length W2).ownBlock=some k->NN k:=λk J=>by rw[<-hNN];exact .inr (.inl J)
 have d8:∀ k,(Value.slice P1 n P2).ownBlock=some k->NN k:=λk J=>by rw[<-hNN];exact .inr (.inr J)
 have bu:∀ k,NN k->s<=k:=λk J=>eo k (by rw[<-hNN]at J;exact J);have ai:Ext w9 a5.drew:=aq.trans ap;have ei:=(d5.ext RtC.sta (by decide) ai).old RtC.sta (by decide) (N':=NN) λk J=>.inr (by rw[hsz];exact bu k J);have ef:=(d3.ext RtC.sta (by decide) ai).old RtC.sta (by decide) (N':=NN) λk J=>.inr (by rw[hsz];exact bu k J);have da:=ep.ext (af.trans ap);have db:=er.ext (af.trans ap);have d0:t'.point.length=(Jb n set).length:=cz;have cy:t'.dual.length=(Jm es set es.length).length:=cx;obtain⟨XA,XC,_,eX,_,_,eg,_,eh⟩:=id ei.el;injection eX with eXa _ eXc
 subst eXa;obtain⟨YA,YC,_,eY,_,_,ed,_,ee⟩:=id ef.el;injection eY with eYa _ eYc
 subst eYa;refine ρ ?_;refine Jl (fun (i:Nat)=>[(2,.pointer (some ⟨b1,0,none⟩)),(4,.pointer (some ⟨b2,0,none⟩)),(11,.slice MA (Jb n set).length mc),(12,.slice FA (Jm es set es.length).length fc),(13,.pointer (some ⟨cj,0,none⟩)),(15,.pointer (some ⟨D,0,none⟩)),(74,.slice MA (Jb n set).length mc),(75,.int .i64 ((Jb n set).length:Int)),(76,.int .i64 (i:Int))])
  (λi w'=>i<=(Jb n set).length/\Ext a5.drew w'/\OX 84 3 RtC NN w' dk (.slice W1 es.length W2) (List.replicate es.length pr0)/\OX 84 3 RtC NN w' dj (.slice P1 n P2) (Vc (List.replicate n pr0) (Jb n set) t'.point i)/\Blk w' D 86 [.slice W1 es.length W2,.slice P1 n P2,.bool q.neg,.slice Q1 (Jj q.num).length c1,.slice Q2 (Jj q.den).length c2]) (λi=>(Jb n set).length-i) 0 sB ⟨Nat.zero_le _,e1,cd,by rw[Jmg];exact ch,an⟩ ?_
 rintro i b9 ⟨hi,ak,bp,b5,aa⟩;refine ρ ?_;refine ci (λhc=>?_) (λhc=>?_)
 .have a1:i<(Jb n set).length:=by have:=oT hc;omega
  clear hc;refine ρ ?_;refine ix i (da.ext ak) a1 ?_;refine ρ ?_;refine ld ((da.ext ak).cell (Qg a1)) ?_;refine ρ ?_;have cb:i<t'.point.length:=om
  have ar:(Jb n set).getD i 0<n:=Jnt (getD_mem' 0 _ a1);have a3:Ext b9 b9.drew:=(Ext.refl b9).drew;have a8:=ak.trans a3;have cg:=b5.ext RtC.sta a3;have bi:n=(Vc (List.replicate n pr0) (Jb n set) t'.point i).length:=by rw[Jkd];simp
  obtain⟨ce,_,av,c9⟩:=eh i cb;have aw:=Jmf (l:=List.replicate n pr0) a1 cb;rw[show(Jb n set)[i]=(Jb n set).getD i 0 by simp[List.getD,List.getElem?_eq_getElem a1]]at aw;generalize t'.point[i]=x at *
  obtain⟨F1,f1,F2,f2,rfl,e7⟩:=av.sl;refine dr [(0,0),(0,1),(0,2),(0,3),(0,4),(0,5),(0,6),(0,7),(0,8),(2,9)] kr ?_;refine ρd ?_;refine dld ((aa.ext a3).at (i:=1) rfl) ?_;refine ρd ?_;refine dld ((ad.ext a8).at (i:=1) rfl) ?_;refine ρd ?_;refine Qr 3 i (eg.ext a8) cb ?_;refine ρd ?_;refine Qq (λj u F=>Qp a8 (c9 j u F)) ?_;refine ρd ?_;obtain⟨_,ek⟩:=cg.rd bi;refine Qr 3 ((Jb n set).getD i 0) ek ar ?_;refine ρd ?_;refine Jg ?_;refine stX RtC.sta cg bi (show(Jb n set).getD i 0<_ by omega) (cs:=[.bool x.neg,.slice F1 _ f1,.slice F2 _ f2]) (a:=x) (RtC.sta.gr av (GrN.ext a8)) d8 (Qv rfl rfl rfl) ?_;intro dw bs az;have c6:GrN (λk=>(Value.slice P1 n P2).ownBlock=some k) b9.drew dw:=GrN.by az λk e=>e
  rw[<-aw]at bs;obtain⟨_,_,bd⟩:=cg.own;have d6:=(bp.ext RtC.sta a3).gr RtC.sta c6 λk e=>⟨d8 k e,λe'=>cv k e' e⟩;have U:=(aa.ext a3).grown az λe=>(aa.ext a3).ne_own bd kr e;refine ρ ?_;exact Jf (i+1) sO ⟨om,Jh a8 az λk J=>by rw[hsz];exact c7 k J,d6,bs,U⟩ om
 have ax:i=(Jb n set).length:=by have:=oF hc;omega
 subst ax;clear hc hi;rw[Jkf d0.symm]at b5;refine ρ ?_;refine Jl (fun (i:Nat)=>[(2,.pointer (some ⟨b1,0,none⟩)),(4,.pointer (some ⟨b2,0,none⟩)),(12,.slice FA (Jm es set es.length).length fc),(13,.pointer (some ⟨cj,0,none⟩)),(15,.pointer (some ⟨D,0,none⟩)),(91,.slice FA (Jm es set es.length).length fc),(92,.int .i64 ((Jm es set es.length).length:Int)),(93,.int .i64 (i:Int))])
  (λi w'=>i<=(Jm es set es.length).length/\Ext a5.drew w'/\OX 84 3 RtC NN w' dk (.slice W1 es.length W2) (Vc (List.replicate es.length pr0) (Jm es set es.length) t'.dual i)/\OX 84 3 RtC NN w' dj (.slice P1 n P2) (Yt (List.replicate n pr0) (Jb n set) t'.point)/\Blk w' D 86 [.slice W1 es.length W2,.slice P1 n P2,.bool q.neg,.slice Q1 (Jj q.num).length c1,.slice Q2 (Jj q.den).length c2]) (λi=>(Jm es set es.length).length-i) 0 sB ⟨Nat.zero_le _,ak,by rw[Jmg];exact bp,b5,aa⟩ ?_
 rintro i ao ⟨hi,a7,b3,br,am⟩;refine ρ ?_;refine ci (λhc=>?_) (λhc=>?_)
 .have a1:i<(Jm es set es.length).length:=by have:=oT hc;omega
  clear hc;refine ρ ?_;refine ix i (db.ext a7) a1 ?_;refine ρ ?_;refine ld ((db.ext a7).cell (Qg a1)) ?_;refine ρ ?_;have ca:i<t'.dual.length:=om
  have ar:(Jm es set es.length).getD i 0<es.length:=Jcq (getD_mem' 0 _ a1);have a3:Ext ao ao.drew:=(Ext.refl ao).drew;have a6:=a7.trans a3;have cc:=b3.ext RtC.sta a3;have bh:es.length=(Vc (List.replicate es.length pr0) (Jm es set es.length) t'.dual i).length:=by rw[Jkd];simp
  obtain⟨ce,_,av,c9⟩:=ee i ca;have aw:=Jmf (l:=List.replicate es.length pr0) a1 ca;rw[show(Jm es set es.length)[i]=(Jm es set es.length).getD i 0 by simp[List.getD,List.getElem?_eq_getElem a1]]at aw;generalize t'.dual[i]=x at *
  obtain⟨F1,f1,F2,f2,rfl,e7⟩:=av.sl;refine dr [(0,0),(0,1),(0,2),(0,3),(0,4),(0,5),(0,6),(0,7),(0,8),(2,9)] kr ?_;refine ρd ?_;refine dld ((am.ext a3).at (i:=0) rfl) ?_;refine ρd ?_;refine dld ((ad.ext a6).at (i:=2) rfl) ?_;refine ρd ?_;refine Qr 3 i (ed.ext a6) ca ?_;refine ρd ?_;refine Qq (λj u F=>Qp a6 (c9 j u F)) ?_;refine ρd ?_;obtain⟨_,ej⟩:=cc.rd bh;refine Qr 3 ((Jm es set es.length).getD i 0) ej ar ?_;refine ρd ?_;refine Jg ?_;refine stX RtC.sta cc bh (show(Jm es set es.length).getD i 0<_ by omega) (cs:=[.bool x.neg,.slice F1 _ f1,.slice F2 _ f2]) (a:=x) (RtC.sta.gr av (GrN.ext a6)) d9 (Qv rfl rfl rfl) ?_;intro du bo ay;have c5:GrN (λk=>(Value.slice W1 es.length W2).ownBlock=some k) ao.drew du:=GrN.by ay λk e=>e
  rw[<-aw]at bo;obtain⟨_,_,bc⟩:=cc.own;have d7:=(br.ext RtC.sta a3).gr RtC.sta c5 λk e=>⟨d9 k e,λe'=>cv k e e'⟩;have df:=(am.ext a3).grown ay λe=>(am.ext a3).ne_own bc kr e;refine ρ ?_;exact Jf (i+1) sO ⟨om,Jh a6 ay λk J=>by rw[hsz];exact c8 k J,bo,d7,df⟩ om
 have ax:i=(Jm es set es.length).length:=by have:=oF hc;omega
 subst ax;clear hc hi;rw[Jkf cy.symm]at b3;have ae:=((dd.ext (bb.trans ba)).ext (aj)).ext a7;refine ρ ?_;refine lds (cs:=[.slice W1 es.length W2,.slice P1 n P2,.bool q.neg,.slice Q1 (Jj q.num).length c1,.slice Q2 (Jj q.den).length c2]) (λj u F=>am.at F) ?_;refine ρ ?_;refine stb (cs':=[.slice W1 es.length W2,.slice P1 n P2,.bool q.neg,.slice Q1 (Jj q.num).length c1,.slice Q2 (Jj q.den).length c2]) ae ?_ (λu F=>by
  simp only[List.mem_cons,List.not_mem_nil,or_false]at F;rcases F with rfl|rfl|rfl|rfl|rfl<;>rfl)
 intro ck de bj co;have ea:GrN (λk=>NN k∨k=b2) ao ck:=GrN.by bj λk e=>by injection e with e;exact .inr e.symm
 refine ρ ?_;have f8:=dd.lt;have f3:w2.heap.size<=s:=by rw[<-hsz];exact((bb.trans ba).trans aj).size
 have e8:(Yt (List.replicate n pr0) (Jb n set) t'.point).length=n:=by rw[<-Jkf d0.symm,Jkd];simp
 have e5:(Yt (List.replicate es.length pr0) (Jm es set es.length) t'.dual).length=es.length:=by rw[<-Jkf cy.symm,Jkd];simp
 have e0:=(cu.ext (ai.trans a7)).box ae noC;have dz:=(cr.ext (ai.trans a7)).box ae noC;have g1:=Jwj (b3.gx (N':=Nn) RtC.sta om λk J=>J.elim) ae noC (λe=>by have:=c8 b2 e;omega);have g2:=Jwj (br.gx (N':=Nn) RtC.sta om λk J=>J.elim) ae noC (λe=>by have:=c7 b2 e;omega);have a9:GrN (λk=>Nn k∨k=b2) ao ck:=GrN.by bj λk e=>by injection e with e;exact .inr e.symm
 subst e9;subst hq;exact Zo de ⟨_,_,_,_,rfl,(g1.gr RtC.sta (by decide) a9).old RtC.sta (by decide) λk J=>J.elim,(g2.gr RtC.sta (by decide) a9).old RtC.sta (by decide) λk J=>J.elim,(e0.gr a9).old λk J=>J.elim,(dz.gr a9).old λk J=>J.elim,co w (bg.trans (aj.trans a7)) (nL c0.size ec)⟩
open Go.RowKit Pl Go.Wk Bl
variable {m n:Nat}{v vl x y:Value}{w:World}
theorem Jgl{fid:FuncId}{cap:Array Value}{ls:List PR}(Inv:Nat->World->Prop)(hx:∀ i w w',Inv i w->Ext w w'->Inv i w')(hl:∀ i w,Inv i w->GX 3 RtC Nn w vl ls)(step:∀ i (hi:i<ls.length) w v,Inv i w->RtX Nn w v ls[i]->Ret Tryz.prog fid ([.int .i64 (i:Int),v]++cap.toList) w λu w'=>Inv (i+1) w')(h0:Inv 0 w):
  Ret Tryz.prog 91 [vl,.func (.func fid) #[] cap] w λu w'=>Inv ls.length w':=by
 obtain⟨A,c,_,rfl,_,a7,_⟩:=id (hl 0 w h0).el;refine Jz Tryz.func91 Tryz.ntmps91 rfl kr rfl ?_;refine ρ ?_;refine Jl (fun (i:Nat)=>[(1,.func (.func fid) #[] cap),(6,.slice A ls.length c),(7,.int .i64 (ls.length:Int)),(8,.int .i64 (i:Int))]) (λi w'=>i<=ls.length/\Inv i w') (λi=>ls.length-i) 0 sB ⟨Nat.zero_le _,h0⟩ ?_;rintro i w1 ⟨hi,hI⟩;refine ρ ?_;refine ci (λF=>?_) (λF=>?_)
 .have D:i<ls.length:=by have:=oT F;omega
  clear F;obtain⟨A',c',_,ev,_,_,hr,_,he⟩:=id (hl i w1 hI).el;injection ev with ev1 _ ev3
  subst ev1;obtain⟨ce,_,U,a2⟩:=he i D;obtain⟨F1,f1,F2,f2,rfl,Z⟩:=U.sl;refine ρ ?_;refine ixq 3 i hr D ?_;refine ρ ?_;refine lds (λj u O=>a2 j u O) ?_;refine ρ ?_;refine alc Vq ?_;intro w2 b2 J a3 a6;refine ρ ?_;refine stb (cs':=[.bool ls[i].neg,.slice F1 _ f1,.slice F2 _ f2]) a6 ?_ (Qv rfl rfl rfl);intro w3 a5 a8 G;have y:Ext w1 w3:=G w1 J a3;refine ρ ?_;refine lds (cs:=[.bool ls[i].neg,.slice F1 _ f1,.slice F2 _ f2]) (λj u O=>a5.at O) ?_;refine ρ ?_;refine clv (step i D w3 _ (hx i _ _ hI y) (Z.ext y)) ?_;rintro u w4 a4;refine ρ ?_;exact Jf (i+1) sO ⟨om,a4⟩ om
 have a1:i=ls.length:=by have:=oF F;omega
 subst a1;refine ρ ?_;exact Vl hI
theorem Jsk(hv:NatV w v n)(hn:n<=2147483648): Ret Tryz.prog 57 [v] w λr w'=>r=.tuple #[.int .i64 (n:Int),.int .i64 0]/\w'=w:=by
 refine Jz Tryz.func57 Tryz.ntmps57 rfl kr rfl ?_;refine ρ ?_;refine cl (Jbr hv om) ?_;rintro _ w1 ⟨rfl,rfl⟩;refine ρ ?_;refine cf ?_ ?_
 .simp;omega
 refine ρ ?_;rw[Vw (z:=(n:Int)) om];exact Xx ⟨rfl,rfl⟩
theorem Qmn(hx:NatX Nn w x n)(hy:NatX Nn w y m)(hn:n<4294967296)(hm:m<4294967296)(h0:0<m): Ret Tryz.prog 95 [x,y] w λr w'=>NatX Nn w' r (Nat.gcd n m)/\Ext w w':=by
 have U:∀ {k:Nat},k<4294967296->(Jj k).length<=1000:=fun {k} h=>by have:=Qs (n:=k) om;omega
 refine Jz Tryz.func95 Tryz.ntmps95 rfl kr rfl ?_;refine ρ ?_;refine Ku (fun (a b:Nat) (F vb:Value)=>[(0,F),(1,vb)]) (λa b F vb w'=>Ext w w'/\NatX Nn w' F a/\NatX Nn w' vb b/\a<4294967296/\b<4294967296/\Nat.gcd a b=Nat.gcd n m) (λ_ b _ _=>b) n m x y sB ⟨Ext.refl _,hx,hy,hn,hm,rfl⟩ ?_;rintro a b F vb w1 ⟨u,Z,J,O,i,G⟩;refine ρ ?_;refine cl (Yd J.1 (U i)) ?_;rintro _ w2 ⟨rfl,rfl⟩;refine ρ ?_;refine ci (λh=>?_) (λh=>?_)
 .have D:b≠0:=by rintro rfl;revert h;decide
  clear h;refine ρ ?_;refine cl (Jjc Z.1 J.1 (U O) om i) ?_;rintro _ w3 ⟨⟨q,r,rfl,hq,hr⟩,j⟩;refine ρ ?_;exact Yb b (a % b) _ _ sO ⟨u.trans j,J.ext j,hr.old λk hk=>hk.elim,i,Nat.lt_of_lt_of_le (Nat.mod_lt _ om) om,by rw[<-G,Nat.gcd_comm a b,Nat.gcd_rec b a];exact Nat.gcd_comm _ _⟩ (Nat.mod_lt _ om)
 have D:b=0:=by
  rcases Nat.eq_zero_or_pos b with h1|h1
  .exact h1
  have:=(Gy (x:=b) om).1;simp at h;omega
 subst D;rw[Nat.gcd_zero_right]at G;subst G;refine ρ ?_;exact Jq ⟨Z,u⟩
end Go.Proofs.YtebiphhfkdbpfaaGreat
namespace Go.Wk
open Go.RowKit
variable {i:Nat}{x:Operand}{t:TypeId}{u v:Value}
section
variable {P:Program} {n:Nat} {al:AL} {w:World} {Q:Exit->Act->World->Prop} {ops:Array Oper} {rest:List Oper} {drest:List (Nat×Oper)} {d ty:Nat} {pos:String} {aft:Array Edge}
theorem fld(hb:∀ w,(Instr.field t v i).run P w=.ok u w)(kk:WL P n ops Q rest ((d,u)::al) w)(hx:ev al x=some v:=by rfl)(hd:Nat.blt d n=true:=by rfl):
  WL P n ops Q (⟨some d,.field t x i,ty,pos,aft,none⟩::rest) al w:=wop hd (λa j=>by simp[execOp,j.ev hx,hb]) kk
theorem dfld(hb:∀ w,(Instr.field t v i).run P w=.ok u w)(kk:WD P n ops Q drest ((d,u)::al) w)(hx:ev al x=some v:=by rfl)(hd:Nat.blt d n=true:=by rfl):
  WD P n ops Q ((0,⟨some d,.field t x i,ty,pos,aft,none⟩)::drest) al w:=dy (λw' _ a j=>by simp[execOp,j.ev hx,hb]) hd kk
end
end Go.Wk
namespace Go.Proofs.YtebiphhfkdbpfaaGreat
open Go.RowKit Pl Go.Wk Bl
attribute [local irreducible] WC WL QX WD WDB WP WN WG WH
variable {ws:List PR}{d i sc:Nat}{P1 Q1 Q2 SA:Option Addr}{v vW vd vl:Value}{w:World}
theorem fldD(b:Bool)(A B:Option Addr)(m c m' c':Nat)(w:World): (Instr.field 84 (.agg #[.bool b,.slice A m c,.slice B m' c']) 2).run Tryz.prog w=.ok (.slice B m' c') w:=kr
theorem fldN(b:Bool)(A B:Option Addr)(m c m' c':Nat)(w:World): (Instr.field 84 (.agg #[.bool b,.slice A m c,.slice B m' c']) 1).run Tryz.prog w=.ok (.slice A m c) w:=kr
theorem Qpw{b:Bool}{P2 P3 m1 c1 m2 c2:Nat}{sizes:List Nat}(hW:GX 3 RtC Nn w vW ws)(hS:Rd w 1 SA sizes.length (Jt (nz sizes)))(hl:sizes.length=ws.length)(hn:∀ q∈ws,0<=q.sign/\q.num<18446744073709551616):
  Ret Tryz.prog 55 [.agg #[vW,.slice P1 P2 P3,.bool b,.slice Q1 m1 c1,.slice Q2 m2 c2],.slice SA sizes.length sc] w λu w'=>u=.int .i64 0/\Ext w w':=by
 obtain⟨W1,W2,_,rfl,_,a6,a4,_,a5⟩:=id hW.el;refine Jz Tryz.func55 Tryz.ntmps55 rfl kr rfl ?_;refine ρ ?_;refine bx (cs:=[.slice W1 ws.length W2,.slice P1 P2 P3,.bool b,.slice Q1 m1 c1,.slice Q2 m2 c2]) ?_;intro w1 b1 Z a8 O;refine ρ ?_;refine ld (O.at (i:=0) rfl) ?_;refine ρ ?_;refine cf ?_ ?_
 .simp;omega
 refine ρ ?_;refine Jl (fun (i:Nat)=>[(2,.pointer (some ⟨b1,0,none⟩)),(13,.slice SA sizes.length sc),(14,.int .i64 (sizes.length:Int)),(15,.int .i64 (i:Int))]) (λi w'=>i<=sizes.length/\Ext w1 w') (λi=>sizes.length-i) 0 sB ⟨Nat.zero_le _,Ext.refl _⟩ ?_;rintro i w2 ⟨hi,D⟩;have y:=Z.trans D;refine ρ ?_;refine ci (λhc=>?_) (λhc=>?_)
 .have J:i<sizes.length:=by have:=oT hc;omega
  clear hc;have F:i<ws.length:=om
  obtain⟨ce,_,a1,a3⟩:=a5 i F;obtain⟨F1,f1,F2,f2,rfl,a2⟩:=a1.sl;obtain⟨a7,G⟩:=hn _ (List.getElem_mem F);refine ρ ?_;refine ix i (hS.ext y) J ?_;refine ρ ?_;refine ld ((hS.ext y).cell (Qg J)) ?_;refine ρ ?_;refine kf 22 ?_ ?_
  .simp
  refine ρ ?_;refine ld ((O.ext D).at (i:=0) rfl) ?_;refine ρ ?_;refine ixq 3 i (a4.ext y) F ?_;refine ρ ?_;refine lds (λj u hu=>Qp y (a3 j u hu)) ?_;refine ρ ?_;refine cl (Uf (a2.ext y) (by have:=Qs G;omega)) ?_;rintro _ w3 ⟨rfl,U⟩;refine ρ ?_;refine cf ?_ ?_
  .simp;omega
  refine ρ ?_;exact Jf (i+1) sO ⟨om,D.trans U⟩ om
 refine ρ ?_;exact Jq ⟨rfl,y⟩
def dnK(ws:List PR)(i:Nat): Nat:=dnm (ws.take i)
theorem Qml(hi:i<ws.length): dnK ws (i+1)=dnK ws i / Nat.gcd (dnK ws i) ws[i].norm.den*ws[i].norm.den:=by
 unfold dnK dnm;rw[List.take_add_one,List.getElem?_eq_getElem hi,Option.toList_some,List.foldl_append];rfl
theorem Qnd{b:Nat}{q:PR}{i:Int}(hB:Blk w b 82 [vd])(hd:NatX (λk=>k=b) w vd d)(hq:RtX Nn w v q)(hd1:d<4294967296)(hqn:q.num<18446744073709551616)(hqd:q.den<4294967296)(h0:0<q.norm.den)(hqd':q.norm.den<4294967296):
  Ret Tryz.prog 92 [.int .i64 i,v,.pointer (some ⟨b,0,none⟩)] w λu w'=>∃ vd',Blk w' b 82 [vd']/\NatX (λk=>k=b) w' vd' (d / Nat.gcd d q.norm.den*q.norm.den)/\GrN (λk=>k=b) w w':=by
 obtain⟨A1,c1,A2,c2,rfl,a8,a7⟩:=hq.sl;refine Jz Tryz.func92 Tryz.ntmps92 rfl kr rfl ?_;refine ρ ?_;refine bx ?_;intro w1 b1 U ak ai;refine ρ ?_;refine lds (cs:=[.bool q.neg,.slice A1 _ c1,.slice A2 _ c2]) (λj u hu=>ai.at hu) ?_;refine ρ ?_;refine cl (Zn (N:=Nn) (q:=q) ⟨_,_,rfl,a8.ext U,a7.ext U⟩ hqn hqd) ?_;rintro r w2 ⟨hr,a4⟩;have aa:=hB.lt;obtain⟨R1,r1,R2,r2,rfl,a5,Z⟩:=hr.sl;obtain⟨_,_,er,a5,Z⟩:=hr;cases er
 have a2:=U.trans a4;have ae:0<Nat.gcd d q.norm.den:=Nat.gcd_pos_of_pos_right _ h0;have hl:∀ {k:Nat},k<4294967296->(Jj k).length<=1000:=fun {k} h=>by have:=Qs (n:=k) om;omega
 refine ρ ?_;refine fld (fldD _ _ _ _ _ _ _) ?_;have J:Ext w2 w2.drew:=(Ext.refl w2).drew;have y:=a2.trans J;refine ρ ?_;refine dr [(0,0),(0,1),(0,2),(1,3),(1,4),(0,5),(0,6),(0,7),(0,8),(0,9),(0,10),(0,11)] kr ?_;refine ρd ?_;refine dld ((hB.ext y).at (i:=0) rfl) ?_;refine ρd ?_;refine dld ((hB.ext y).at (i:=0) rfl) ?_;refine ρd ?_;refine dcl (Qmn ((hd.ext y).old λk hk=>hk.elim) ((Z.ext J).old λk hk=>hk.elim) hd1 hqd' h0) ?_;rintro g w3 ⟨hg,F⟩;refine⟨F,?_⟩;refine ρd ?_;refine dcl (Jjc ((hd.ext y).ext F).1 hg.1 (hl hd1) ae (nN (Nat.gcd_le_right _ h0) hqd')) ?_;rintro _ w4 ⟨⟨qv,rv,rfl,a6,aj⟩,O⟩;refine⟨O,?_⟩;refine ρd ?_;have D:=y.trans (F.trans O);refine ρ ?_;refine cl (Vg a6.1 ((Z.ext J).ext (F.trans O)).1 (hl (nN (Nat.div_le_self _ _) hd1)) (hl hqd')) ?_;rintro mv w5 ⟨a3,af,a1⟩;have a9:NatX (Ol w4) w5 mv (d / Nat.gcd d q.norm.den*q.norm.den):=⟨a3,λ_ ad m c e hk=>by have:=af ad m c e;exact absurd (show ad.block<w4.heap.size from hk) om⟩
 obtain⟨M1,m1,rfl⟩:=a3.sl;refine ρ ?_;refine stF (i:=0) (hB.ext (D.trans a1)) rfl ?_;intro w6 ah ac;have G:GrN (λk=>k=b) w5 w6:=GrN.by ac λk e=>by injection e with e;exact e.symm
 refine ρ ?_;exact Vl ⟨_,ah,(a9.old λk hk=>.inl (show k<w4.heap.size by rw[hk];exact nM aa D.size)).gr G,(GrN.ext (D.trans a1)).trans G⟩
theorem Qnc(hl:GX 3 RtC Nn w vl ws)(hd:∀ i,i<=ws.length->dnK ws i<4294967296)(hq:∀ q∈ws,q.num<18446744073709551616/\q.den<4294967296/\0<q.norm.den/\q.norm.den<4294967296):
  Ret Tryz.prog 56 [vl] w λu w'=>NatX Nn w' u (dnm ws)/\Ext w w':=by
 obtain⟨A,c,_,rfl,_,a8,_⟩:=id hl.el;refine Jz Tryz.func56 Tryz.ntmps56 rfl kr rfl ?_;refine ρ ?_;refine cl (Xa 1 (by decide) _) ?_;rintro o w1 ⟨ho,a1⟩;obtain⟨O1,o1,rfl⟩:=ho.1.sl;refine ρ ?_;refine alc (z:=.slice none 0 0) kr ?_;intro w2 b a4 F a7;refine ρ ?_;refine stF (i:=0) a7 rfl ?_;intro w3 a6 a5;have y:Ext w1 w3:=Jh a4 a5 λk e=>by injection e with e;rw[<-e];exact F
 have D:=a1.trans y;have a2:w.heap.size<=b:=nL a1.size F;refine ρ ?_;refine cl (Jgl (λi w'=>Ext w w'/\GX 3 RtC (λk=>k=b) w' (.slice A ws.length c) ws/\∃ J,Blk w' b 82 [J]/\NatX (λk=>k=b) w' J (dnK ws i)) (λi v v' ⟨Z,U,J,O,G⟩ hy=>⟨Z.trans hy,U.ext RtC.sta (by decide) hy,J,O.ext hy,G.ext hy⟩) (λi v ⟨Z,U,O⟩=>U.old RtC.sta (by decide) λk j=>j.elim) (λi hi v u ⟨Z,U,J,O,G⟩ hu=>?_) ⟨D,(hl.old RtC.sta (by decide) λk j=>.inr (by rw[j];exact a2)).ext RtC.sta (by decide) D,_,a6,?_⟩) ?_
 .obtain⟨e1,e2,e3,e4⟩:=hq _ (List.getElem_mem hi);refine(Qnd O G hu (hd i om) e1 e2 e3 e4).mono λr v' ⟨a3,g1,g2,g3⟩=>?_;rw[<-Qml hi]at g2;exact⟨g3.old Z λk j=>by rw[j];exact a2,U.gr RtC.sta (by decide) g3,a3,g1,g2⟩
 .exact(ho.old λk j=>.inr (by rw[j];exact F)).ext y
 rintro u w4 ⟨Z,U,J,O,G⟩;have e5:dnK ws ws.length=dnm ws:=by unfold dnK;rw[List.take_length]
 rw[e5]at G;obtain⟨D1,d1,rfl⟩:=G.1.sl;refine ρ ?_;refine ld (O.at (i:=0) rfl) ?_;refine ρ ?_;exact Jq ⟨G.old λk j=>False.elim j,Z⟩
open Go.RowKit Pl Go.Wk Bl
variable {K a n:Nat}{u v:Value}{w:World}
theorem Yj(h:n<2^K)(hK:K<=30000): (Jj n).length<=1000:=by
 by_cases h0:n=0
 .subst h0;rw[limbs_0];decide
 have i:=Jwd h0;refine Nat.le_of_not_lt λj=>?_;have y:(4294967296:Nat)=2^32:=by decide
 rw[y,<-Nat.pow_mul]at i;have u:2^K<=2^(32*((Jj n).length-1)):=Nat.pow_le_pow_right (by decide) om;exact absurd (nM (nM h u) i) (Nat.lt_irrefl _)
theorem Jps(h:n<2^K): Jw n<=K:=by
 by_cases h0:n=0
 .subst h0;exact Nat.zero_le _
 refine Nat.le_of_not_lt λi=>?_;have u:=(Gy h0).2;have j:2^K<=2^(Jw n-1):=Nat.pow_le_pow_right (by decide) om;exact absurd (nM (nM h j) u) (Nat.lt_irrefl _)
theorem Qsc: ∀ q:Nat,q<=400->(bits .and .i64 (q:Int) 1 == 1)=decide (q % 2=1):=by decide +kernel
theorem Qbz(hv:NatV w v a)(hn:n<=400)(ha:a<4294967296)(hb:a^n<2^K)(hK:K<=30000): Ret Tryz.prog 134 [v,.int .i64 (n:Int)] w λr w'=>(∃ u,r=.tuple #[u,.int .i64 0]/\NatX (Ol w) w' u (a^n))/\Ext w w':=by
 have la:(Jj a).length<=1000:=by have:=Qs (n:=a) om;omega
 refine Jz Tryz.func134 Tryz.ntmps134 rfl kr rfl ?_;refine ρ ?_;refine cl (Ze hv) ?_;rintro v' w' ⟨⟨A,rfl,hA⟩,rfl⟩;have Z:NatV w' (.slice A (Jj a).length (Jj a).length) a:=⟨A,_,rfl,Nat.le_refl _,om,hA⟩;refine ρ ?_;refine cl (Yd Z la) ?_;rintro _ w1 ⟨rfl,rfl⟩;refine ρ ?_;by_cases hn0:n=0
 .subst hn0;refine kt 17 ?_ ?_
  .rfl
  refine ρ ?_;refine cl (Xa 1 (by decide) _) ?_;rintro o w2 ⟨ho,y⟩;refine ρ ?_;exact Xx ⟨⟨_,rfl,by rw[Nat.pow_zero];exact ho⟩,y⟩
 refine kf 17 ?_ ?_
 .exact beq_eq_false_iff_ne.2 om
 refine ρ ?_;refine ci (λi=>?_) (λi=>?_)
 .have U:Jw a=1:=by have:=eq_of_beq i;omega
  have J:a=1:=by
   have h2:=Yu (x:=a);rw[U]at h2;have:a≠0:=by rintro rfl;revert U;decide
   omega
  subst J;refine ρ ?_;refine cl (Xa 1 (by decide) _) ?_;rintro o w2 ⟨ho,y⟩;refine ρ ?_;exact Xx ⟨⟨_,rfl,by rw[Nat.one_pow];exact ho⟩,y⟩
 have a8:Jw a≠1:=λe=>by rw[e]at i;revert i;decide
 clear i;refine ρ ?_;refine ci (λi=>?_) (λi=>?_)
 .have U:Jw a=0:=by have:=eq_of_beq i;omega
  have a5:a=0:=by
   have h2:=Yu (x:=a);rw[U]at h2;omega
  subst a5;refine ρ ?_;refine Xx ⟨⟨_,rfl,?_⟩,Ext.refl _⟩;rw[Nat.zero_pow om];exact⟨NatV.nil _,λh=>absurd rfl h⟩
 have a9:Jw a≠0:=λe=>by rw[e]at i;revert i;decide
 clear i;have ak:2<=a:=by
  have a5:a≠0:=by rintro rfl;exact a9 (by decide)
  have J:a≠1:=by rintro rfl;exact a8 (by decide)
  omega
 have ai:Jw a<=32:=Yg om;have aj:(Jw a-1)*n<65536:=nN (Nat.mul_le_mul (show Jw a-1<=31 by omega) hn) (by decide);refine ρ ?_;refine kf 26 ?_ ?_
 .exact dF om
 refine ρ ?_;refine kf 30 ?_ ?_
 .exact dF om
 refine ρ ?_;have a3:((Jw a:Int)-1)*(n:Int)=(((Jw a-1)*n:Nat):Int):=by
  rw[Int.natCast_mul,Int.natCast_sub om];rfl
 refine cf ?_ ?_
 .rw[a3,Vw om];exact dF om
 have J:0<a:=om
 have G:∀ k,k<=n->(Jj (a^k)).length<=1000:=λk hk=>Yj (nN (Nat.pow_le_pow_right J hk) hb) hK;refine ρ ?_;refine cl (Xa 1 (by decide) _) ?_;rintro o w2 ⟨ho,y⟩;refine ρ ?_;rw[Yp (z:=(n:Int)) om];refine cl (Jfc n om _) ?_;rintro _ w3 ⟨rfl,rfl⟩;have hL:Jw n<=9:=Yg om;refine ρ ?_;refine Qw (fun (t:Nat) (ov:Value)=>[(0,.slice A (Jj a).length (Jj a).length),(1,.int .i64 (n:Int)),(7,ov),(8,.int .i64 ((t:Int)-1))])
  (λt ov w'=>t<=9/\NatX (Ol w1) w' ov (a^(n / 2^t))/\Ext w1 w') (λt _=>t) (Jw n) o sB ⟨hL,by rw[Nat.div_eq_of_lt Yu];exact ho,y⟩ ?_
 rintro t ov w4 ⟨ht,D,j⟩;have a2:n / 2^t<=n:=Nat.div_le_self _ _;refine ρ ?_;refine ci (λi=>?_) (λi=>?_)
 .obtain⟨t,rfl⟩:∃ s,t=s+1:=⟨t-1,by have:=oT i;omega⟩;clear i;rw[show((t+1:Nat):Int)-1=(t:Int) by omega];have hd:n / 2^t=2*(n / 2^(t+1))+n / 2^t % 2:=by rw[Nat.pow_succ,<-Nat.div_div_eq_div_mul];omega
  have ae:n / 2^t<=n:=Nat.div_le_self _ _;refine ρ ?_;refine cl (Vg D.1 D.1 (G _ a2) (G _ a2)) ?_;rintro o5 w5 ⟨O,ac,F⟩;have ah:=j.size;rw[<-Nat.pow_add]at O;have a6:NatX (Ol w1) w5 o5 (a^(n / 2^(t+1)+n / 2^(t+1))):=⟨O,λ_ ad m c e hk=>by have:=ac ad m c e;exact absurd (show ad.block<w1.heap.size from hk) om⟩;refine ρ ?_;refine Vx rfl rfl om rfl ?_;have es:((n:Int)).fdiv (2^min ((t:Nat):Int).toNat IntKind.i64.bits)=((n / 2^t:Nat):Int):=by rw[Gr n t IntKind.i64.bits,Nat.min_eq_left (by show t<=64;omega)]
  refine Go.Wk.kv 51 (u:=.int .i64 ((n / 2^t:Nat):Int)) (congrArg (Value.int .i64) es) ?_;have a4:=Qsc (n / 2^t) om;refine ρ ?_;refine ci (λi=>?_) (λi=>?_)
  .have U:n / 2^t % 2=1:=by rw[a4]at i;exact oT i
   refine ρ ?_;refine cl (Vg O (Z.ext (j.trans F)) (G _ om) la) ?_;rintro o6 w6 ⟨a1,aa,a7⟩;have af:=F.size;rw[<-Nat.pow_succ,show(n / 2^(t+1)+n / 2^(t+1)).succ=n / 2^t by omega]at a1;refine ρ ?_;exact Ja t o6 sB ⟨om,⟨a1,λ_ ad m c e hk=>by have:=aa ad m c e;exact absurd (show ad.block<w1.heap.size from hk) om⟩,(j.trans F).trans a7⟩ om
  have U:n / 2^t % 2=0:=by
   rw[a4]at i;have:=oF i;omega
  rw[show n / 2^(t+1)+n / 2^(t+1)=n / 2^t by omega]at a6;refine ρ ?_;exact Ja t o5 sB ⟨om,a6,j.trans F⟩ om
 have h0:t=0:=by have:=oF i;omega
 clear i;subst h0;rw[Nat.pow_zero,Nat.div_one]at D;refine ρ ?_;refine cl (Yd D.1 (G n (nR _))) ?_;rintro _ w5 ⟨rfl,rfl⟩;have hl:Jw (a^n)<=K:=Jps hb;refine ρ ?_;refine cf ?_ ?_
 .exact dF om
 refine ρ ?_;exact Xx ⟨⟨_,rfl,D⟩,j⟩
theorem Qbw(hv:NatV w v a)(hu:NatV w u n)(hn:n<=400)(ha:a<4294967296)(hb:a^n<2^K)(hK:K<=30000): Ret Tryz.prog 101 [v,u] w λr w'=>(∃ u,r=.tuple #[u,.int .i64 0]/\NatX (Ol w) w' u (a^n))/\Ext w w':=by
 refine Jz Tryz.func101 Tryz.ntmps101 rfl kr rfl ?_;refine ρ ?_;refine cl (Jsk hu om) ?_;rintro _ w1 ⟨rfl,rfl⟩;refine ρ ?_;refine cl (Qbz hv hn ha hb hK) ?_;rintro _ w2 ⟨⟨r,rfl,j⟩,i⟩;refine ρ ?_;exact Xx ⟨⟨_,rfl,j⟩,i⟩
open Go.RowKit Pl Go.Wk Bl
variable {sizes:List Nat}{ws:List PR}{K d i sc:Nat}{SA:Option Addr}{v vd vl vr:Value}{w:World}
def Kc(q:PR)(d:Nat): Nat:=(PR.norm (PR.mul q (PR.norm ⟨false,d,0⟩))).num
def prK(ws:List PR)(sizes:List Nat)(d i:Nat): Nat:=Kq (ws.take i) (sizes.take i) d
theorem Qbv(hi:i<ws.length)(hs:i<sizes.length): prK ws sizes d (i+1)=prK ws sizes d i*sizes[i]^Kc ws[i] d:=by
 unfold prK Kq;rw[List.take_add_one,List.take_add_one,List.getElem?_eq_getElem hi,List.getElem?_eq_getElem hs,Option.toList_some,Option.toList_some,List.zip_append (by simp;omega),List.foldl_append];rfl
structure EOk(q:PR)(d:Nat): Prop where
 d64:d<18446744073709551616
 h1:q.num<4294967296
 h2:q.den<4294967296
 h3:(PR.norm ⟨false,d,0⟩).num<4294967296
 h4:(PR.norm ⟨false,d,0⟩).den<4294967296
 h5:q.norm.den*(PR.norm ⟨false,d,0⟩).norm.den<4294967296
 m1:(PR.mul q (PR.norm ⟨false,d,0⟩)).num<18446744073709551616
 m2:(PR.mul q (PR.norm ⟨false,d,0⟩)).den<4294967296
 e:Kc q d<=400
structure PrOk(ws:List PR)(sizes:List Nat)(d K:Nat): Prop where
 k:K<=30000
 len:sizes.length=ws.length
 q:∀ q∈ws,EOk q d
 s:∀ s∈sizes,s<4294967296
 p:∀ i,i<=ws.length->prK ws sizes d i<2^K
 f:∀ i (h1:i<ws.length) (h2:i<sizes.length),sizes[i]^Kc ws[i] d<2^K
theorem Qbq{b1 b2 b3 b4 r:Nat}{q:PR}(hF:Blk w b1 38 [.int .i64 0])(hD:Blk w b2 82 [vd])(hS:Blk w b3 28 [.slice SA sizes.length sc])(hR:Blk w b4 82 [vr])(hd:NatX (λk=>k=b4) w vd d)(hr:NatX (λk=>k=b4) w vr r)(hs:Rd w 1 SA sizes.length (Jt (nz sizes)))(hq:RtX Nn w v q)(hi:i<sizes.length)(he:EOk q d)(hs32:sizes[i]<4294967296)(hrK:r<2^K)(hfK:sizes[i]^Kc q d<2^K)(hK:K<=30000):
  Ret Tryz.prog 98 [.int .i64 (i:Int),v,.pointer (some ⟨b1,0,none⟩),.pointer (some ⟨b2,0,none⟩),.pointer (some ⟨b3,0,none⟩),.pointer (some ⟨b4,0,none⟩)] w λu w'=>∃ vr',Blk w' b4 82 [vr']/\NatX (λk=>k=b4) w' vr' (r*sizes[i]^Kc q d)/\GrN (λk=>k=b4) w w':=by
 obtain⟨A1,c1,A2,c2,rfl,ac,aa⟩:=hq.sl;refine Jz Tryz.func98 Tryz.ntmps98 rfl kr rfl ?_;refine ρ ?_;refine bx ?_;intro w1 bq a3 aq an;refine ρ ?_;refine ld ((hF.ext a3).at (i:=0) rfl) ?_;have O:Ext w1 w1.drew:=(Ext.refl w1).drew;have y:=a3.trans O;have aj:=hR.lt;have a5:NatX Nn w vd d:=hd.old λk hk=>False.elim hk;obtain⟨D1,d1,rfl⟩:=a5.1.sl;refine ρ ?_;refine dr [(0,0),(0,1),(1,2),(1,3),(1,4),(0,5),(0,6)] kr ?_;refine ρd ?_;refine Qq (cs:=[.bool q.neg,.slice A1 (Jj q.num).length c1,.slice A2 (Jj q.den).length c2]) (λj u hu=>(an.ext O).at hu) ?_;refine ρd ?_;refine dld ((hD.ext y).at (i:=0) rfl) ?_;refine ρd ?_;refine dcl (Qyt (a5.ext y).1 he.d64) ?_;rintro x1 w2 ⟨a7,G⟩;refine⟨G,?_⟩;obtain⟨B1,e1,B2,e2,rfl,aw,av⟩:=a7.sl;refine ρd ?_;refine dcl (Jbf (N:=Nn) (p:=q) ⟨_,_,rfl,(ac.ext y).ext G,(aa.ext y).ext G⟩ a7 he.h1 he.h2 he.h3 he.h4 he.h5) ?_
 rintro x2 w3 ⟨a6,a2⟩;refine⟨a2,?_⟩;obtain⟨C1,f1,C2,f2,rfl,au,ar⟩:=a6.sl;refine ρd ?_;refine dcl (Zn a6 he.m1 he.m2) ?_;rintro x3 w4 ⟨ak,a1⟩;refine⟨a1,?_⟩;obtain⟨E1,g1,E2,g2,rfl,am,ax⟩:=ak.sl;refine ρd ?_;refine dfld (fldN _ _ _ _ _ _ _) ?_;refine ρd ?_;have F:=y.trans (G.trans (a2.trans a1));refine ρ ?_;refine ld ((hS.ext F).at (i:=0) rfl) ?_;refine ρ ?_;refine ix i (hs.ext F) hi ?_;refine ρ ?_;refine ld ((hs.ext F).cell (Qg hi)) ?_;have ap:sizes.getD i 0=sizes[i]:=by simp[List.getD,List.getElem?_eq_getElem hi]
 rw[ap];refine ρ ?_;rw[Yp (z:=(sizes[i]:Int)) om];refine cl (Xa sizes[i] om _) ?_;rintro sv w5 ⟨a9,Z⟩;refine ρ ?_;refine cl (Qbw a9.1 (am.ext Z).1 he.e hs32 hfK hK) ?_;rintro _ w6 ⟨⟨pv,rfl,ae⟩,a8⟩;have D:=F.trans (Z.trans a8);refine ρ ?_;refine ld ((hR.ext D).at (i:=0) rfl) ?_;refine ρ ?_;refine cl (Vg (hr.ext D).1 ae.1 (Yj hrK hK) (Yj hfK hK)) ?_;rintro mv w7 ⟨a4,ai,U⟩;have af:NatX (Ol w6) w7 mv (r*sizes[i]^Kc q d):=⟨a4,λ_ ad m c e hk=>by have:=ai ad m c e;exact absurd (show ad.block<w6.heap.size from hk) om⟩;obtain⟨M1,m1,rfl⟩:=a4.sl;refine ρ ?_;refine stF (i:=0) (hR.ext (D.trans U)) rfl ?_;intro w8 ao ah;have J:GrN (λk=>k=b4) w7 w8:=GrN.by ah λk e=>by injection e with e;exact e.symm
 refine ρ ?_;exact Vl ⟨_,ao,(af.old λk hk=>.inl (show k<w6.heap.size by rw[hk];exact nM aj D.size)).gr J,(GrN.ext (D.trans U)).trans J⟩
theorem Qbn(hl:GX 3 RtC Nn w vl ws)(hd:NatX Nn w vd d)(hs:Rd w 1 SA sizes.length (Jt (nz sizes)))(ho:PrOk ws sizes d K):
  Ret Tryz.prog 58 [vl,.slice SA sizes.length sc,vd] w λu w'=>(∃ v,u=.tuple #[v,.int .i64 0]/\NatX Nn w' v (Kq ws sizes d))/\Ext w w':=by
 obtain⟨A,c,_,rfl,_,an,_⟩:=id hl.el;obtain⟨D1,d1,rfl⟩:=hd.1.sl;refine Jz Tryz.func58 Tryz.ntmps58 rfl kr rfl ?_;refine ρ ?_;refine bx (cs:=[.slice SA sizes.length sc]) ?_;intro w1 b4 a5 av ah;refine ρ ?_;refine bx (cs:=[.slice D1 _ d1]) ?_;intro w2 b5 Z au af;refine ρ ?_;refine cl (Xa 1 (by decide) _) ?_;rintro o w3 ⟨a8,F⟩;obtain⟨O1,o1,rfl⟩:=a8.1.sl;refine ρ ?_;refine alc (z:=.slice none 0 0) kr ?_;intro w4 b8 a3 ak ae;refine ρ ?_;refine alc (z:=.int .i64 0) kr ?_;intro w5 b9 a2 ar am;have ao:=ae.lt;have aq:=ah.lt;have ap:=af.lt;have z2:=Z.size;have z3:=F.size;have z4:=a3.size;have z1:=a5.size;refine ρ ?_;refine stF (i:=0) (ae.ext a2) rfl ?_;intro w6 ad aj;have U:GrN (λk=>k=b8) w5 w6:=GrN.by aj λk e=>by injection e with e;exact e.symm
 have aa:=Ju am U om;refine ρ ?_;refine stF (i:=0) aa rfl ?_;intro w7 a9 ai;have O:GrN (λk=>k=b9) w6 w7:=GrN.by ai λk e=>by injection e with e;exact e.symm
 have ac:=Ju ad O om;have a4:Ext w3 w6:=U.old (a3.trans a2) λk e=>by omega
 have j:Ext w3 w7:=O.old a4 λk e=>by omega
 have a6:=a5.trans (Z.trans F);have y:=a6.trans j;have a1:w.heap.size<=b8:=om
 have a7:NatX (λk=>k=b8) w7 (.slice O1 (Jj 1).length o1) 1:=(a8.old λk D=>.inr (by rw[D];exact ak)).ext j;refine ρ ?_;refine cl (Jgl (λi w'=>Ext w w'/\GX 3 RtC (λk=>k=b8) w' (.slice A ws.length c) ws/\Blk w' b9 38 [.int .i64 0]/\Blk w' b5 82 [.slice D1 (Jj d).length d1]/\Blk w' b4 28 [.slice SA sizes.length sc]/\NatX (λk=>k=b8) w' (.slice D1 (Jj d).length d1) d/\∃ vr,Blk w' b8 82 [vr]/\NatX (λk=>k=b8) w' vr (prK ws sizes d i)) (λi v v' ⟨h1,h2,h3,h4,h5,h6,vr,h7,h8⟩ J=>⟨h1.trans J,h2.ext RtC.sta (by decide) J,h3.ext J,h4.ext J,h5.ext J,h6.ext J,vr,h7.ext J,h8.ext J⟩) (λi v ⟨h1,h2,h3⟩=>h2.old RtC.sta (by decide) λk D=>False.elim D) (λi hi v u ⟨h1,h2,h3,h4,h5,h6,vr,h7,h8⟩ hu=>?_)
  ⟨y,(hl.old RtC.sta (by decide) λk D=>.inr (by rw[D];exact a1)).ext RtC.sta (by decide) y,a9,(af.ext F).ext j,((ah.ext Z).ext F).ext j,(hd.old λk D=>.inr (by rw[D];exact a1)).ext y,_,ac,a7⟩) ?_
 .have G:i<sizes.length:=by rw[ho.len];exact hi
  refine(Qbq h3 h4 h5 h7 h6 h8 (hs.ext h1) hu G (ho.q _ (List.getElem_mem hi)) (ho.s _ (List.getElem_mem G)) (ho.p i om) (ho.f i hi G) ho.k).mono λr v' ⟨vr',g1,g2,g3⟩=>?_;rw[<-Qbv hi G]at g2;exact⟨g3.old h1 λk D=>by rw[D];exact a1,h2.gr RtC.sta (by decide) g3,Ju h3 g3 om,Ju h4 g3 om,Ju h5 g3 om,h6.gr g3,vr',g1,g2⟩
 rintro u w8 ⟨h1,h2,h3,h4,h5,h6,vr,h7,h8⟩;have e5:prK ws sizes d ws.length=Kq ws sizes d:=by unfold prK;rw[List.take_length,<-ho.len,List.take_length]
 rw[e5]at h8;obtain⟨V1,v1,rfl⟩:=h8.1.sl;refine ρ ?_;refine ld (h3.at (i:=0) rfl) ?_;refine ρ ?_;refine ld (h7.at (i:=0) rfl) ?_;refine ρ ?_;exact Xx ⟨⟨_,rfl,h8.old λk D=>False.elim D⟩,h1⟩
end Go.Proofs.YtebiphhfkdbpfaaGreat
namespace Go.Wk
open Go.RowKit
variable {d n ty v:Nat}
theorem sl32q{P:Program}{al:AL}{w:World}{Q:Exit->Act->World->Prop}{ops:Array Oper}{rest:List Oper}{pos:String}{aft:Array Edge}{y:Operand}{t yt:TypeId}{k2:IntKind}(hv:v<32)(kk:WL P n ops Q rest ((d,.int .u32 ((2^v:Nat):Int))::al) w)(hy:ev al y=some (.int k2 (v:Int)):=by rfl)(hd:Nat.blt d n=true:=by rfl):
  WL P n ops Q (⟨some d,.binOp .shl t (.const (.int .u32 1)) y yt,ty,pos,aft,none⟩::rest) al w:=by
 rw[<-Jyh hv]at kk;exact wop hd (λa i=>Jzw (x:=.const (.int .u32 1)) rfl hy om i (some d) w) kk
end Go.Wk
namespace Go.Proofs.YtebiphhfkdbpfaaGreat
open Go.RowKit Pl Go.Wk Bl
attribute [local irreducible] WC WL QX WD WDB WP WN WG WH
theorem Jpq: ∀(q r:Nat),r<32->Jj (2^(32*q+r))=List.replicate q 0++[UInt32.ofNat (2^r)]
 | 0,r,hr=>by
  have h1:2^r<4294967296:=nM (Nat.pow_lt_pow_right (by decide) hr) (by decide);rw[Nat.mul_zero,Nat.zero_add,Jpl (Nat.pos_iff_ne_zero.1 (Nat.two_pow_pos r)) h1];rfl
 | q+1,r,hr=>by
  have e:2^(32*(q+1)+r)=4294967296*2^(32*q+r):=by
   rw[show 32*(q+1)+r=32+(32*q+r) by omega,Nat.pow_add]
  have ih:=Jpq q r hr;have h0:=Nat.two_pow_pos (32*q+r);rw[e];have:=Jpp (c:=0) (m:=2^(32*q+r)) (by show 0+4294967296*_≠0;omega);rw[show(0:UInt32).toNat+4294967296*2^(32*q+r)=4294967296*2^(32*q+r) by show 0+_=_;omega]at this;rw[this,ih];rfl
theorem Qsb{i:Nat}(hi:i<=31000)(w:World): Ret Tryz.prog 106 [.int .i64 (i:Int)] w λu w'=>NatV w' u (2^i)/\Ext w w':=by
 refine Jz Tryz.func106 Tryz.ntmps106 rfl kr rfl ?_;have eq:IntKind.i64.wrap ((i:Int).tdiv 32)=((i / 32:Nat):Int):=by
  rw[show(i:Int).tdiv 32=((i / 32:Nat):Int) from rfl,Vw om]
 have er:(i:Int).tmod 32=((i % 32:Nat):Int):=rfl;refine ρ ?_;refine Jjz rfl rfl (by decide) rfl ?_;rw[eq];refine ρ ?_;refine mkn EN (i / 32+1) om (by unfold maxLen;omega) ?_;intro w1 O G a1 hO;have j:Xm w1 w.heap.size (.slice O (i / 32+1) (i / 32+1)) (List.replicate (i / 32+1) 0):=by
  have e:(madeCells (Value.int .u32 0).cells ((i / 32+1)*1)).toList=Nc (List.replicate (i / 32+1) 0):=by rw[Nat.mul_one,<-Jvh];exact Ye _ _
  grind
 refine ρ ?_;refine Jjz rfl rfl (by decide) rfl ?_;rw[eq];refine ρ ?_;refine Jjx rfl rfl (by decide) rfl ?_;rw[er];refine sl32q (v:=i % 32) (Nat.mod_lt _ (by decide)) ?_;refine ρ ?_;rw[Xm,List.length_replicate]at j;refine ix (i / 32) (Rd.own j) om ?_;refine ρ ?_;obtain⟨s1,Z,F,U,s5⟩:=Zp j (q:=i / 32) om (.int .u32 ((UInt32.ofNat (2^(i % 32))).toNat:Int));have hp:2^(i % 32)<4294967296:=nM (Nat.pow_lt_pow_right (by decide) (Nat.mod_lt i (by decide:32 > 0))) (by decide);have ep:((UInt32.ofNat (2^(i % 32))).toNat:Int)=((2^(i % 32):Nat):Int):=by rw[UInt32.toNat_ofNat',Nat.mod_eq_of_lt (show 2^(i % 32)<2^32 from hp)]
 refine Go.Wk.kv 13 (u:=.int .u32 ((UInt32.ofNat (2^(i % 32))).toNat:Int)) (congrArg (Value.int .u32) ep.symm) ?_;refine sto (s1.trans (Xv (by simp))) Z ?_;rw[Kp]at F;have D:Jj (2^i)=(List.replicate (i / 32+1) 0).set (i / 32) (UInt32.ofNat (2^(i % 32))):=by
  have J:=Jpq (i / 32) (i % 32) (Nat.mod_lt _ (by decide));rw[Nat.div_add_mod]at J;rw[J,List.replicate_succ',List.set_append_right _ _ (by simp)];simp
 have y:(Jj (2^i)).length=i / 32+1:=by rw[D];simp
 rw[<-D,<-y]at F;refine ρ ?_;refine Jq ⟨⟨O,i / 32+1,by rw[y],om,om,?_⟩,G.setCell U _⟩;rw[<-y]at *;exact Rd.own F
open Go.RowKit Pl Go.Wk Bl Nw
def DivC(K:Nat): Prop:=∀ {v u:Value} {a b:Nat} {w:World},NatV w v a->NatV w u b->a<2^K->b<2^K->0<b->Ret Tryz.prog 94 [v,u] w λr w'=>(∃ x y,r=.tuple #[x,y,.int .i64 0]/\NatX (Ol w) w' x (a / b)/\NatX (Ol w) w' y (a % b))/\Ext w w'
theorem Qmr: DivC 32:=λi j y u h0=>Jjc i j (Yj y (by decide)) h0 u
theorem Qfg{v:Value}{p n K:Nat}{w:World}(hv:NatV w v p)(hn:2<=n)(hn64:n<=64)(hp:1<p)(hK:K<=29000)(hK6:7<=K)(hpK:p<2^K)(hx0:(2^((Jw p+n-1) / n))^(n-1)<2^K)(hdiv:DivC K): Ret Tryz.prog 104 [v,.int .i64 (n:Int)] w λu w'=>(∃ r,NatV w' u r/\Jzg p n r)/\Ext w w':=by
 have ax:Jw p<=K:=Jps hpK;have b5:1<=Jw p:=(Gy (x:=p) om).1;have bd:(Jw p+n-1) / n<=K:=by
  refine nL (Nat.div_le_of_le_mul (m:=Jw p+n-1) (k:=n) (n:=Jw p) ?_) ax;obtain⟨l,hl⟩:∃ l,Jw p=l+1:=⟨Jw p-1,om⟩;rw[hl,Nat.mul_succ];have:l<=n*l:=Nat.le_mul_of_pos_left l om;omega
 have am:p<(2^((Jw p+n-1) / n))^n:=by
  refine nM Yu ?_;rw[<-Nat.pow_mul];refine Nat.pow_le_pow_right (by decide) ?_;have:=Nat.div_add_mod (Jw p+n-1) n;have h2:=Nat.mod_lt (Jw p+n-1) (show n > 0 by omega);rw[Nat.mul_comm];omega
 generalize O:(Jw p+n-1) / n=c at *
 refine Jz Tryz.func104 Tryz.ntmps104 rfl kr rfl ?_;refine ρ ?_;refine cl (Yd hv (Yj hpK om)) ?_;rintro _ w1 ⟨rfl,rfl⟩;have eq:IntKind.i64.wrap (((Jw p:Int)+(n:Int)-1).tdiv (n:Int))=(c:Int):=by
  rw[show(Jw p:Int)+(n:Int)-1=((Jw p+n-1:Nat):Int) by omega,show(((Jw p+n-1:Nat):Int)).tdiv (n:Int)=(((Jw p+n-1) / n:Nat):Int) from rfl,O,Vw om]
 refine ρ ?_;refine Jjz rfl rfl om rfl ?_;rw[eq];refine ρ ?_;refine cl (Qsb (i:=c) om _) ?_;rintro x0 w2 ⟨b2,ak⟩;have bc:=Yj hpK om;refine ρ ?_;refine Qw (fun (x:Nat) (xv:Value)=>[(0,v),(1,.int .i64 (n:Int)),(5,xv)]) (λx xv w'=>Ext w1 w'/\NatV w' xv x/\0<x/\x<=2^c/\p<(x+1)^n) (λx _=>x) (2^c) x0 sB ⟨ak,b2,Nat.two_pow_pos c,Nat.le_refl _,Nat.lt_of_lt_of_le am (Nat.pow_le_pow_left (Nat.le_succ _) n)⟩ ?_;rintro x xv w3 ⟨aj,hX,U,ah,ar⟩;have a4:∀ k,k<=n-1->x^k<2^K:=λk hk=>nN (nL (Nat.pow_le_pow_left ah k) (Nat.pow_le_pow_right (Nat.two_pow_pos c) hk)) hx0;have a6:x<2^K:=by have:=a4 1 om;rwa [Nat.pow_one]at this
 have ad:=Yj a6 om;refine ρ ?_;refine cl (Xa 1 (by decide) _) ?_;rintro o w4 ⟨ho,a1⟩;have a8:=aj.trans a1;have aa:((n:Int)-1)=((n-1:Nat):Int):=om
 refine ρ ?_;rw[aa];refine Qw (fun (i:Nat) (bv:Value)=>[(0,v),(1,.int .i64 (n:Int)),(5,xv),(6,bv),(24,.int .i64 ((n-1:Nat):Int)),(25,.int .i64 (i:Int))]) (λi bv w'=>i<=n-1/\Ext w4 w'/\NatV w' bv (x^i)) (λi _=>n-1-i) 0 o sB ⟨Nat.zero_le _,Ext.refl _,by rw[Nat.pow_zero];exact ho.1⟩ ?_;rintro i bv w5 ⟨hi,F,hb⟩;refine ρ ?_;refine ci (λO=>?_) (λO=>?_)
 .have ae:i<n-1:=by have:=oT O;omega
  clear O;refine ρ ?_;refine cl (Vg hb (hX.ext (a1.trans F)) (Yj (a4 i hi) om) ad) ?_;rintro b6 w6 ⟨af,_,y⟩;rw[<-Nat.pow_succ]at af;refine ρ ?_;exact Ja (i+1) b6 sO ⟨om,F.trans y,af⟩ om
 have ay:i=n-1:=by have:=oF O;omega
 subst ay;clear O hi;have G:=a8.trans F;refine ρ ?_;refine cl (hdiv (hv.ext G) hb hpK (a4 _ (nR _)) (Nat.pow_pos U)) ?_;rintro _ w6 ⟨⟨qv,rv,rfl,hq,hr⟩,y⟩;have be:n-1<64:=om
 have ap:(n-1)*x<2^(K+6):=by
  rw[Nat.pow_add,Nat.mul_comm];exact nN (Nat.mul_le_mul_left x (show n-1<=2^6 by omega)) (Nat.mul_lt_mul_of_pos_right a6 (by decide))
 have aq:p / x^(n-1)<2^K:=nN (Nat.div_le_self _ _) hpK;have ao:(n-1)*x+p / x^(n-1)<2^(K+7):=by
  have:2^(K+7)=2^(K+6)+2^(K+6):=by rw[show K+7=K+6+1 by omega,Nat.pow_succ];omega
  have h2:2^K<=2^(K+6):=Nat.pow_le_pow_right (by decide) om;omega
 refine ρ ?_;rw[aa,Yp (z:=((n-1:Nat):Int)) om];refine cl (Xa (n-1) om _) ?_;rintro m7 w7 ⟨aw,Z⟩;have b3:=G.trans (y.trans Z);refine ρ ?_;refine cl (Vg aw.1 (hX.ext (a1.trans (F.trans (y.trans Z)))) (by have:=Qs (n:=n-1) om;omega) ad) ?_;rintro m8 w8 ⟨av,_,a7⟩;refine ρ ?_;refine cl (Qfl av ((hq.ext Z).ext a7).1 (Yj ap om) (Yj aq om)) ?_;rintro m9 w9 ⟨au,ai⟩;refine ρ ?_;rw[Yp (z:=(n:Int)) om];refine cl (Xa n om _) ?_;rintro bb b9 ⟨ac,a2⟩;refine ρ ?_;refine cl (Jjc (au.ext a2) ac.1 (Yj ao om) om om) ?_;rintro _ b8 ⟨⟨nv,ba,rfl,a5,b4⟩,a9⟩;have D:=Z.trans (a7.trans (ai.trans (a2.trans a9)));have J:=G.trans (y.trans D);have a3:=hX.ext (a1.trans (F.trans (y.trans D)));have an:((n-1)*x+p / x^(n-1)) / n=Nw.step p n x:=rfl;rw[an]at a5;refine ρ ?_;refine cl (Jxf a5.1 a3) ?_
 rintro _ b7 ⟨rfl,j⟩;refine ρ ?_;refine ci (λO=>?_) (λO=>?_)
 .have az:x<=Nw.step p n x:=by
   have:=oT O;unfold Vm at this;split at this
   .omega
   omega
  refine ρ ?_;exact Jq ⟨⟨x,a3.ext j,Qwf om U az,ar⟩,J.trans j⟩
 have ae:Nw.step p n x<x:=by
  have:=oF O;unfold Vm at this;split at this
  .assumption
  split at this<;>omega
 refine ρ ?_;exact Ja (Nw.step p n x) nv sB ⟨J.trans j,(a5.ext j).1,Qwg om om U,om,Jhg om U⟩ ae
open Go.RowKit Pl Go.Wk Bl Nw
variable {K n p sc:Nat}{P1 Q1 Q2 SA:Option Addr}{v vW:Value}{w:World}
theorem Qvw(hv:NatV w v p)(hn:1<=n)(hn64:n<=64)(hK:K<=29000)(hK6:7<=K)(hL:Jw p+n<=K)(hdiv:DivC K): Ret Tryz.prog 59 [v,.int .i64 (n:Int)] w λu w'=>(∃ r,NatV w' u r/\Jzg p n r)/\Ext w w':=by
 have F:p<2^K:=nM Yu (Nat.pow_le_pow_right (by decide) om);have y:=Yj F om;have O:=Yu (x:=p);refine Jz Tryz.func59 Tryz.ntmps59 rfl kr rfl ?_;refine ρ ?_;refine cl (Yd hv y) ?_;rintro _ w1 ⟨rfl,rfl⟩;refine ρ ?_;by_cases h1:Jw p<=1
 .have a1:p<=1:=by
   have:2^Jw p<=2^1:=Nat.pow_le_pow_right (by decide) h1;omega
  refine kt 14 ?_ ?_
  .exact decide_eq_true om
  refine ρ ?_;refine cl (Jnn hv y) ?_;rintro u w2 ⟨D,i⟩;refine ρ ?_;refine Jq ⟨⟨p,D,?_⟩,i⟩;rcases(show p=0∨p=1 by omega) with rfl|rfl
  .exact⟨by rw[Nat.zero_pow om];exact nR _,by rw[Nat.zero_add,Nat.one_pow];decide⟩
  exact⟨by rw[Nat.one_pow];exact nR _,Nat.lt_of_lt_of_le (show 1<(1+1)^1 by decide) (Nat.pow_le_pow_right (by decide) hn)⟩
 refine kf 14 ?_ ?_
 .exact dF om
 refine ρ ?_;refine ci (λj=>?_) (λj=>?_)
 .have J:n=1:=by have:=eq_of_beq j;omega
  subst J;refine ρ ?_;refine cl (Jnn hv y) ?_;rintro u w2 ⟨D,i⟩;refine ρ ?_;exact Jq ⟨⟨p,D,by rw[Nat.pow_one];exact nR _,by rw[Nat.pow_one];omega⟩,i⟩
 have a2:n≠1:=λe=>by rw[e]at j;revert j;decide
 have Z:2<=p:=by
  rcases(show p=0∨p=1∨2<=p by omega) with rfl|rfl|h
  .exact absurd (show Jw 0<=1 by decide) h1
  .exact absurd (show Jw 1<=1 by decide) h1
  exact h
 clear j;refine ρ ?_;refine ci (λj=>?_) (λj=>?_)
 .have G:Jw p<=n:=by have:=oT j;omega
  refine ρ ?_;refine cl (Xa 1 (by decide) _) ?_;rintro o w2 ⟨ho,i⟩;refine ρ ?_;exact Jq ⟨⟨1,ho.1,by rw[Nat.one_pow];omega,Nat.lt_of_lt_of_le O (Nat.pow_le_pow_right (by decide) G)⟩,i⟩
 clear j;refine ρ ?_;refine ci (λj=>?_) (λj=>?_)
 .refine ρ ?_;refine cl (Qfg hv om hn64 om hK hK6 F ?_ hdiv) ?_
  .rw[<-Nat.pow_mul];refine Nat.pow_lt_pow_right (by decide) ?_;have h3:=Nat.div_mul_le_self (Jw p+n-1) n;have h4:(Jw p+n-1) / n*(n-1)<=(Jw p+n-1) / n*n:=Nat.mul_le_mul_left _ om;omega
  rintro u w2 ⟨⟨r,D,U⟩,i⟩;refine ρ ?_;exact Jq ⟨⟨r,D,U⟩,i⟩
 exfalso
 have:=oF j;omega
theorem Qrg{b:Bool}{P2 P3 m1 c1 m2 c2 K2:Nat}{ws:List PR}{sizes:List Nat}(hW:GX 3 RtC Nn w vW ws)(hS:Rd w 1 SA sizes.length (Jt (nz sizes)))(hn:∀ q∈ws,0<=q.sign/\q.num<18446744073709551616)(hd:∀ i,i<=ws.length->dnK ws i<4294967296)(hq:∀ q∈ws,q.num<18446744073709551616/\q.den<4294967296/\0<q.norm.den/\q.norm.den<4294967296)(hd1:1<=dnm ws)(hd64:dnm ws<=64)(ho:PrOk ws sizes (dnm ws) K)(hK:K2<=29000)(hK6:7<=K2)(hL:Jw (Kq ws sizes (dnm ws))+dnm ws<=K2)(hdiv:DivC K2):
  Ret Tryz.prog 28 [.agg #[vW,.slice P1 P2 P3,.bool b,.slice Q1 m1 c1,.slice Q2 m2 c2],.slice SA sizes.length sc] w λu w'=>(∃ v r,u=.tuple #[v,.int .i64 0]/\NatV w' v r/\Jzg (Kq ws sizes (dnm ws)) (dnm ws) r)/\Ext w w':=by
 obtain⟨W1,W2,_,rfl,_,a4,a6,_,a7⟩:=id hW.el;refine Jz Tryz.func28 Tryz.ntmps28 rfl kr rfl ?_;refine ρ ?_;refine bx (cs:=[.slice W1 ws.length W2,.slice P1 P2 P3,.bool b,.slice Q1 m1 c1,.slice Q2 m2 c2]) ?_;intro w1 b1 G a5 J;refine ρ ?_;refine lds (cs:=[.slice W1 ws.length W2,.slice P1 P2 P3,.bool b,.slice Q1 m1 c1,.slice Q2 m2 c2]) (λj u hu=>J.at hu) ?_;refine ρ ?_;refine cl (Qpw (hW.ext RtC.sta (by decide) G) (hS.ext G) ho.len hn) ?_;rintro _ w2 ⟨rfl,F⟩;refine ρ ?_;refine ld ((J.ext F).at (i:=0) rfl) ?_;have D:=G.trans F;refine ρ ?_;refine cl (Qnc (hW.ext RtC.sta (by decide) D) hd hq) ?_;rintro dv w3 ⟨U,O⟩;refine ρ ?_;refine cl (Jsk U.1 om) ?_;rintro _ w4 ⟨rfl,rfl⟩;refine ρ ?_;refine ld (((J.ext F).ext O).at (i:=0) rfl) ?_;have y:=D.trans O;refine ρ ?_;refine cl (Qbn (hW.ext RtC.sta (by decide) y) U (hS.ext y) ho) ?_;rintro _ w5 ⟨⟨pv,rfl,a2⟩,a1⟩
 refine ρ ?_;refine cl (Qvw a2.1 hd1 hd64 hK hK6 hL hdiv) ?_;rintro rv w6 ⟨⟨r,hr,a3⟩,Z⟩;refine ρ ?_;exact Xx ⟨⟨_,r,rfl,hr,a3⟩,y.trans (a1.trans Z)⟩
open Go.RowKit Pl Go.Wk Bl Nw
variable {c sc:Nat}{A P1 Q1 Q2 SA:Option Addr}{w:World}
abbrev hlf: PR:=⟨false,1,2⟩
theorem Qzw: cvr 216 3 [3,6,5] 7=some ⟨[hlf,hlf,hlf],[hlf,hlf,hlf],⟨false,3,2⟩⟩:=by decide +kernel
theorem Jqh: dnm [hlf,hlf,hlf]=2:=by decide +kernel
theorem Jgx: Kq [hlf,hlf,hlf] [4,4,4] 2=64:=by decide +kernel
theorem Qzx: Covd 3 [3,6,5] 7:=by
 intro v i _;rcases(show v=0∨v=1∨v=2 by omega) with rfl|rfl|rfl
 .exact⟨0,by decide,by decide⟩
 .exact⟨0,by decide,by decide⟩
 exact⟨1,by decide,by decide⟩
theorem Qkb(h:GrV w A c 3 [3,6,5]): Ret Tryz.prog 27 [.agg (grC A c 3 [3,6,5]).toArray,.int .u32 7] w λu w'=>∃ W P q1 q2,u=.tuple #[.agg #[W,P,.bool false,q1,q2],.int .i64 0]/\GX 3 RtC Nn w' W [hlf,hlf,hlf]/\GX 3 RtC Nn w' P [hlf,hlf,hlf]/\NatX Nn w' q1 3/\NatX Nn w' q2 2/\Ext w w' :=
 Qnh (set:=7) h (by decide) (by decide) (by decide) Qzx (by decide +kernel) Qzw
theorem Qlg: EOk hlf 2:=⟨by decide,by decide,by decide,by decide +kernel,by decide +kernel,by decide +kernel,by decide +kernel,by decide +kernel,by decide +kernel⟩
theorem Qzv: PrOk [hlf,hlf,hlf] [4,4,4] 2 32:=by
 refine⟨by decide,rfl,λq u=>?_,λs j=>?_,λi hi=>?_,λi y D=>?_⟩
 .simp only[List.mem_cons,List.not_mem_nil,or_false,or_self]at u;rw[u];exact Qlg
 .simp only[List.mem_cons,List.not_mem_nil,or_false,or_self]at j;rw[j];decide
 .have hi:i<=3:=hi;rcases(show i=0∨i=1∨i=2∨i=3 by omega) with rfl|rfl|rfl|rfl<;>decide +kernel
 have y:i<3:=y;have e:4^Kc hlf 2<2^32:=by decide +kernel
 rcases(show i=0∨i=1∨i=2 by omega) with rfl|rfl|rfl<;>exact e
theorem Qkf{vW:Value}{b:Bool}{P2 P3 m1 c1 m2 c2:Nat}(hW:GX 3 RtC Nn w vW [hlf,hlf,hlf])(hS:Rd w 1 SA 3 (Jt [4,4,4])):
  Ret Tryz.prog 28 [.agg #[vW,.slice P1 P2 P3,.bool b,.slice Q1 m1 c1,.slice Q2 m2 c2],.slice SA 3 sc] w λu w'=>(∃ v,u=.tuple #[v,.int .i64 0]/\NatV w' v 8)/\Ext w w':=by
 have D:∀ q∈[hlf,hlf,hlf],q=hlf:=λq j=>by
  simp only[List.mem_cons,List.not_mem_nil,or_false,or_self]at j;exact j
 refine(Qrg (sizes:=[4,4,4]) (K:=32) (K2:=32) hW hS (λq j=>by rw[D q j];decide +kernel) (λi hi=>?_) (λq j=>by rw[D q j];decide +kernel) (by rw[Jqh];decide) (by rw[Jqh];decide) (by rw[Jqh];exact Qzv) (by decide) (by decide) (by rw[Jqh,Jgx];decide) Qmr).mono λu w' ⟨⟨v,r,e,G,y⟩,F⟩=>⟨⟨v,e,?_⟩,F⟩
 .have hi:i<=3:=hi;rcases(show i=0∨i=1∨i=2∨i=3 by omega) with rfl|rfl|rfl|rfl<;>decide +kernel
 rw[Jqh,Jgx]at y;have:r=8:=Qvv y ⟨by decide,by decide⟩;rw[<-this];exact G
open Go.RowKit Pl Go.Wk Bl
variable {N N':Nat->Prop}{r:Row}{v vx:Value}{w w':World}
theorem ERf: ElT Tryz.prog 54 141 3 32 (.agg #[.int .i64 0,.int .i64 0,.string ⟨#[]⟩]):=⟨Tryz.underlying54,info_parts kr,rfl,by decide⟩
theorem Jjt: ElT Tryz.prog 44 54 1 24 (.slice none 0 0):=⟨Tryz.underlying44,info_parts kr,rfl,by decide⟩
theorem Jdt(v:V)(w:World): (Instr.buildSlice 54 1 #[(0,v.val)]).run Tryz.prog w=.ok (.slice (some ⟨w.heap.size,0,none⟩) 1 1) (w.alloc (.cells v.cells.toArray 141)):=kr
theorem Qjh(A:Option Addr)(n c:Nat)(w:World): (Instr.buildSlice 44 1 #[(0,.slice A n c)]).run Tryz.prog w=.ok (.slice (some ⟨w.heap.size,0,none⟩) 1 1) (w.alloc (.cells #[.slice A n c] 54)):=kr
theorem Kk{base:Nat}{e:TypeId}{sz n:Nat}{cs:List Value}(h:w.ownsRow base e sz v n cs): ∀ g,v.ownBlock=some g->base<=g:=λg i=>by
 obtain⟨_,_,_,_,j⟩:=Jy h;exact(j g i).1
theorem Jqp(a b:Row): Jr (a++b)=Jr a++Jr b:=by simp[Jr]
theorem Jqn(v:V): Jr [v]=v.cells:=by simp[Jr]
abbrev OwnF(w:World)(base:Nat)(v:Value)(q:Row): Prop:=w.ownsRow base 141 3 v q.length (Jr q)
theorem Qyc{x:Row}(hx:RowV w vx x)(hl:x.length<=100000): Ret Tryz.prog 48 [vx] w λu w'=>OwnF w' w.heap.size u x/\Ext w w':=by
 obtain⟨A,c,rfl,ae,ad,hR⟩:=hx;refine Jz Tryz.func48 Tryz.ntmps48 rfl kr rfl ?_;refine ρ ?_;refine Qw (fun (k:Nat) (G:Value)=>[(3,G),(6,.slice A x.length c),(7,.int .i64 (x.length:Int)),(8,.int .i64 (k:Int))])
  (λk G w'=>k<=x.length/\Ext w w'/\OwnF w' w.heap.size G (x.take k)) (λk _=>x.length-k) 0 (.slice none 0 0) sB
  ⟨Nat.zero_le _,Ext.refl _,Qo _ _ _ _⟩ ?_
 rintro k G w1 ⟨hk,y,J⟩;refine ρ ?_;refine ci (λh=>?_) (λh=>?_)
 .have lk:k<x.length:=by have:=oT h;omega
  clear h;have F:RdR w1 A x:=Rd.ext hR y;refine ρ ?_;refine ixq 3 k F lk ?_;refine ρ ?_;refine lds (cs:=(x.getD k V0).cells) (λj u hu=>RdR.cell F lk hu) ?_;refine ρ ?_;refine alc Jjv ?_;intro w2 b2 Z a5 a8;refine ρ ?_;refine stb (cs':=(x.getD k V0).cells) a8 ?_ (V.one _);intro w3 a7 ac U;have D:Ext w1 w3:=U w1 Z a5;refine ρ ?_;refine lds (cs:=(x.getD k V0).cells) (λj u hu=>a7.at hu) ?_;refine ρ ?_;refine bsl (Jdt _) ?_;intro w4 b4 O af a6;have a1:x.take (k+1)=x.take k++[x.getD k V0]:=by rw[List.take_add_one,List.getElem?_eq_getElem lk];simp[List.getD,List.getElem?_eq_getElem lk]
  have aa:(x.take k).length=k:=by rw[List.length_take];omega
  have i:=D.trans O;refine ρ ?_;refine apb (m':=1) (news:=(x.getD k V0).cells) ERf (Jv J i) (a6.rd (n:=1) rfl) (V.one _) (by unfold maxLen;omega) om (y.trans i).size ?_;intro v5 w5 a2 a4 a9;refine ρ ?_;refine Ja (k+1) v5 sO ⟨lk,Jh (y.trans i) a4 (Kk (Jv J i)),?_⟩ om;rw[OwnF,a1,List.length_append,Jqp,Jqn];exact a2
 have a3:k=x.length:=by have:=oF h;omega
 subst a3;rw[List.take_length]at J;refine ρ ?_;exact Jq ⟨J,y⟩
def RfC: (Nat->Prop)->World->List Value->Row->Prop:=λN w cs r=>∃ v,cs=[v]/\RowX w N v r
theorem RowX.grN(h:RowX w N v r)(hg:GrN N w w'): RowX w' N v r:=by
 obtain⟨A,c,e,y,u,j,i⟩:=h;exact⟨A,c,e,y,u,Zm j hg λh0 F D=>i (λe=>by subst e;exact absurd h0 (by decide)) F D,i⟩
theorem RowX.oldN(h:RowX w N v r)(hN:∀ k,N' k->N k∨w.heap.size<=k): RowX w N' v r:=by
 obtain⟨A,c,e,G,F,u,D⟩:=h;refine⟨A,c,e,G,F,u,λh0 O y i=>?_⟩;rcases hN _ i with i|i
 .exact D h0 O y i
 obtain⟨J,j,U⟩:=Rd.isome u (List.length_pos_iff.2 h0) (by decide);rw[y]at j;injection j with j
 subst j;omega
theorem RfC.sta: Sta RfC:=⟨λ⟨v,e,h⟩ i=>⟨v,e,h.grN i⟩,λ⟨v,e,h⟩ j=>⟨v,e,h.oldN j⟩⟩
theorem OwnF.x(h:OwnF w' w.heap.size v r)(hl:r.length<=1100000): RowX w' (Ol w) v r:=by
 obtain⟨A,c,e,y,u⟩:=Jy h;subst e;refine⟨A,c,rfl,y,hl,Rd.own h,λh0 i D j=>?_⟩;have:=(u i.block (by rw[D];rfl)).1;exact absurd (show i.block<w.heap.size from j) om
theorem Jlp{ls:List Row}(hx:RowsV w vx ls)(hl:∀ r∈ls,r.length<=100000): Ret Tryz.prog 25 [vx] w λu w'=>OX 54 1 RfC (Ov w u) w' w.heap.size u ls/\Ext w w':=by
 obtain⟨ps,A,c,rfl,rfl,ac,aa,hR,J⟩:=hx;refine Jz Tryz.func25 Tryz.ntmps25 rfl kr rfl ?_;refine ρ ?_;refine Qw (fun (k:Nat) (F:Value)=>[(3,F),(6,.slice A ps.length c),(7,.int .i64 (ps.length:Int)),(8,.int .i64 (k:Int))])
  (λk F w'=>k<=ps.length/\Ext w w'/\OX 54 1 RfC (Ov w F) w' w.heap.size F ((ps.map (·.2)).take k)) (λk _=>ps.length-k) 0 (.slice none 0 0) sB
  ⟨Nat.zero_le _,Ext.refl _,OX.nil _ _⟩ ?_
 rintro k F w1 ⟨hk,j,Z⟩;refine ρ ?_;refine ci (λh=>?_) (λh=>?_)
 .have lk:k<ps.length:=by have:=oT h;omega
  clear h;have D:(ps.map (·.1))[k]?=some ps[k].1:=by simp[List.getElem?_eq_getElem lk]
  refine ρ ?_;refine ix k (hR.ext j) lk ?_;refine ρ ?_;refine ld ((hR.ext j).cell D) ?_;refine ρ ?_;refine cl (Qyc ((J _ (List.getElem_mem lk)).ext j) (hl _ (List.mem_map.2 ⟨_,List.getElem_mem lk,rfl⟩))) ?_;rintro r w2 ⟨hr,a1⟩;have a9:=hl _ (List.mem_map.2 ⟨_,List.getElem_mem lk,rfl⟩);have a3:=OwnF.x hr om;obtain⟨B,bc,eB,_,_⟩:=Jy hr;subst eB;refine ρ ?_;refine bsl (Qjh _ _ _) ?_;intro w3 b3 G ad a8;have y:=a1.trans G;have a4:=(Z.ext RfC.sta y).old RfC.sta (N':=λq=>Ov w F q∨w3.heap.size<=q) λq i=>i;obtain⟨_,_,_,_,O⟩:=id Z.form;refine ρ ?_;refine apX Jjt RfC.sta a4 a8 rfl (λu hu=>by rw[List.mem_singleton.1 hu];rfl) ⟨_,rfl,(a3.grN (GrN.ext G)).oldN λq i=>?_⟩ (λg hg=>.inl (.inr hg)) (by simp;omega) (by decide) (j.trans y).size ?_
  .rcases i with(i|i)|i
   .exact .inl (nM i j.size)
   .exact .inl (O q i).2
   exact .inr i
  intro v4 w4 U a7 a5;have a2:(ps.map (·.2)).take k++[ps[k].2]=(ps.map (·.2)).take (k+1):=by rw[List.take_add_one,List.getElem?_map,List.getElem?_eq_getElem lk];rfl
  rw[a2]at U;refine ρ ?_;exact Ja (k+1) v4 sO ⟨lk,Jh (j.trans y) a7 λq e=>(O q e).1,U.old RfC.sta λq i=>.inl (i.elim (λi=>.inl (.inl i)) λi=>(a5 q i).elim (λi=>.inl (.inr i)) .inr)⟩ om
 have a6:k=ps.length:=by have:=oF h;omega
 subst a6;rw[show ps.length=(ps.map (·.2)).length by simp,List.take_length]at Z
 refine ρ ?_;exact Jq ⟨Z,j⟩
end Go.Proofs.YtebiphhfkdbpfaaGreat
namespace Go.Wk
open Go.RowKit
variable {id n:Nat}{w:World}
theorem Off.old'{N N':Nat->Prop}{Φ:World->Prop}(h:Off N w Φ)(hN:∀ k,N' k->N k∨w.heap.size<=k): Off N' w Φ:=λw2 i=>h w2 (i.mono λk j hn=>(hN k hn).elim id λh=>om)
theorem Qxg{P:Program}{al:AL}{Q Q':Exit->Act->World->Prop}{α:Type}{c d:Code}(fr:α->AL)(I:α->World->Prop)(h1:WC P n c (Exit.inBlock id (Exit.then (λa w=>∃ x,Fr n (fr x) a/\I x w) Q)) al w)(h2:∀ x w,I x w->WC P n d Q' (fr x) w):
  WC P n c (Exit.inBlock id (Exit.then (d.wp P Q') Q)) al w:=by
 intro a D;refine wp_mono (h1 a D) ?_;intro e y w' i;cases e with
 | normal=>obtain⟨x,u,j⟩:=i;exact h2 x w' j y u
 | exit id'=>
  by_cases e:id'=id
  .simp only[Exit.inBlock,e,if_true]at i ⊢;obtain⟨x,u,j⟩:=i;exact h2 x w' j y u
  simp only[Exit.inBlock,e,if_false]at i ⊢;exact i
 | goto l=>exact i
 | ret=>exact i
 | panic c=>exact i
 | outgrown=>exact i
end Go.Wk
namespace Go.Proofs.YtebiphhfkdbpfaaGreat
open Go.RowKit Pl Go.Wk Bl
attribute [local irreducible] WC WL QX WD WDB WP WN WG WH
theorem Qjb{s v:Nat}(hv:v<8): ((((s:Int)).fdiv (2^(min ((v:Nat):Int).toNat 8))).tmod 2 == 1)=s.testBit v:=by
 have e:((s:Int)).fdiv (2^(min ((v:Nat):Int).toNat 8))=((s / 2^v:Nat):Int):=by
  rw[Gr s v 8,Nat.min_eq_left om]
 rw[e];have i:(((s / 2^v:Nat):Int)).tmod 2=((s / 2^v % 2:Nat):Int):=rfl;rw[i,Nat.testBit_eq_decide_div_mod_eq];by_cases h:s / 2^v % 2=1
 .rw[h];rfl
 have:s / 2^v % 2=0:=om
 rw[this];rfl
structure LA where
 vars: Nat
 rows:List (List Nat)
 bad:Nat
def u8C(l:List Nat): List Value:=l.map fun (x:Nat)=>Value.int .u8 (x:Int)
def U8R(N:Nat->Prop)(w:World)(cs:List Value)(r:List Nat): Prop:=cs=u8C r/\r.length=4/\∀ x∈r,x<256
theorem U8R.sta: Sta U8R:=⟨λh _=>h,λh _=>h⟩
def LaC(N:Nat->Prop)(w:World)(cs:List Value)(a:LA): Prop:=a.vars<256/\a.bad<256/\∃ v,cs=[.int .u8 (a.vars:Int),v,.int .u8 (a.bad:Int)]/\GX 4 U8R N w v a.rows
theorem LaC.sta: Sta LaC:=⟨λ⟨j,i,v,e,h⟩ u=>⟨j,i,v,e,h.gr U8R.sta (by decide) u⟩,λ⟨j,i,v,e,h⟩ y=>⟨j,i,v,e,h.old U8R.sta (by decide) y⟩⟩
def AtC(N:Nat->Prop)(w:World)(cs:List Value)(a:Atm): Prop:=∃ t:V3,cs=t.cells/\Off N w λw=>AtV w t a
theorem AtC.sta: Sta AtC:=⟨λ⟨t,e,h⟩ i=>⟨t,e,h.gr i⟩,λ⟨t,e,h⟩ j=>⟨t,e,h.old' j⟩⟩
structure RA where
 vars: List Int
 rows:List Row
def RaC(N:Nat->Prop)(w:World)(cs:List Value)(a:RA): Prop:=∃ v1 v2,cs=[v1,v2]/\Off N w λw=>IntsV w v1 a.vars/\RowsV w v2 a.rows
theorem RaC.sta: Sta RaC:=⟨λ⟨j,i,e,h⟩ u=>⟨j,i,e,h.gr u⟩,λ⟨j,i,e,h⟩ y=>⟨j,i,e,h.old' y⟩⟩
def lvs(a:LA): List Nat:=Jb 8 a.vars
def Xo(n:Nat)(y:List Nat): Row:=(List.range n).map λi=>⟨1,((y.getD i 0 % 4:Nat):Int),⟨#[]⟩⟩
def Qf(a:LA): List Int:=if a.bad=0 then nz (lvs a) else if a.bad=1 then nz (lvs a)++[9] else if a.bad=2 then nz (lvs a)++[0] else -1::nz (lvs a)
def LA.fits(a:LA): Prop:=(lvs a).length<=4/\a.rows.length<=12
end Go.Proofs.YtebiphhfkdbpfaaGreat
