/- Part 6. -/
import Derived.Test.YtebiphhfkdbpfaaGreatP05
set_option linter.unusedVariables false
set_option maxRecDepth 100000
set_option maxHeartbeats 40000000
namespace Go.Proofs.YtebiphhfkdbpfaaGreat
open Go.RowKit Pl Go.Wk Bl
attribute [local irreducible] WC WL QX WD WDB WP WN WG WH
variable {A:List (List PR)}{g:List PR}{b base i n:Nat}{N:Nat->Prop}{vA vB vC vb vg vr:Value}{w:World}
theorem Qqf(hC:GX 3 RtC N w vC (List.replicate n (PR.int 1)))(hA:GX 1 MxC N w vA A)(hB:GX 3 RtC N w vB (List.replicate A.length (PR.int 1)))(hbin:Bin n A)(hm:A.length<=64):
  Ret Tryz.prog 81 [.agg #[vC,vA,vB]] w λu w'=>u=.bool true/\Ext w w':=by
 obtain⟨CA,cc,_,rfl,O,_,_,_,_⟩:=id hC.el;obtain⟨AA,ac,_,rfl,a8,_,a4,_,a3⟩:=id hA.el;obtain⟨BA,bc,_,rfl,U,_,a2,_,a1⟩:=id hB.el;simp only[List.length_replicate]at hC hB O U a2 a1 ⊢;refine Jz Tryz.func81 Tryz.ntmps81 rfl kr rfl ?_;refine ρ ?_;refine bx ?_;intro w1 b1 D a7 y;refine ρ ?_;refine ld (y.at (i:=1) rfl) ?_;refine ρ ?_;refine ld (y.at (i:=2) rfl) ?_;refine ρ ?_;refine cf ?_ ?_
 .simp
 refine ρ ?_;refine ld (y.at (i:=1) rfl) ?_;refine ρ ?_;refine Jh (fun (i:Nat)=>[(1,.pointer (some ⟨b1,0,none⟩)),(13,.slice AA A.length ac),(14,.int .i64 (A.length:Int)),(15,.int .i64 (i:Int))]) (λi w'=>i<=A.length/\w'=w1) (λi=>A.length-i) 0 sB ⟨Nat.zero_le _,rfl⟩ ?_;rintro i w2 ⟨hi,rfl⟩;refine ρ ?_;refine ci (λh=>?_) (λh=>?_)
 .have j:i<A.length:=by have:=oT h;omega
  clear h;obtain⟨ce,a6,⟨va,rfl,hG⟩,G⟩:=a3 i j;obtain⟨K,kc,_,rfl,a5,_,_,_,_⟩:=id hG.el;have J:=(hbin i j).1;have Z:A.getD i []=A[i]:=by simp[List.getD,List.getElem?_eq_getElem j]
  rw[Z]at J;rw[J]at G;have F:w2.cell? (adr AA i)=some (.slice K n kc):=by
   have:=Xx D (G 0 _ rfl);rwa [Nat.mul_one,add_zero]at this
  refine ρ ?_;refine ix i (a4.ext D) j ?_;refine ρ ?_;refine ld F ?_;refine ρ ?_;refine ld (y.at (i:=0) rfl) ?_;refine ρ ?_;refine cf ?_ ?_
  .simp
  refine ρ ?_;exact Jg (i+1) sO ⟨om,rfl⟩ om
 refine ρ ?_;exact Jq ⟨rfl,D⟩
theorem Qyw(hbin:Bin n A)(hi:i<A.length): ((PT.ofP n A).rows.getD i []).getD (n+A.length+1) pr0=PR.int 1:=by
 rw[Ib hbin.rok i _ hi,if_neg om,if_neg om,if_neg om,if_pos rfl]
theorem Qyv(hbin:Bin n A)(hi:i<A.length): ((PT.ofP n A).rows.getD i []).length=n+A.length+2:=by
 rw[Jqk i hi,List.length_append,List.length_append,(hbin i hi).1,List.length_map,List.length_range];rfl
theorem Qfz(hT:TbV w base b vr vg vb ⟨n,A.length,(PT.ofP n A).rows,g,(PT.ofP n A).basis⟩)(hbin:Bin n A)(hn:n<=64)(hm:A.length<=64):
  Ret Tryz.prog 83 [.pointer (some ⟨b,0,none⟩)] w λu w'=>u=.bool true/\Ext w w':=by
 have U:(PT.ofP n A).rows.length=A.length:=by simp[PT.ofP]
 obtain⟨R,rc,_,ev,aj,a7,a6⟩:=id hT.rows.el;simp only[U]at ev a7 a6;subst ev;refine Jz Tryz.func83 Tryz.ntmps83 rfl kr rfl ?_;refine ρ ?_;refine ld (hT.blk.at (i:=2) rfl) ?_;refine ρ ?_;refine Jh (fun (k:Nat)=>[(0,.pointer (some ⟨b,0,none⟩)),(3,.int .i64 (-1)),(13,.slice R A.length rc),(14,.int .i64 (A.length:Int)),(15,.int .i64 (k:Int))]) (λk w'=>k<=A.length/\Ext w w') (λk=>A.length-k) 0 sB ⟨Nat.zero_le _,Ext.refl _⟩ ?_;rintro k w1 ⟨hk,y⟩;refine ρ ?_;refine ci (λh=>?_) (λh=>?_)
 .have D:k<A.length:=by have:=oT h;omega
  clear h;obtain⟨ce,an,⟨vk,rfl,a9⟩,a5⟩:=a6 k D;have af:(PT.ofP n A).rows[k]'(by rw[U];exact D)=(PT.ofP n A).rows.getD k []:=by simp[List.getD,List.getElem?_eq_getElem (show k<(PT.ofP n A).rows.length by rw[U];exact D)]
  rw[af]at a9;have F:=Qyv hbin D;have ae:=Qyw hbin D;generalize (PT.ofP n A).rows.getD k []=row at *
  obtain⟨K,kc,_,rfl,ak,_,a8,_,ah⟩:=id a9.el;rw[F]at a5 a8;have a4:w1.cell? (adr R k)=some (.slice K (n+A.length+2) kc):=by
   have:=Xx y (a5 0 _ rfl);rwa [Nat.mul_one,add_zero]at this
  obtain⟨cr,_,a2,a3⟩:=ah (n+A.length+1) (by rw[F];omega);have er:row[n+A.length+1]'(by rw[F];omega)=PR.int 1:=by rw[<-ae];simp[List.getD,List.getElem?_eq_getElem (show n+A.length+1<row.length by rw[F];omega)]
  rw[er]at a2;obtain⟨F1,f1,F2,f2,rfl,ad⟩:=a2.sl;refine ρ ?_;refine ix k (a7.ext y) D ?_;refine ρ ?_;refine ld a4 ?_;refine ρ ?_;refine cl (Gf (n:=n) (m:=A.length) (hT.blk.ext y) rfl rfl om om) ?_;rintro _ w2 ⟨rfl,O⟩;refine ρ ?_;refine ixq 3 (n+A.length+1) ((a8.ext y).ext O) om ?_;refine ρ ?_;refine lds (λj u hu=>Xx (y.trans O) (a3 j u hu)) ?_;refine ρ ?_;refine alc Ze ?_;intro w3 b6 ac ag ai;refine ρ ?_;refine stb (cs':=[.bool (PR.int 1).neg,.slice F1 _ f1,.slice F2 _ f2]) ai ?_ (Qq rfl rfl rfl);intro w4 aa am ab;have a1:Ext w2 w4:=ab w2 ac ag;have G:=(y.trans O).trans a1;have J:Ext w4 w4.drew:=(Ext.refl w4).drew;refine ρ ?_;refine dr [(0,0),(1,1),(0,2),(0,3),(0,4),(0,5),(0,6),(0,7),(0,8),(0,9),(0,10),(0,11),(0,12),(0,13),(0,14),(0,15),(1,16),(0,17),(0,18),(1,19),(0,20),(0,21),(0,22)] kr ?_;refine ρd ?_;refine Qj (λj u hu=>(aa.ext J).at hu) ?_
  refine ρd ?_;refine dcl (Uk (ad.ext (G.trans J)) (by have:=Qm (n:=(PR.int 1).num) (by decide);omega)) ?_;rintro _ w5 ⟨rfl,Z⟩;refine⟨Z,?_⟩;refine ρd ?_;refine ρ ?_;exact Jg (k+1) sO ⟨om,(G.trans J).trans Z⟩ om
 refine ρ ?_;exact Jq ⟨rfl,y⟩
theorem Qyx: (PT.ofP n A).goal=mix (List.replicate n (PR.int (-1))++List.replicate (A.length+2) pr0) (List.replicate (n+A.length+2) pr0) n:=by
 unfold mix PT.ofP;simp only;rw[List.take_append_of_le_length (by simp),List.take_of_length_le (by simp),List.drop_replicate,show n+A.length+2-n=A.length+2 by omega]
theorem Qbc(hT:TbV w base b vr vg vb ⟨n,A.length,(PT.ofP n A).rows,g,(PT.ofP n A).basis⟩)(hC:GX 3 RtC N w vC (List.replicate n (PR.int 1)))(hNC:∀ k,TN b vr vb k->N k)(hbin:Bin n A)(hn:n<=64)(hm:A.length<=64):
  Ret Tryz.prog 85 [.pointer (some ⟨b,0,none⟩),vC] w λu w'=>u=.tuple #[]/\∃ vg',TbV w' base b vr vg' vb (PT.ofP n A)/\GrN (TN b vr vb) w w':=by
 obtain⟨CA,cc,_,rfl,b2,_,be,_,bd⟩:=id hC.el;simp only[List.length_replicate]at hC b2 be bd ⊢;have a1:=hT.lt;refine Jz Tryz.func85 Tryz.ntmps85 rfl kr rfl ?_;refine ρ ?_;refine cl (Gf (n:=n) (m:=A.length) hT.blk rfl rfl om om) ?_;rintro _ w1 ⟨rfl,G⟩;refine ρ ?_;refine Go.Wk.kv 10 (u:=.int .i64 ((n+A.length+2:Nat):Int)) (congrArg (Value.int .i64) (show((n+A.length+1:Nat):Int)+1=_ by omega)) ?_;refine cl (Jxh (n+A.length+2) om w1) ?_;rintro u w2 ⟨hU,a3⟩;obtain⟨U,uc,_,eu,bj,_,_⟩:=id hU.el;rw[List.length_replicate]at eu;subst eu;obtain⟨_,_,_,_,Z⟩:=id hU.form;have af:=G.trans a3;have a7:=hT.ext G;generalize hu:Value.slice U (n+A.length+2) uc=u at *
 have bc:∀ k,(TN b vr vb k∨u.ownBlock=some k)->TN b vr vb k∨w1.heap.size<=k:=λk y=>y.elim .inl λh=>.inr (Z k h).1;have bb:=(a7.rows.old MxC.sta bc).ext MxC.sta a3;have b7:OX 84 3 RtC (λk=>TN b vr vb k∨u.ownBlock=some k) w2 w1.heap.size u (List.replicate (n+A.length+2) pr0):=hU.old RtC.sta λk y=>by
  rcases y with y|y
  .exact .inl (.inl (nM (a1 k y) G.size))
  exact .inl (.inr y)
 have ao:u.ownBlock≠some b:=λe=>by have:=(Z b e).1;have:=a7.blk.lt;omega
 have b9:=Jc a7.bas a3;have bh:=a7.blk.ext a3;refine ρ ?_;refine stF (i:=3) (v:=u) bh rfl ?_ rfl rfl rfl rfl rfl (by rw[<-hu];rfl);intro w3 bg ay;have O:GrN (λk=>k=b) w2 w3:=GrN.by ay λk y=>by injection y with y;exact y.symm
 have ba:=bb.gr MxC.sta O λk y=>⟨.inl (.inl y),λe=>hT.ne1 (by rw[e,y])⟩;have b6:=b7.gr RtC.sta O λk y=>⟨.inl (.inl y),λe=>ao (by rw[e,y])⟩;have b8:Qz w3 base vb (PT.ofP n A).basis:=Jo b9 O λg h1 h2=>hT.ne2 (by rw[h1,h2]);have am:GrN (TN b vr vb) w w3:=(GrN.ext af).trans (O.mono λk _ y=>.inl y);have aj:(List.replicate n (PR.int (-1))++List.replicate (A.length+2) pr0).length=(List.replicate (n+A.length+2) pr0).length:=by simp;omega
 refine ρ ?_;refine Jh (fun (j:Nat)=>[(0,.pointer (some ⟨b,0,none⟩)),(1,.slice CA n cc),(15,.int .i64 (n:Int)),(16,.int .i64 (j:Int))])
  (λj w'=>j<=n/\GrN (TN b vr vb) w w'/\Blk w' b 168 [.int .i64 (n:Int),.int .i64 (A.length:Int),vr,u,vb]/\OX 80 1 MxC (λk=>TN b vr vb k∨u.ownBlock=some k) w' base vr (PT.ofP n A).rows/\Qz w' base vb (PT.ofP n A).basis/\OX 84 3 RtC (λk=>TN b vr vb k∨u.ownBlock=some k) w' w1.heap.size u (mix (List.replicate n (PR.int (-1))++List.replicate (A.length+2) pr0) (List.replicate (n+A.length+2) pr0) j)) (λj=>n-j) 0 sB
  ⟨Nat.zero_le _,am,bg,ba,b8,by rw[Gt];exact b6⟩ ?_
 rintro j w4 ⟨hj,a4,ad,ac,ar,a6⟩;have ai:(mix (List.replicate n (PR.int (-1))++List.replicate (A.length+2) pr0) (List.replicate (n+A.length+2) pr0) j).length=n+A.length+2:=by rw[Uh aj (by simp;omega)];simp
 refine ρ ?_;refine ci (λh=>?_) (λh=>?_)
 .have J:j<n:=by have:=oT h;omega
  clear h;have aa:Ext w4 w4.drew:=(Ext.refl w4).drew;have bf:=(hC.gr RtC.sta (by decide) (a4.mono λk _ y=>hNC k y)).ext RtC.sta (by decide) aa;obtain⟨bo,bn,_,ev,_,_,a9,_,au⟩:=id bf.el;simp only[List.length_replicate]at ev a9;injection ev with ev1 ev2 ev3
  subst ev1;obtain⟨ce,_,an,b1⟩:=au j (by simpa using J);have e1:(List.replicate n (PR.int 1))[j]'(by simpa using J)=PR.int 1:=by simp
  simp only[e1]at an;obtain⟨F1,f1,F2,f2,rfl,b3⟩:=an.sl;have ag:(PR.int 1).opp=PR.int (-1):=by decide +kernel
  have av:=ad.ext aa;have aw:∀ {w':World} {ls:List PR},OX 84 3 RtC (λk=>TN b vr vb k∨u.ownBlock=some k) w' w1.heap.size u ls->ls.length=n+A.length+2->∃ cs,Rd w' 3 U (n+A.length+2) cs:=fun {w' ls} h hl=>by
   obtain⟨U',bi,cs,ev,_,hd,_⟩:=id h.el;rw[hl]at ev hd;rw[<-hu]at ev;injection ev with ev1 ev2 ev3
   subst ev1;exact⟨cs,hd⟩
  refine ρ ?_;refine dr [(0,0),(0,1),(0,2),(0,3),(0,4),(0,5),(0,6),(0,7),(0,8),(1,9),(0,10),(2,11)] kr ?_;refine ρd ?_;refine dld (v:=.slice U (n+A.length+2) uc) (by rw[hu];exact av.at (i:=3) rfl) ?_;refine ρd ?_;refine Qp 3 j a9 J ?_;refine ρd ?_;refine Qj (λk x hx=>b1 k x hx) ?_;refine ρd ?_;refine dcl (Jhh b3 (by decide) (by decide)) ?_;rintro r w5 ⟨hR,ae⟩;refine⟨ae,?_⟩;rw[ag]at hR;have F:=aa.trans ae;have ab:=a6.ext RtC.sta F;obtain⟨_,az⟩:=aw ab ai;obtain⟨G1,g1,G2,g2,rfl,b4⟩:=hR.cell;refine ρd ?_;refine Qp 3 j az om ?_;refine ρd ?_;refine Jf ?_;obtain⟨_,_,_,_,ap⟩:=id a6.form;have ak:∀ w1' ,OX 84 3 RtC (λk=>TN b vr vb k∨u.ownBlock=some k) w1' w1.heap.size u ((mix (List.replicate n (PR.int (-1))++List.replicate (A.length+2) pr0) (List.replicate (n+A.length+2) pr0) j).set j (PR.int (-1)))->w5.grownBy w1' u.ownBlock->GrN (TN b vr vb) w w1'/\Blk w1' b 168 [.int .i64 (n:Int),.int .i64 (A.length:Int),vr,u,vb]/\OX 80 1 MxC (λk=>TN b vr vb k∨u.ownBlock=some k) w1' base vr (PT.ofP n A).rows/\Qz w1' base vb (PT.ofP n A).basis/\OX 84 3 RtC (λk=>TN b vr vb k∨u.ownBlock=some k) w1' w1.heap.size u (mix (List.replicate n (PR.int (-1))++List.replicate (A.length+2) pr0) (List.replicate (n+A.length+2) pr0) (j+1)):=λw6 a5 D=>by
   rw[Ug aj (by simp;omega) (by rw[List.getElem?_append_left (by simpa using J)];simp[J])]at a5;have a8:GrN (λk=>u.ownBlock=some k) w5 w6:=GrN.by D λk y=>y
   refine⟨?_,?_,?_,?_,a5⟩
   .have h1:GrN (TN b vr vb) w w5:=a4.trans (GrN.ext F);refine⟨D.os.trans h1.os,D.tape.trans h1.tape,D.output.trans h1.output,Nat.le_trans h1.size D.size,λk y hn=>(D.block k (nM y h1.size) λe=>?_).trans (h1.block k y hn)⟩;have:=(Z k e.symm).1;have:=G.size;omega
   .exact(ad.ext F).grown D (λe=>ao e.symm)
   .obtain⟨_,_,_,_,h3⟩:=id ac.form;refine(ac.ext MxC.sta F).gr MxC.sta a8 λk y=>⟨.inr y,λe=>?_⟩;have:=a1 k (.inr (.inl e));have:=(Z k y).1;have:=G.size;omega
   exact Jo (Jc ar F) a8 λg h1 h2=>by
    have:=a1 g (.inr (.inr h1));have:=(Z g h2).1;have:=G.size;omega
  rw[<-hu]at ab ak ⊢;refine stX RtC.sta ab ai.symm (show j<_ by omega) (cs:=[.bool (PR.int (-1)).neg,.slice G1 _ g1,.slice G2 _ g2]) (a:=PR.int (-1)) (RtC.sta.old b4 λk y=>.inl ?_) (λg hg=>.inr hg) (Qq rfl rfl rfl) ?_
  .rcases y with y|y
   .exact nM (a1 k y) a4.size
   rw[hu]at y;exact(ap k y).2
  intro w6 a5 D;obtain⟨k1,k2,k3,k4,k5⟩:=ak w6 a5 D;refine ρ ?_;exact Jg (j+1) sO ⟨om,k1,k2,k3,k4,k5⟩ om
 have J:j=n:=by have:=oF h;omega
 clear h;subst J;rw[<-Qyx]at a6;have ax:(PT.ofP j A).goal.length<=1100000:=by simp[PT.ofP];omega
 have a2:TbV w4 base b vr u vb (PT.ofP j A):=⟨ad,ac.old MxC.sta λk y=>.inl (.inl y),a6.gx RtC.sta ax λk y=>⟨.inl y,λe=>by
  have:=a1 k y;have:=(Z k e).1;have:=G.size;omega⟩,ar⟩
 obtain⟨S,sc,eS,bl,_⟩:=Jy a2.bas;have bm:(PT.ofP j A).basis.length=A.length:=by simp[PT.ofP]
 have b5:∀ k,k<A.length->(PT.ofP j A).basis.getD k 0=j+k:=λk y=>by simp[PT.ofP,List.getD,y]
 have aq:=Rd.own (show w4.ownsRow base 3 1 (.slice S (PT.ofP j A).basis.length sc) (PT.ofP j A).basis.length (Jp (nz (PT.ofP j A).basis)) by rw[<-eS];exact a2.bas);subst eS;refine ρ ?_;refine ld (a2.blk.at (i:=4) rfl) ?_;refine ρ ?_;refine Jh (fun (k:Nat)=>[(0,.pointer (some ⟨b,0,none⟩)),(34,.slice S (PT.ofP j A).basis.length sc),(35,.int .i64 ((PT.ofP j A).basis.length:Int)),(36,.int .i64 (k:Int))]) (λk w'=>k<=A.length/\w'=w4) (λk=>A.length-k) 0 sB ⟨Nat.zero_le _,rfl⟩ ?_;rintro k w5 ⟨y,rfl⟩;refine ρ ?_;refine ci (λh=>?_) (λh=>?_)
 .have ah:k<(PT.ofP j A).basis.length:=by have:=oT h;omega
  clear h;refine ρ ?_;refine ix k aq ah ?_;refine ρ ?_;refine ld (aq.cell (Qn ah)) ?_;refine ρ ?_;refine ld (v:=.int .i64 (j:Int)) (a2.blk.at (i:=0) rfl) ?_;refine ρ ?_;refine cf ?_ ?_
  .rw[b5 k om];exact dF om
  refine ρ ?_;exact Jg (k+1) sO ⟨om,rfl⟩ om
 refine ρ ?_;exact Vg ⟨rfl,u,a2,a4⟩
end Go.Proofs.YtebiphhfkdbpfaaGreat
namespace Go.Wk
open Go.RowKit
theorem Jpd{α:Type}{sz:Nat}: ∀ {ps:List (List Value×α)} {k:Nat},(∀ p∈ps,p.1.length=sz)->k<=ps.length->Jd (ps.drop k)=(Jd ps).drop (k*sz)
 | ps,0,_,_=>by simp
 | [],k+1,_,h=>by simp at h
 | p::ps,k+1,h,hk=>by
  have hp:=h p (by simp);have ih:=Jpd (ps:=ps) (k:=k) (λx hx=>h x (by simp[hx])) (by simpa using hk);have e:Jd (p::ps)=p.1++Jd ps:=rfl;rw[List.drop_succ_cons,ih,e,Nat.succ_mul,List.drop_append,show p.1.drop (k*sz+sz)=[] from List.drop_of_length_le om,List.nil_append,hp,show k*sz+sz-sz=k*sz by omega]
theorem Jnz{α:Type}{sz:Nat}: ∀ {ps:List (List Value×α)} {k:Nat},(∀ p∈ps,p.1.length=sz)->k<=ps.length->Jd (ps.take k)=(Jd ps).take (k*sz)
 | ps,0,_,_=>by simp[Jd]
 | [],k+1,_,h=>by simp at h
 | p::ps,k+1,h,hk=>by
  have hp:=h p (by simp);have ih:=Jnz (ps:=ps) (k:=k) (λx hx=>h x (by simp[hx])) (by simpa using hk);have e:Jd (p::ps)=p.1++Jd ps:=rfl;have e2:Jd (p::ps.take k)=p.1++Jd (ps.take k):=rfl;rw[List.take_succ_cons,e2,ih,e,Nat.succ_mul,List.take_append,show p.1.take (k*sz+sz)=p.1 from List.take_of_length_le om,hp,show k*sz+sz-sz=k*sz by omega]
theorem OX.rd{α:Type}{e sz base m c:Nat}{A:Option Addr}{Φ:(Nat->Prop)->World->List Value->α->Prop}{N:Nat->Prop}{w:World}{ls:List α}(h:OX e sz Φ N w base (.slice A m c) ls)(hm:m=ls.length): ∃ L,Rd w sz A m L:=by
 obtain⟨ps,j,i,u⟩:=h;have:m=ps.length:=by rw[hm,j,List.length_map]
 subst this;exact⟨_,Rd.own i⟩
theorem GX.cut{α:Type}{sz:Nat}{Φ:(Nat->Prop)->World->List Value->α->Prop}{N:Nat->Prop}{w:World}{A:Option Addr}{L c:Nat}{ls:List α}(h:GX sz Φ N w (.slice A L c) ls)(hs:0<sz){k m:Nat}(hk:k<=m)(hm:m<=ls.length):
  GX sz Φ N w (.slice (if c=k then A else A.map (·.add (k*sz))) (m-k) (c-k)) ((ls.drop k).take (m-k)):=by
 obtain⟨⟨ps,A0,c0,e,J,e2,e3,G,D⟩,hn⟩:=h;injection J with h1 h2 h3
 subst h1;subst h3;have hl:ls.length=ps.length:=by rw[e,List.length_map]
 have hcut:=G.cut k m c hk om om;have u:((ps.drop k).take (m-k)).length=m-k:=by rw[List.length_take,List.length_drop];omega
 have F:Jd ((ps.drop k).take (m-k))=((Jd ps).drop (k*sz)).take ((m-k)*sz):=by
  rw[Jnz (sz:=sz) (λp i=>(D p (List.mem_of_mem_drop i)).1) (by rw[List.length_drop];omega),Jpd (λp i=>(D p i).1) om]
 refine⟨⟨(ps.drop k).take (m-k),_,c-k,by rw[e];simp[List.map_drop,List.map_take],by rw[u],om,om,by rw[u,F];exact hcut,λp i=>D p (List.mem_of_mem_drop (List.mem_of_mem_take i))⟩,λh0 U Z c' ev j=>?_⟩;injection ev with ev _ _
 have y:ls≠[]:=λO=>h0 (by rw[O];simp);split at ev
 .exact hn y U L c (by rw[ev]) j
 cases A with
 | none=>cases ev
 | some a0=>
  simp only[Option.map_some,Option.some.injEq]at ev;subst ev;rw[Yg]at j;exact hn y a0 L c rfl j
end Go.Wk
namespace Go.Proofs.YtebiphhfkdbpfaaGreat
open Go.RowKit Pl Go.Wk Bl
attribute [local irreducible] WC WL QX WD WDB WP WN WG WH
variable {b base i:Nat}{t:PT}{vb vg vr:Value}{w:World}
def ptK(t:PT)(i:Nat): List PR:=(List.range t.n).map λv=>match(List.range i).reverse.find? λi=>t.basis.getD i 0 == v with
 | none=>pr0
 | some i=>(t.rows.getD i []).getD t.right pr0
theorem ptK_0(t:PT): ptK t 0=List.replicate t.n pr0:=by
 unfold ptK;exact List.eq_replicate_iff.2 ⟨by simp,λx i=>by obtain⟨_,_,e⟩:=List.mem_map.1 i;exact e.symm⟩
theorem Jvx(t:PT)(i:Nat): (ptK t i).length=t.n:=by simp[ptK]
theorem Qwx(h:t.basis.getD i 0<t.n): ptK t (i+1)=(ptK t i).set (t.basis.getD i 0) ((t.rows.getD i []).getD t.right pr0):=by
 refine List.ext_getElem? λv=>?_;have j:∀ k,(ptK t k)[v]?=if v<t.n then some (match(List.range k).reverse.find? λi=>t.basis.getD i 0 == v with|none=>pr0|some i=>(t.rows.getD i []).getD t.right pr0) else none:=λk=>by
  unfold ptK;rw[List.getElem?_map];by_cases hv:v<t.n
  .rw[if_pos hv,List.getElem?_range hv];rfl
  rw[if_neg hv,List.getElem?_eq_none (by simpa using hv)];rfl
 have u:(List.range (i+1)).reverse=i::(List.range i).reverse:=by rw[List.range_succ];simp
 by_cases hv:t.basis.getD i 0=v
 .subst hv;rw[List.getElem?_set_self (by rw[Jvx];exact h),j,if_pos h,u,List.find?_cons];simp only[beq_self_eq_true]
 rw[List.getElem?_set_ne hv,j,j,u,List.find?_cons];have:(t.basis.getD i 0 == v)=false:=by simpa using hv
 rw[this]
theorem Qwz(h:¬ t.basis.getD i 0<t.n): ptK t (i+1)=ptK t i:=by
 unfold ptK;refine List.map_congr_left λv j=>?_;have u:(List.range (i+1)).reverse=i::(List.range i).reverse:=by rw[List.range_succ];simp
 have:(t.basis.getD i 0 == v)=false:=by
  have:=List.mem_range.1 j;exact beq_eq_false_iff_ne.2 om
 rw[u,List.find?_cons,this]
theorem Jhq(t:PT): ptK t t.basis.length=t.point:=rfl
theorem Qvl(hT:TbV w base b vr vg vb t)(hp:POk t)(hn:t.n<=64)(hm:t.m<=64):
  Ret Tryz.prog 87 [.pointer (some ⟨b,0,none⟩)] w λu w'=>GX 3 RtC (TN b vr vb) w' u t.point/\(∀ k,u.ownBlock=some k->w.heap.size<=k)/\Ext w w':=by
 have ac:=hT.lt;have ax:t.rows.length=t.m:=hp.rows;have b2:t.basis.length=t.m:=hp.basis;have F:∀ i (hi:i<t.rows.length),t.rows[i].length=t.n+t.m+2:=λi hi=>by
  have:=(hp.row i (by rw[<-hp.rows];exact hi)).1;rwa [List.getD,List.getElem?_eq_getElem hi]at this
 refine Jz Tryz.func87 Tryz.ntmps87 rfl kr rfl ?_;refine ρ ?_;refine ld (hT.blk.at (i:=0) rfl) ?_;refine ρ ?_;refine cl (Jxh t.n om w) ?_;rintro u w1 ⟨hU,a5⟩;obtain⟨U,uc,_,eu,av,_,_⟩:=id hU.el;rw[List.length_replicate]at eu;subst eu;obtain⟨_,_,_,_,a1⟩:=id hU.form;have ao:∀ k,(TN b vr vb k∨(Value.slice U t.n uc).ownBlock=some k)->TN b vr vb k∨w.heap.size<=k:=λk O=>O.elim .inl λh=>.inr (a1 k h).1;have hR:=hT.rows.old MxC.sta ao;have ak:OX 84 3 RtC (λk=>TN b vr vb k∨(Value.slice U t.n uc).ownBlock=some k) w1 w.heap.size (.slice U t.n uc) (ptK t 0):=by
  rw[ptK_0];exact hU.old RtC.sta λk O=>.inl (O.elim (λh=>.inl (ac k h)) .inr)
 obtain⟨S,sc,eS,aw,_⟩:=Jy hT.bas;have ad:=Rd.own (show w.ownsRow base 3 1 (.slice S t.basis.length sc) t.basis.length (Jp (nz t.basis)) by rw[<-eS];exact hT.bas);subst eS;obtain⟨R,rc,_,eR,ay,an,am⟩:=id hR.el;subst eR;have au:=hT.blk.ext a5;refine ρ ?_;refine ld (au.at (i:=4) rfl) ?_;refine ρ ?_;refine Jh (fun (k:Nat)=>[(0,.pointer (some ⟨b,0,none⟩)),(3,.slice U t.n uc),(14,.slice S t.basis.length sc),(15,.int .i64 (t.basis.length:Int)),(16,.int .i64 (k:Int))]) (λk w'=>k<=t.m/\Ext w w'/\OX 84 3 RtC (λk=>TN b (.slice R t.rows.length rc) (.slice S t.basis.length sc) k∨(Value.slice U t.n uc).ownBlock=some k) w' w.heap.size (.slice U t.n uc) (ptK t k)) (λk=>t.m-k) 0 sB ⟨Nat.zero_le _,a5,ak⟩ ?_;rintro k w2 ⟨O,G,a2⟩;refine ρ ?_;refine ci (λh=>?_) (λh=>?_)
 .have a8:k<t.basis.length:=by have:=oT h;omega
  clear h;refine ρ ?_;refine ix k (ad.ext G) a8 ?_;refine ρ ?_;refine ld ((ad.ext G).cell (Qn a8)) ?_;refine ρ ?_;refine ld ((hT.blk.ext G).at (i:=0) rfl) ?_;refine ρ ?_;refine ci (λh=>?_) (λh=>?_)
  .have Z:t.basis.getD k 0<t.n:=by have:=oT h;omega
   clear h;have a3:Ext w2 w2.drew:=(Ext.refl w2).drew;have y:=G.trans a3;have D:k<t.rows.length:=om
   obtain⟨ce,_,⟨vk,rfl,ar⟩,ah⟩:=am k D;obtain⟨K,kc,_,rfl,b1,_,aq,_,ap⟩:=id ar.el;rw[F k D]at *;have a9:w2.drew.cell? (adr R k)=some (.slice K (t.n+t.m+2) kc):=by
    have:=Xx y (ah 0 _ rfl);rwa [Nat.mul_one,add_zero]at this
   obtain⟨cr,_,a4,a7⟩:=ap (t.n+t.m+1) (by rw[F k D];omega);have er:t.rows[k][t.n+t.m+1]'(by rw[F k D];omega)=(t.rows.getD k []).getD t.right pr0:=by simp[PT.right,List.getD,List.getElem?_eq_getElem D,List.getElem?_eq_getElem (show t.n+t.m+1<t.rows[k].length by rw[F k D];omega)]
   rw[er]at a4;have ae:=Qwx Z;generalize (t.rows.getD k []).getD t.right pr0=q at *
   obtain⟨F1,f1,F2,f2,rfl,az⟩:=a4.sl;have ab:=a2.ext RtC.sta a3;have a6:t.n=(ptK t k).length:=(Jvx t k).symm;refine ρ ?_;refine dr [(0,0),(0,1),(0,2),(0,3),(0,4),(0,5),(0,6),(0,7),(0,8),(0,9),(1,10),(0,11),(0,12),(0,13),(2,14)] kr ?_;refine ρd ?_;refine dld ((hT.blk.ext y).at (i:=2) rfl) ?_;refine ρd ?_;refine dix k (an.ext y) D ?_;refine ρd ?_;refine dld a9 ?_;refine ρd ?_;refine dcl (Gf (n:=t.n) (m:=t.m) (hT.blk.ext y) rfl rfl om om) ?_;rintro _ w3 ⟨rfl,J⟩;refine⟨J,?_⟩;refine ρd ?_;refine Qp 3 (t.n+t.m+1) ((aq.ext y).ext J) om ?_;refine ρd ?_;refine Qj (λj u hu=>Xx (y.trans J) (a7 j u hu)) ?_;refine ρd ?_;have aa:=ab.ext RtC.sta J;obtain⟨_,ai⟩:=aa.rd a6;refine Qp 3 (t.basis.getD k 0) ai Z ?_;refine ρd ?_;refine Jf ?_;refine stX RtC.sta aa a6 (show t.basis.getD k 0<_ by omega) (cs:=[.bool q.neg,.slice F1 _ f1,.slice F2 _ f2]) (a:=q) (RtC.sta.gr a4 (GrN.ext (y.trans J))) (λg hg=>.inr hg) (Qq rfl rfl rfl) ?_
   intro w4 aj ag;refine ρ ?_;exact Jg (k+1) sO ⟨om,Js (G.trans (a3.trans J)) ag λk O=>(a1 k O).1,by rw[ae];exact aj⟩ om
  have Z:¬ t.basis.getD k 0<t.n:=by have:=oF h;omega
  refine ρ ?_;exact Jg (k+1) sO ⟨om,G,by rw[Qwz Z];exact a2⟩ om
 have af:k=t.basis.length:=by have:=oF h;omega
 subst af;rw[Jhq]at a2;refine ρ ?_;refine Jq ⟨a2.gx RtC.sta ?_ λk O=>⟨.inl O,λe=>by have:=ac k O;have:=(a1 k e).1;omega⟩,λk O=>(a1 k O).1,G⟩;rw[<-Jhq,Jvx];omega
theorem Qgm(hT:TbV w base b vr vg vb t)(hp:POk t)(hn:t.n<=64)(hm:t.m<=64)(h0:0<t.m):
  Ret Tryz.prog 84 [.pointer (some ⟨b,0,none⟩)] w λu w'=>GX 3 RtC (TN b vr vb) w' u t.dual/\(∀ k,u.ownBlock=some k->w.heap.size<=k)/\Ext w w':=by
 have Z:=hT.lt;have O:t.goal.length=t.n+t.m+2:=hp.goal.1;refine Jz Tryz.func84 Tryz.ntmps84 rfl kr rfl ?_;refine ρ ?_;refine ld (hT.blk.at (i:=1) rfl) ?_;refine ρ ?_;refine cl (Jxh t.m om w) ?_;rintro u w1 ⟨hU,a1⟩;obtain⟨U,uc,_,eu,a7,_,_⟩:=id hU.el;rw[List.length_replicate]at eu;subst eu;obtain⟨_,_,_,_,D⟩:=id hU.form;have a6:∀ k,(TN b vr vb k∨(Value.slice U t.m uc).ownBlock=some k)->TN b vr vb k∨w.heap.size<=k:=λk y=>y.elim .inl λh=>.inr (D k h).1;have a5:OX 84 3 RtC (λk=>TN b vr vb k∨(Value.slice U t.m uc).ownBlock=some k) w1 w.heap.size (.slice U t.m uc) (List.replicate t.m pr0):=hU.old RtC.sta λk y=>.inl (y.elim (λh=>.inl (Z k h)) .inr);have hG:=hT.goal.old RtC.sta (by decide) a6;obtain⟨G,gc,_,eG,a2,a9,a8⟩:=id hG.el;subst eG;have hcut:=hG.cut (by decide) (k:=t.n) (m:=t.n+t.m) om (by rw[O];omega);rw[O]at a2;rw[show t.n+t.m-t.n=t.m by omega]at hcut
 have J:Ext w1 w1.drew:=(Ext.refl w1).drew;have j:=a1.trans J;have F:=hT.ext j;refine ρ ?_;refine drC 14 [0,1,5,9,13] [(0,2),(0,3),(0,4),(0,6),(0,7),(0,8),(0,10),(0,11),(0,12),(0,14),(0,15),(0,16),(0,17),(0,18),(2,19)] kr ?_;refine ρp ?_;refine ρd ?_;refine dld (F.blk.at (i:=3) rfl) ?_;refine ρd ?_;refine dld (F.blk.at (i:=0) rfl) ?_;refine ρd ?_;refine dld (F.blk.at (i:=0) rfl) ?_;refine ρd ?_;refine dld (F.blk.at (i:=1) rfl) ?_;refine ρd ?_;refine Qgn Kr t.n (t.n+t.m) gc rfl rfl rfl rfl ⟨_,_,rfl,rfl⟩ ⟨_,_,rfl,by push_cast;rfl⟩ rfl (.inl rfl) om om (nR _) rfl ?_;rw[show t.n+t.m-t.n=t.m by omega];refine ρd ?_;refine Jf ?_;refine cpX RtC.sta (a5.ext RtC.sta J) (by simp) (hcut.ext RtC.sta (by decide) j) h0 (by decide) (λcs a h=>h) RtC.one (λg hg=>.inr hg) ?_;intro w2 a4 a3;refine ρ ?_;exact Jq ⟨a4.gx RtC.sta (by simp;omega) λk y=>⟨.inl y,λe=>by have:=Z k y;have:=(D k e).1;omega⟩,λk y=>(D k y).1,Js j a3 λk y=>(D k y).1⟩
open Go.RowKit Pl Go.Wk Bl
variable {b fuel n t:Nat}{N:Nat->Prop}{v vA vB vC:Value}{w:World}
abbrev Nn: Nat->Prop:=λ_=>False
theorem zSol: Qu Tryz.prog 126=some (.agg #[.int .i64 0,.slice none 0 0,.slice none 0 0,.slice none 0 0,.bool false,.slice none 0 0,.slice none 0 0]):=kr
theorem Qml(A B C D:Option Addr)(m c m' c' k d k' d':Nat)(b:Bool)(w:World): (Instr.build 126 #[(0,.int .i64 0),(1,.slice A m c),(2,.slice B m' c'),(4,.agg #[.bool b,.slice C k d,.slice D k' d'])]).run Tryz.prog w=.ok (.agg #[.int .i64 0,.slice A m c,.slice B m' c',.slice none 0 0,.bool b,.slice C k d,.slice D k' d']) w:=kr
theorem Jkg{ls:List PR}{cs:List Value}(h:GX 3 RtC N w v ls)(hB:Blk w b t cs)(hc:∀ u∈cs,∀ z,u≠.int .u32 z)(hv:v.ownBlock≠some b): GX 3 RtC (λk=>N k∨k=b) w v ls:=by
 obtain⟨⟨ps,A,c,e,e1,Z,U,O,j⟩,hn⟩:=h;refine⟨⟨ps,A,c,e,e1,Z,U,O,λp D=>⟨(j p D).1,?_⟩⟩,λh0 ad m c' ev i=>i.elim (hn h0 ad m c' ev) λi=>hv (by rw[ev,<-i];rfl)⟩;obtain⟨x,y,J,G,F⟩:=(j p D).2;exact⟨x,y,J,G.box hB hc,F.box hB hc⟩
theorem noS: ∀ u∈[Value.int .i64 0,.slice none 0 0,.slice none 0 0,.slice none 0 0,.bool false,.slice none 0 0,.slice none 0 0],∀ z,u≠.int .u32 z:=λu i z e=>by
 simp only[List.mem_cons,List.not_mem_nil,or_false]at i;rcases i with rfl|rfl|rfl|rfl|rfl|rfl|rfl<;>cases e
theorem Qzg{A:List (List PR)}{t':PT}(hC:GX 3 RtC N w vC (List.replicate n (PR.int 1)))(hA:GX 1 MxC N w vA A)(hB:GX 3 RtC N w vB (List.replicate A.length (PR.int 1)))(hNw:∀ k,N k->k<w.heap.size)(hbin:Bin n A)(h1:∀ j,j<n->∃ i,i<A.length/\Xp A i j=1)(hn:n<=64)(hm:A.length<=5)(h0:0<A.length)(hf:(n+A.length)^A.length<=fuel)(hmx:PT.maxim (n+A.length) fuel (PT.ofP n A)=some t'):
  Ret Tryz.prog 53 [.agg #[vC,vA,vB]] w λu w'=>∃ X Y q1 q2,u=.tuple #[.agg #[.int .i64 0,X,Y,.slice none 0 0,.bool (t'.goal.getD t'.right pr0).neg,q1,q2],.int .i64 0]/\GX 3 RtC Nn w' X t'.point/\GX 3 RtC Nn w' Y t'.dual/\NatX Nn w' q1 (t'.goal.getD t'.right pr0).num/\NatX Nn w' q2 (t'.goal.getD t'.right pr0).den/\Ext w w':=by
 obtain⟨c5,ca,S,b3,hS,ck⟩:=Jlg hbin h1 hf;rw[hmx]at b3;cases b3
 obtain⟨i1,i2,i3⟩:=Qvx hbin;have bo:∀ t S,PSt n A.length (pck n (Xp A)) t S->TSl t:=λt S h=>Qqm h i1 i2 i3 rfl om hm;have aj:=hS.agr.ok;have ch:=hS.en;have cj:=hS.em;obtain⟨CA,cc,_,rfl,bs,_,_,_,_⟩:=id hC.el;obtain⟨AA,ac,_,rfl,co,_,_,_,_⟩:=id hA.el;obtain⟨BA,bc,_,rfl,bt,_,_,_,_⟩:=id hB.el;simp only[List.length_replicate]at hC hB bs bt ⊢;refine Jz Tryz.func53 Tryz.ntmps53 rfl kr rfl ?_;refine ρ ?_;refine bx ?_;intro w1 b1 aw cn bh;refine ρ ?_;refine alc zSol ?_;intro w2 b2 au bu an;have U:=aw.trans au;have ae:=bh.ext au;have c6:b1≠b2:=by have:=bh.lt;omega
 have be:=hC.ext RtC.sta (by decide) U;have bi:=hA.ext MxC.sta (by decide) U;have ad:=hB.ext RtC.sta (by decide) U;refine ρ ?_;refine lds (cs:=[.slice CA n cc,.slice AA A.length ac,.slice BA A.length bc]) (λj u hu=>ae.at hu) ?_;refine ρ ?_;refine cl (Qqf be bi ad hbin om) ?_;rintro _ w3 ⟨rfl,D⟩;have O:=ae.ext D;refine ρ ?_;refine ld (O.at (i:=0) rfl) ?_;refine ρ ?_;refine kf 15 ?_ ?_
 .simp;omega
 refine ρ ?_;refine ld (O.at (i:=2) rfl) ?_;refine ρ ?_;refine cf ?_ ?_
 .simp;omega
 have a3:=U.trans D;refine ρ ?_;refine lds (cs:=[.slice CA n cc,.slice AA A.length ac,.slice BA A.length bc]) (λj u hu=>O.at hu) ?_;refine ρ ?_;refine cl (Qbr (be.ext RtC.sta (by decide) D) (bi.ext MxC.sta (by decide) D) (ad.ext RtC.sta (by decide) D) hbin hn om) ?_;rintro _ w4 ⟨base,b,vr,vb,rfl,ab,b9,b8,a9,ai⟩;refine ρ ?_;refine cl (Qfz a9 hbin hn om) ?_;rintro _ w5 ⟨rfl,Z⟩;have ax:=a3.trans (ai.trans Z);have bf:=(O.ext ai).ext Z;refine ρ ?_;refine ld (bf.at (i:=0) rfl) ?_;refine ρ ?_;have c2:=a9.ext Z;have ak:∀ k,TN b vr vb k->w3.heap.size<=k:=λk y=>by
  rcases y with y|y|y
  .rw[y];exact b9
  .obtain⟨_,_,_,_,h⟩:=id a9.rows.form;exact nL ab (h k y).1
  obtain⟨_,_,_,_,h⟩:=Jy a9.bas;exact nL ab (h k y).1
 refine cl (Qbc (N:=TN b vr vb) c2 ((hC.old RtC.sta (by decide) λk y=>.inr (nL a3.size (ak k y))).ext RtC.sta (by decide) ax) (λk y=>y) hbin hn om) ?_;rintro _ w6 ⟨rfl,vg,c1,b5⟩;have a2:Ext w3 w6:=b5.old (ai.trans Z) ak;have c8:=O.ext a2;have c7:=(an.ext D).ext a2;have b7:base<=w6.heap.size:=nL b8 (nL Z.size b5.size);have ah:Ext w6 w6.drew:=(Ext.refl w6).drew;have a5:=c1.ext ah;have ar:=a2.trans ah;refine ρ ?_;refine drH (λi=>i == 10) ?_;refine Ia (fuel':=6) 17 [(0,0),(0,1),(0,2),(0,3),(0,4),(0,5),(0,6),(0,7),(0,8),(0,9)] #[true,true,true,true,true,true,true,true,true,true,false,false,false,false,false,false] kr kr rfl ?_;refine ρd ?_;refine dld (a5.blk.at (i:=0) rfl) ?_;refine ρd ?_;refine dld (a5.blk.at (i:=1) rfl) ?_;refine ρd ?_;refine Ie ?_;refine Zn 10 kr rfl rfl ?_;refine Go.Wk.kv 45 (u:=.int .i64 ((n+A.length:Nat):Int)) (congrArg (Value.int .i64) ((Vf ⟨by show _<=((n:Nat):Int)+((A.length:Nat):Int);omega,by show((n:Nat):Int)+((A.length:Nat):Int)<=_;omega⟩).trans (by show((n:Nat):Int)+((A.length:Nat):Int)=_;omega))) ?_
 refine cl (Qcf a5 (PSt.start hbin) bo c5 hmx om om (nL b7 ah.size)) ?_;rintro _ w7 ⟨rfl,c9,am,br⟩;have a1:Ext w3 w7:=br.old ar ak;refine Qk (Qe (λh=>by cases h) ?_);refine Zn 11 kr rfl rfl ?_;refine ρ ?_;refine Qe (λ_=>Ext.refl _) ?_;refine hmkS 17 0 _ #[true,true,true,true,true,true,true,true,true,true,true,true,true,true,true,true] [12,13,14,15] [47,48,5,6] [SF.eq (.int .i64 0),SF.eq (.bool true),SF.eq (.int .i64 0),SF.eq (.bool true)] kr (by rfl) ?_ ?_
 .refine gsc (λvs v1 ag hd=>?_) ?_
  .simp only[slM];refine ρ ?_;exact Vx (Ext.refl _) rfl
  refine gsc (λvs v1 ag hd=>?_) ?_
  .simp only[slM];refine ρ ?_;exact Vx (Ext.refl _) rfl
  refine gsc (λvs v1 ag hd=>?_) ?_
  .have e0:vs 0=_:=hd 0;simp only[slM,e0];refine ρ ?_;exact Vx (Ext.refl _) rfl
  refine gsc (λvs v1 ag hd=>?_) gse
  have e1:vs 1=_:=hd 1;simp only[slM,e1];refine ρ ?_;exact Vx (Ext.refl _) rfl
 intro vs bj ao hd;have e0:vs 0=_:=hd 0;have e1:vs 1=_:=hd 1;have e2:vs 2=_:=hd 2;have e3:vs 3=_:=hd 3;simp only[slM,e0,e1,e2,e3];clear e0 e1 e2 e3 hd;have am:=am.ext ao;have a1:=a1.trans ao;generalize bj=w7 at *
 refine Zx kr ?_;refine ρ ?_;have aq:Ext w7 w7.drew:=(Ext.refl w7).drew;have a4:=am.ext aq;have aa:=a1.trans aq;refine ρ ?_;refine drC 18 [0,2,4,8] [(0,5),(0,6),(0,7),(1,1),(1,3),(1,9),(0,10),(0,11),(0,12),(2,13),(2,14)] kr ?_;refine ρp ?_;refine ρd ?_;refine dld (a4.blk.at (i:=3) rfl) ?_;refine ρd ?_;refine dcl (Qvl a4 aj om om) ?_;rintro X w8 ⟨hX,bz,a7⟩;refine⟨a7,?_⟩;have bb:=a4.ext a7;refine ρd ?_;refine dcl (Qgm bb aj om om om) ?_;rintro Y w9 ⟨hY,bv,a6⟩;refine⟨a6,?_⟩;have ba:=bb.ext a6;refine ρd ?_;refine dcl (Gf (n:=t'.n) (m:=t'.m) ba.blk rfl rfl om om) ?_;rintro _ af ⟨rfl,F⟩;refine⟨F,?_⟩;have bd:=ba.ext F;refine ρd ?_;obtain⟨G,gc,_,eG,cm,_,c4,_,c3⟩:=id bd.goal.el;have b4:t'.goal.length=t'.n+t'.m+2:=aj.goal.1;rw[b4]at eG;subst eG;have ap:Ext w3 af:=aa.trans (a7.trans (a6.trans F));have J:=(an.ext D).ext ap
 obtain⟨cr,_,ay,az⟩:=c3 (t'.n+t'.m+1) om;have er:t'.goal[t'.n+t'.m+1]'(by omega)=t'.goal.getD t'.right pr0:=by simp[PT.right,List.getD,List.getElem?_eq_getElem (show t'.n+t'.m+1<t'.goal.length by omega)]
 rw[er]at ay;generalize t'.goal.getD t'.right pr0=q at *
 obtain⟨F1,f1,F2,f2,rfl,bp⟩:=ay.sl;have bq:Rd af 3 G (t'.n+t'.m+2) _:=b4 ▸ c4;refine Qp 3 (t'.n+t'.m+1) bq om ?_;refine ρd ?_;refine Qj (λj u hu=>az j u hu) ?_;refine ρd ?_;obtain⟨X1,X2,_,rfl,_,_,_,_,_⟩:=id hX.el;obtain⟨Y1,Y2,_,rfl,_,_,_,_,_⟩:=id hY.el;refine dbld (λw=>Qml _ _ _ _ _ _ _ _ _ _ _ _ _ w) ?_;refine ρd ?_;refine Jf ?_;have cg:=an.lt;have ce:=D.size;have cd:=aa.size;have cb:=a7.size;have c0:=Jkg (hX.ext RtC.sta (by decide) (a6.trans F)) J noS (λe=>by have:=bz b2 e;omega);have bw:=Jkg (hY.ext RtC.sta (by decide) F) J noS (λe=>by have:=bv b2 e;omega);obtain⟨_,_,ev,q2,q3⟩:=bp;cases ev
 have bn:=q2.box J noS;have bm:=q3.box J noS;refine stb (cs':=[.int .i64 0,.slice X1 _ X2,.slice Y1 _ Y2,.slice none 0 0,.bool q.neg,.slice F1 _ f1,.slice F2 _ f2]) J ?_ (λu hu=>by
  simp only[List.mem_cons,List.not_mem_nil,or_false]at hu;rcases hu with rfl|rfl|rfl|rfl|rfl|rfl|rfl<;>rfl)
 intro bl bg b6 av;have a8:GrN (λk=>TN b vr vb k∨k=b2) af bl:=GrN.by b6 λk y=>by injection y with y;exact .inr y.symm
 refine ρ ?_;refine Qh ?_;refine Jf ?_;refine ρ ?_;exact Zz bg ⟨_,_,_,_,rfl,(c0.gr RtC.sta (by decide) a8).old RtC.sta (by decide) λk y=>y.elim,(bw.gr RtC.sta (by decide) a8).old RtC.sta (by decide) λk y=>y.elim,(bn.gr a8).old λk y=>y.elim,(bm.gr a8).old λk y=>y.elim,av w (a3.trans ap) (nL aw.size bu)⟩
end Go.Proofs.YtebiphhfkdbpfaaGreat
namespace Go.Wk
open Go.RowKit
variable {base d e k n s ty:Nat}{N:Nat->Prop}{v v':Value}{w w1 w2:World}
theorem Jfr{P:Program}{al:AL}{Q:Exit->Act->World->Prop}{ops:Array Oper}{rest:List Oper}{pos:String}{aft:Array Edge}{x y:Operand}{t yt:TypeId}{k2:IntKind}{v:Nat}(hv:v<=32)(kk:WL P n ops Q rest ((d,.int .u32 ((s / 2^v:Nat):Int))::al) w)(hx:ev al x=some (.int .u32 (s:Int)):=by rfl)(hy:ev al y=some (.int k2 (v:Int)):=by rfl)(hd:Nat.blt d n=true:=by rfl):
  WL P n ops Q (⟨some d,.binOp .shr t x y yt,ty,pos,aft,none⟩::rest) al w:=by
 rw[<-Jgb s v hv]at kk;exact wop hd (λa i=>Jgj hx hy om i (some d) w) kk
theorem Ub{sz m base' e' sz' m':Nat}{xs xs':List Value}(h:w.ownsRow base e sz v m xs)(h':w.ownsRow base' e' sz' v' m' xs')(hne:Nat.beq e e'=false)(hk:v.ownBlock=some k): v'.ownBlock≠some k:=by
 have j:e≠e':=by intro i;subst i;simp at hne
 rcases h.2 with⟨rfl,_⟩|⟨g,cap,cur,rfl,_,hh,_⟩
 .simp[Value.ownBlock]at hk
 intro u;rcases h'.2 with⟨rfl,_⟩|⟨g',cap',cur',rfl,_,hh',_⟩
 .simp[Value.ownBlock]at u
 have D:g=k:=by simpa [Value.ownBlock] using hk
 have y:g'=k:=by simpa [Value.ownBlock] using u
 grind
theorem OX.own{α:Type}{sz:Nat}{Φ:(Nat->Prop)->World->List Value->α->Prop}{ls:List α}(h:OX e sz Φ N w base v ls): ∃ m xs,w.ownsRow base e sz v m xs:=by
 obtain⟨ps,_,i,_⟩:=h;exact⟨_,_,i⟩
theorem GrN.by2{g:Option Nat}(h:GrN N w w1)(hg:w1.grownBy w2 g)(ho:∀ k,g=some k->w.heap.size<=k∨N k): GrN N w w2 :=
 ⟨hg.os.trans h.os,hg.tape.trans h.tape,hg.output.trans h.output,Nat.le_trans h.size hg.size,λk i hn=>(hg.block k (nM i h.size) λe=>(ho k e.symm).elim (λj=>om) hn).trans (h.block k i hn)⟩
end Go.Wk
namespace Go.Proofs.YtebiphhfkdbpfaaGreat
open Go.RowKit Pl Go.Wk Bl
attribute [local irreducible] WC WL QX WD WDB WP WN WG WH
theorem Qhj(n:Nat)(hn:n<=1000)(w:World): Ret Tryz.prog 54 [.int .i64 (n:Int)] w λu w'=>OX 84 3 RtC (Ov w u) w' w.heap.size u (List.replicate n pr0)/\Ext w w':=by
 refine Jz Tryz.func54 Tryz.ntmps54 rfl kr rfl ?_;refine ρ ?_;refine mkRt n hn ?_;intro w1 A a2 hO hA;have hO:=hO (Ov w (.slice A n n));refine ρ ?_;refine Jh (fun (k:Nat)=>[(3,.slice A n n),(8,.int .i64 (n:Int)),(9,.int .i64 (k:Int))]) (λk w'=>k<=n/\Ext w w'/\OX 84 3 RtC (Ov w (.slice A n n)) w' w.heap.size (.slice A n n) (mix (List.replicate n pr0) (List.replicate n prz) k)) (λk=>n-k) 0 sB ⟨Nat.zero_le _,a2,by rw[Gt];exact hO⟩ ?_;rintro k w2 ⟨hk,y,i⟩;have U:(mix (List.replicate n pr0) (List.replicate n prz) k).length=n:=by rw[Uh (by simp) (by simpa using hk)];simp
 refine ρ ?_;refine ci (λh=>?_) (λh=>?_)
 .have F:k<n:=by have:=oT h;omega
  clear h;refine ρ ?_;refine cl (Gl 0 (by decide) (by decide) w2) ?_;rintro r w3 ⟨hr,J⟩;have e0:PR.int 0=pr0:=rfl;rw[e0]at hr;obtain⟨C,e,D,f,rfl,hc⟩:=hr.cell;have G:=i.ext RtC.sta J;obtain⟨A',c',cs,ev,_,O,_⟩:=id G.el;rw[U]at ev O;injection ev with ev1 ev2 ev3
  subst ev1;refine ρ ?_;refine ixq 3 k O F ?_;refine ρ ?_;obtain⟨_,_,_,_,a3⟩:=id G.form;have a5:k<(mix (List.replicate n pr0) (List.replicate n prz) k).length:=om
  refine stX RtC.sta G U.symm a5 (cs:=[.bool pr0.neg,.slice C _ e,.slice D _ f]) (a:=pr0) (RtC.sta.old hc λj Z=>.inl ?_) (λg hg=>.inr hg) (Qq rfl rfl rfl) ?_
  .rcases Z with Z|Z
   .exact nM Z y.size
   obtain⟨_,_,_,_,h3⟩:=id i.form;exact(h3 j Z).2
  intro w4 a1 a6;rw[Ug (l':=List.replicate n pr0) (l:=List.replicate n prz) (x:=pr0) (by simp) (by simpa using F) (by simp[F])]at a1;refine ρ ?_;exact Jg (k+1) sO ⟨om,Js (y.trans J) a6 (λg hg=>(a3 g hg).1),a1⟩ om
 have a4:k=n:=by have:=oF h;omega
 subst a4;have e:=Jqn (l':=List.replicate k pr0) (l:=List.replicate k prz) (by simp);rw[List.length_replicate]at e;rw[e]at i;refine ρ ?_;exact Jq ⟨i,y⟩
theorem Qqc{w:World}{A:Option Addr}{c n:Nat}{es:List Nat}(hn:n<=32): Ret Tryz.prog 51 [.agg (grC A c n es).toArray] w λu w'=>u=.int .u32 ((2^n-1:Nat):Int)/\Ext w w':=by
 have F:=Gr hn;have y:0<2^n:=Nat.two_pow_pos n;refine Jz Tryz.func51 Tryz.ntmps51 rfl kr rfl ?_;refine ρ ?_;refine bx (cs:=grC A c n es) ?_;intro w1 b j G D;refine ρ ?_;refine ld (D.at (i:=0) rfl) ?_;refine ρ ?_;refine sl64 (v:=n) om ?_;refine ρ ?_;refine Jq ⟨?_,j⟩;generalize 2^n=p at *
 congr 1
 rw[IntKind.wrap_u64,IntKind.wrap_u32];omega
open Go.RowKit Pl Go.Wk Bl
variable {E es:List Nat}{c i k n p s set v:Nat}
theorem zBl: Qu Tryz.prog 4=some (.bool false):=kr
theorem wfU(h:p<4294967296): (Lit.int .u32 (p:Int)).wf=true:=by
 simp only[Lit.wf,Bool.and_eq_true,decide_eq_true_eq];exact⟨by show(0:Int)<=_;omega,by show _<=(4294967295:Int);omega⟩
theorem Qmx(hs:s<4294967296): bits .and .u32 ((s / 2^v:Nat):Int) 1=((s.testBit v).toNat:Int):=by
 have u:s / 2^v<4294967296:=nN (Nat.div_le_self _ _) hs;have i:=u32_and_nat (s / 2^v) 1 u om;have j:s / 2^v &&& 1=(s.testBit v).toNat:=by
  rw[Nat.and_one_is_mod,Nat.toNat_testBit]
 rw[j]at i;exact i
theorem KU: Maps.Keyed Tryz.prog 25:=Maps.int_keyed Tryz.underlying25
theorem Jcg(b:Bool)(A B:Option Addr)(m c m' c':Nat)(w:World): (Instr.buildSlice 80 1 #[(0,.agg #[.bool b,.slice A m c,.slice B m' c'])]).run Tryz.prog w=.ok (.slice (some ⟨w.heap.size,0,none⟩) 1 1) (w.alloc (.cells #[.bool b,.slice A m c,.slice B m' c'] 84)):=kr
def pkA(n:Nat)(E:List Nat)(set i:Nat): List (List PR):=(Jl E set i).map λi=>(Jv n set).map λv=>PR.int (((E.getD i 0) &&& set).testBit v).toNat
theorem Jkl(E:List Nat)(set:Nat): ∀ i,(Jl E set i).length<=i
 | 0=>by simp[Jl]
 | i+1=>by
  have:=Jkl E set i;unfold Jl;simp only;split<;>simp<;>omega
def Vn(E:List Nat)(set i p:Nat): Bool:=(List.range i).any λk=>(E.getD k 0) &&& set == p
theorem Jqv(h:(E.getD i 0) &&& set=0∨Vn E set i ((E.getD i 0) &&& set)=true): Jl E set (i+1)=Jl E set i:=by
 rw[Jl];exact if_pos h
theorem Jkk(h0:(E.getD i 0) &&& set≠0)(h1:Vn E set i ((E.getD i 0) &&& set)=false): Jl E set (i+1)=Jl E set i++[i]:=by
 rw[Jl];exact if_neg (by rintro(h|h);exact h0 h;unfold Vn at h1;rw[h1]at h;cases h)
theorem Jvg(E:List Nat)(set i p:Nat): Vn E set (i+1) p=(Vn E set i p || ((E.getD i 0) &&& set == p)):=by
 unfold Vn;rw[List.range_succ,List.any_append];simp
abbrev N2(s:Nat)(vF vA vB:Value): Nat->Prop:=λk=>k<s∨vA.ownBlock=some k∨vB.ownBlock=some k∨vF.ownBlock=some k
abbrev N1(s:Nat)(vM vC:Value): Nat->Prop:=λk=>k<s∨vC.ownBlock=some k∨vM.ownBlock=some k
theorem zPb: Qu Tryz.prog 122=some (.agg #[.slice none 0 0,.slice none 0 0,.slice none 0 0]):=kr
theorem Jzv(k set:Nat): Jv (k+1) set=if set.testBit k then Jv k set++[k] else Jv k set:=by
 unfold Jv;rw[List.range_succ,List.filter_append];cases h:set.testBit k<;>simp[h]
theorem Jmc(h:v∈Jv k set): v<k:=List.mem_range.1 (List.mem_filter.1 h).1
theorem Jqp(k set:Nat): (Jv k set).length<=k:=by
 unfold Jv;exact nL (List.length_filter_le _ _) (by simp)
theorem Qyg{w:World}{A:Option Addr}(h:GrV w A c n es)(hs:set<2^n)(hm:es.length<=5):
  Ret Tryz.prog 52 [.agg (grC A c n es).toArray,.int .u32 (set:Int)] w λu w'=>∃ vC vA vB MA mc FA fc,u=.tuple #[.agg #[vC,vA,vB],.slice MA (Jv n set).length mc,.slice FA (Jl es set es.length).length fc] /\
   GX 3 RtC Nn w' vC (List.replicate (Jv n set).length (PR.int 1))/\GX 1 MxC Nn w' vA (Vq n es set)/\GX 3 RtC Nn w' vB (List.replicate (Vq n es set).length (PR.int 1))/\Rd w' 1 MA (Jv n set).length (Jp (nz (Jv n set)))/\Rd w' 1 FA (Jl es set es.length).length (Jp (nz (Jl es set es.length)))/\Ext w w':=by
 have hn:=h.n32;have bf:set<4294967296:=nM hs (Gr hn);refine Jz Tryz.func52 Tryz.ntmps52 rfl kr rfl ?_;refine ρ ?_;refine bx (cs:=grC A c n es) ?_;intro w1 b1 cm gp em;refine ρ ?_;refine alc zPb ?_;intro w2 b2 ck fe eg;refine ρ ?_;refine alc zPb ?_;intro w3 b3 cj fd ar;have dc:=cm.trans (ck.trans cj);have b4:=(em.ext ck).ext cj;have ef:=eg.ext cj;refine ρ ?_;refine ld (b4.at (i:=0) rfl) ?_;refine ρ ?_;refine Zk (fun (k:Nat) (vM vC:Value)=>[(1,.int .u32 (set:Int)),(2,.pointer (some ⟨b1,0,none⟩)),(4,.pointer (some ⟨b2,0,none⟩)),(7,.pointer (some ⟨b3,0,none⟩)),(8,vM),(9,.slice none 0 0),(19,.int .i64 (n:Int)),(20,.int .i64 (k:Int))])
  (λk vM vC w'=>k<=n/\GrN (λi=>i=b3) w3 w'/\Qz w' w3.heap.size vM (Jv k set)/\OX 84 3 RtC (N1 w3.heap.size vM vC) w' w3.heap.size vC (List.replicate (Jv k set).length (PR.int 1))/\Blk w' b3 122 [vC,.slice none 0 0,.slice none 0 0]) (λk _ _=>n-k) 0 (.slice none 0 0) (.slice none 0 0) sB ⟨Nat.zero_le _,GrN.refl _ _,by simp[Jv,Qz];exact Xk _ _ _ _,by simp[Jv];exact OX.nil _ _,ar⟩ ?_
 rintro k vM vC w4 ⟨hk,a7,an,ap,d5⟩;refine ρ ?_;refine ci (λhc=>?_) (λhc=>?_)
 .have bz:k<n:=by have:=oT hc;omega
  clear hc;refine ρ ?_;refine Jfr (s:=set) (v:=k) om ?_;refine ρ ?_;rw[Jxd bf];refine ci (λhc=>?_) (λhc=>?_)
  .have cq:set.testBit k=true:=hc;have hmk:Jv (k+1) set=Jv k set++[k]:=by rw[Jzv,if_pos cq]
   have f4:=Jqp k set;refine ρ ?_;refine bsl (Gk _) ?_;intro w5 b5 Z gn fk;refine ρ ?_;refine apI (z:=k) (Jc an Z) fk om (nL a7.size Z.size) ?_;intro ch w6 ac a1 f3;rw[<-hmk]at ac;refine ρ ?_;have af:¬ vC.ownBlock=some b3:=λe=>by
    obtain⟨_,_,_,_,h3⟩:=id ap.form;have:=(h3 b3 e).1;have:=ar.lt;omega
   have ai:Ext w6 w6.drew:=(Ext.refl w6).drew;have c8:∀ k,vM.ownBlock=some k->w3.heap.size<=k:=λk e=>by
    obtain⟨_,_,_,_,h3⟩:=Jy an;exact(h3 k e).1
   have di:some b3≠vM.ownBlock:=λe=>by
    have:=c8 b3 e.symm;have:=ar.lt;omega
   have aq:=((d5.ext Z).grown a1 di).ext ai;have c2:=(((ap.ext RtC.sta Z).old RtC.sta (N':=λk=>N1 w3.heap.size vM vC k∨ch.ownBlock=some k) λk hk=>hk.elim .inl λhk=>(f3 k hk).imp (λhk=>.inr (.inr hk)) id).gr RtC.sta (GrN.by a1 λk e=>e) (M:=λk=>vM.ownBlock=some k) λk hk=>⟨.inl (.inr (.inr hk)),by
    obtain⟨_,_,ho⟩:=ap.own;exact Ub an ho rfl hk⟩)
   refine drN (λk=>vC.ownBlock=some k) 18 [(0,0),(0,1),(1,2),(1,3),(1,4),(0,5),(2,6)] kr ?_;refine ρn ?_;refine nld (λw' hg=>(Ja aq hg af).at (i:=0) rfl) ?_;refine ρn ?_;refine nop ?_;refine cl (Gl 1 (by decide) (by decide) _) ?_;rintro r w7 ⟨hr,bd⟩;obtain⟨D,e,F,f,rfl,hc⟩:=hr.cell;refine Qk (Qg (GrN.ext bd) ?_);refine ρn ?_;refine nop ?_;refine bsl (Jcg _ _ _ _ _ _ _) ?_;intro w8 b8 G fb d3;refine Qk (Qg (GrN.ext G) ?_);have aw:=ai.trans (bd.trans G);have e7:=(c2.ext RtC.sta aw).old RtC.sta (N':=λk=>(N1 w3.heap.size vM vC k∨ch.ownBlock=some k)∨w8.heap.size<=k) λk hk=>hk;have gm:(List.replicate (Jv k set).length (PR.int 1)).length=(Jv k set).length:=by simp
   refine ρn ?_;refine nop ?_;refine apX ERt RtC.sta e7 d3 rfl (Qq rfl rfl rfl) (RtC.sta.old (RtC.sta.gr hc (GrN.ext G)) λj hj=>?_) (λg hg=>.inl (.inl (.inr (.inl hg)))) om (by decide) (nL a7.size (nL Z.size (nL a1.size aw.size))) ?_
   .have z1:=a7.size;have z2:=Z.size;have z3:=a1.size;have z4:=ai.size;rcases hj with((hj|hj|hj)|hj)|hj
    .exact .inl (show j<w6.drew.heap.size by omega)
    .obtain⟨_,_,_,_,h3⟩:=id c2.form;have:=(h3 j hj).2;exact .inl (show j<w6.drew.heap.size by omega)
    .obtain⟨_,_,_,_,h3⟩:=Jy an;have:=(h3 j hj).2;exact .inl (show j<w6.drew.heap.size by omega)
    .obtain⟨_,_,_,_,h3⟩:=Jy ac;have:=(h3 j hj).2;exact .inl (show j<w6.drew.heap.size by omega)
    exact .inr hj
   intro g8 w9 ba a5 bw;obtain⟨_,g5,bp⟩:=e7.own;have cx:=Zq (Jc ac aw) bp a5 rfl;have bg:List.replicate (Jv k set).length (PR.int 1)++[PR.int 1]=List.replicate (Jv (k+1) set).length (PR.int 1):=by rw[hmk,List.length_append,List.length_singleton,List.replicate_succ']
   rw[bg]at ba;obtain⟨U,uc,eU,gd,_⟩:=id ba.form;subst eU;have cv:¬ (Value.slice U (List.replicate (Jv (k+1) set).length (PR.int 1)).length uc).ownBlock=some b3:=λe=>by
    obtain⟨_,_,_,_,h3⟩:=id ba.form;have:=(h3 b3 e).1;have:=ar.lt;omega
   have cu:¬ ch.ownBlock=some b3:=λe=>by
    obtain⟨_,_,_,_,h3⟩:=Jy ac;have:=(h3 b3 e).1;have:=ar.lt;omega
   refine Qk (Qg (GrN.by a5 λk e=>e) ?_);have d2:=(aq.ext (bd.trans G)).grown a5 λe=>af e.symm;refine ρn ?_;refine Xm ?_;refine stF (i:=0) d2 rfl ?_;intro cg b6 c5;have bj:GrN (λi=>i=b3) w9 cg:=GrN.by c5 λk hk=>by injection hk with hk;exact hk.symm
   have eb:=ba.gr RtC.sta bj λk hk=>⟨.inl (.inl (.inl (by rw[hk];exact ar.lt))),by rw[hk];exact cv⟩;have dx:=Jo cx bj λg hg e=>cu (e ▸ hg);refine Qk (Uf ?_);refine ρn ?_;refine ρ ?_;refine Qa (k+1) _ _ sO ⟨om,?_,dx,eb.old RtC.sta λi hi=>?_,b6⟩ om
   .exact((((a7.trans (GrN.ext Z)).by2 a1 λk e=>.inl (c8 k e)).trans (GrN.ext aw)).by2 a5 λi e=>.inl (by
     obtain⟨_,_,_,_,h3⟩:=id ap.form;exact(h3 i e).1)).by2 c5 λi e=>.inr (by injection e with e;exact e.symm)
   rcases hi with hi|hi|hi
   .exact .inl (.inl (.inl (.inl hi)))
   .exact .inl ((bw i hi).elim (λh=>.inl (.inl (.inr (.inl h)))) .inr)
   exact .inl (.inl (.inr hi))
  have cq:¬ set.testBit k=true:=by rw[hc];decide
  have hmk:Jv (k+1) set=Jv k set:=by rw[Jzv,if_neg cq]
  refine ρ ?_;exact Qa (k+1) _ _ sO ⟨om,a7,by rw[hmk];exact an,by rw[hmk];exact ap,d5⟩ om
 have f5:k=n:=by have:=oF hc;omega
 subst f5;clear hk hc;have gl:=a7;refine ρ ?_;refine mkm 25 ?_;intro w5 bm Z cr co;have gk:=em.lt;have gj:=eg.lt;have gi:=ar.lt;have gb:=a7.size;have ej:=Ja b4 (a7.trans (GrN.ext Z)) om;have cn:w.heap.size<=b3:=nL (cm.trans ck).size fd;have av:Ext w w4:=a7.old dc λk e=>by rw[e];exact cn
 have e0:Jl es set 0=[]:=rfl;refine ρ ?_;refine ld (ej.at (i:=1) rfl) ?_;obtain⟨MA,mc,eM,gh,cw⟩:=Jy an;have dq:=Jc an Z;subst eM;have f4:=Jqp k set;refine ρ ?_;refine Kl (fun (i:Nat) (vF vA vB:Value)=>[(1,.int .u32 (set:Int)),(2,.pointer (some ⟨b1,0,none⟩)),(4,.pointer (some ⟨b2,0,none⟩)),(7,.pointer (some ⟨b3,0,none⟩)),(8,.slice MA (Jv k set).length mc),(9,vF),(11,.map (some bm)),(41,.slice A es.length c),(42,.int .i64 (es.length:Int)),(43,.int .i64 (i:Int))])
  (λi vF vA vB w'=>i<=es.length/\GrN (λi=>i=b3∨i=bm) w5 w'/\Qz w' w5.heap.size vF (Jl es set i)/\OX 80 1 MxC (N2 w5.heap.size vF vA vB) w' w5.heap.size vA (pkA k es set i)/\OX 84 3 RtC (N2 w5.heap.size vF vA vB) w' w5.heap.size vB (List.replicate (Jl es set i).length (PR.int 1))/\Blk w' b3 122 [vC,vA,vB]/\(∃ m f,m<=i/\MapS Tryz.prog 25 w' bm m f/\∀ p:Nat,0<p->p<4294967296->(f (.int .u32 (p:Int))).getD (.bool false)=.bool (Vn es set i p)))
  (λi _ _ _=>es.length-i) 0 (.slice none 0 0) (.slice none 0 0) (.slice none 0 0) sB ⟨Nat.zero_le _,GrN.refl _ _,by rw[e0];exact Xk _ _ _ _,by rw[pkA,e0];exact OX.nil _ _,by rw[e0];exact OX.nil _ _,d5.ext Z,0,_,Nat.le_refl _,co,λp _ _=>rfl⟩ ?_
 rintro i vF vA vB w6 ⟨hi,a1,ao,bb,ab,aq,m,f,gg,ac,c0⟩;have ga:=Z.size;refine ρ ?_;refine ci (λhc=>?_) (λhc=>?_)
 .have bz:i<es.length:=by have:=oT hc;omega
  clear hc;have bc:Ext w w6:=a1.old (av.trans Z) λk e=>e.elim (λe=>by rw[e];exact cn) λe=>by rw[e];exact nL av.size cr
  have hm:=getD_mem' 0 es bz;have h6:=h.ext bc;refine ρ ?_;refine ix i h6.rd bz ?_;refine ρ ?_;refine ld (h6.rd.cell (Jct bz)) ?_;refine ρ ?_;have dg:=h6.lt32 hm;have bv:es.getD i 0 &&& set<4294967296:=nN Nat.and_le_right bf;have f7:=Jkl es set i;have fa:bits .and .u32 ((es.getD i 0:Nat):Int) ((set:Nat):Int)=((es.getD i 0 &&& set:Nat):Int):=u32_and_nat _ _ dg bf;rw[fa];have ge:Jl es set (i+1)=Jl es set i->∀ w',GrN (λi=>i=b3∨i=bm) w5 w'->True:=λ_ _ _=>trivial;by_cases hp0:es.getD i 0 &&& set=0
  .refine kt 53 ?_ ?_
   .rw[hp0];rfl
   refine ρ ?_;have hk:=Jqv (E:=es) (set:=set) (i:=i) (.inl hp0);refine Yz (i+1) _ _ _ sO ⟨om,a1,by rw[hk];exact ao,by rw[pkA,hk];exact bb,by rw[hk];exact ab,aq,m,f,om,ac,λp h1 h2=>?_⟩ om;rw[c0 p h1 h2,Jvg,hp0,show(0 == p)=false from beq_eq_false_iff_ne.2 om,Bool.or_false]
  refine kf 53 ?_ ?_
  .exact beq_eq_false_iff_ne.2 om
  refine ρ ?_;refine mlk KU ac zBl (Maps.keyOf_int_mk Tryz.underlying25 (a:=((es.getD i 0 &&& set:Nat):Int)) (wfU bv)) ?_;rw[c0 (es.getD i 0 &&& set) om bv];refine ρ ?_;refine ci (λhc=>?_) (λhc=>?_)
  .refine ρ ?_;have hk:=Jqv (E:=es) (set:=set) (i:=i) (.inr hc);refine Yz (i+1) _ _ _ sO ⟨om,a1,by rw[hk];exact ao,by rw[pkA,hk];exact bb,by rw[hk];exact ab,aq,m,f,om,ac,λp h1 h2=>?_⟩ om;rw[c0 p h1 h2,Jvg];by_cases e:es.getD i 0 &&& set=p
   .subst e;rw[hc];rfl
   rw[beq_eq_false_iff_ne.2 e,Bool.or_false]
  have hk:=Jkk hp0 hc;have az:∀ k,vF.ownBlock=some k->w5.heap.size<=k:=λk e=>by
   obtain⟨_,_,_,_,h3⟩:=Jy ao;exact(h3 k e).1
  have ah:∀ k,vA.ownBlock=some k->w5.heap.size<=k/\k<w6.heap.size:=λk e=>by
   obtain⟨_,_,_,_,h3⟩:=id bb.form;exact h3 k e
  have aa:∀ k,vB.ownBlock=some k->w5.heap.size<=k/\k<w6.heap.size:=λk e=>by
   obtain⟨_,_,_,_,h3⟩:=id ab.form;exact h3 k e
  have dh:bm<w5.heap.size:=co.lt;refine ρ ?_;refine mup KU ac (by unfold maxLen;omega) (Maps.keyOf_int_mk Tryz.underlying25 (a:=((es.getD i 0 &&& set:Nat):Int)) (wfU bv)) ?_;intro w7 cy ae;have a2:GrN (λi=>i=bm) w6 w7:=GrN.by ae λk e=>by injection e with e;exact e.symm
  have bo:=Jo ao a2 λg hg e=>by have:=az g hg;omega
  have c3:=bb.gr MxC.sta a2 λk e=>⟨.inl om,λe'=>by have:=(ah k e').1;omega⟩;have c1:=ab.gr RtC.sta a2 λk e=>⟨.inl om,λe'=>by have:=(aa k e').1;omega⟩;have d4:=Ja aq a2 om;refine ρ ?_;refine bsl (Gk _) ?_;intro w8 b8 G fb d3;refine ρ ?_;refine apI (z:=i) (Jc bo G) d3 om (nL a1.size (nL ae.size G.size)) ?_;intro a3 w9 cz a5 bw;rw[<-hk]at cz;have bh:GrN (λi=>i=b3∨i=bm) w5 w9:=((a1.by2 ae λq e=>.inr (by injection e with e;exact .inr e.symm)).trans (GrN.ext G)).by2 a5 λq e=>.inl (az q e);have cx:=Jo dq bh λg hg e=>by
   have:=cw g hg;omega
  have dl:=Rd.own cx;refine ρ ?_;refine Qd (fun (j:Nat) (vR:Value)=>[(1,.int .u32 (set:Int)),(2,.pointer (some ⟨b1,0,none⟩)),(4,.pointer (some ⟨b2,0,none⟩)),(7,.pointer (some ⟨b3,0,none⟩)),(8,.slice MA (Jv k set).length mc),(9,a3),(11,.map (some bm)),(14,.int .u32 ((es.getD i 0 &&& set:Nat):Int)),(15,vR),(41,.slice A es.length c),(42,.int .i64 (es.length:Int)),(43,.int .i64 (i:Int)),(64,.slice MA (Jv k set).length mc),(65,.int .i64 ((Jv k set).length:Int)),(66,.int .i64 (j:Int))])
   (λj vR w'=>j<=(Jv k set).length/\Ext w9 w'/\OX 84 3 RtC (λq=>q<w9.heap.size∨vR.ownBlock=some q) w' w9.heap.size vR (((Jv k set).take j).map λv=>PR.int (((es.getD i 0) &&& set).testBit v).toNat)) (λj _=>(Jv k set).length-j) 0 (.slice none 0 0) sB ⟨Nat.zero_le _,Ext.refl _,OX.nil _ _⟩ ?_
  rintro j vR cg ⟨hj,O,ag⟩;refine ρ ?_;refine ci (λhc=>?_) (λhc=>?_)
  .have aj:j<(Jv k set).length:=by have:=oT hc;omega
   clear hc;refine ρ ?_;refine ix j (dl.ext O) aj ?_;refine ρ ?_;refine ld ((dl.ext O).cell (Qn aj)) ?_;refine ρ ?_;have gc:(Jv k set).getD j 0<k:=Jmc (getD_mem' 0 _ aj);refine Jfr (s:=es.getD i 0 &&& set) (v:=(Jv k set).getD j 0) om ?_;refine ρ ?_;refine Go.Wk.kv 75 (u:=.int .i64 (((es.getD i 0 &&& set).testBit ((Jv k set).getD j 0)).toNat:Int)) (congrArg (Value.int .i64) ?_) ?_
   .rw[Qmx bv];exact Vf (by cases (es.getD i 0 &&& set).testBit ((Jv k set).getD j 0)<;>decide)
   refine cl (Gl ((((es.getD i 0 &&& set).testBit ((Jv k set).getD j 0)).toNat:Nat):Int) (by cases (es.getD i 0 &&& set).testBit ((Jv k set).getD j 0)<;>decide) (by cases (es.getD i 0 &&& set).testBit ((Jv k set).getD j 0)<;>decide) _) ?_;rintro r b9 ⟨hr,J⟩;obtain⟨D,e,F,f',rfl,f8⟩:=hr.cell;refine ρ ?_;refine bsl (Jcg _ _ _ _ _ _ _) ?_;intro ce gs ay g3 bs;have dj:=((ag.ext RtC.sta J).ext RtC.sta ay).old RtC.sta (N':=λq=>(q<w9.heap.size∨vR.ownBlock=some q)∨ce.heap.size<=q) λq y=>y;have bl:∀ q,vR.ownBlock=some q->w9.heap.size<=q/\q<cg.heap.size:=λq e=>by
    obtain⟨_,_,_,_,h3⟩:=id ag.form;exact h3 q e
   refine ρ ?_;refine apX ERt RtC.sta dj bs rfl (Qq rfl rfl rfl) (RtC.sta.old (RtC.sta.gr f8 (GrN.ext ay)) λq y=>?_) (λg hg=>.inl (.inr hg)) (by simp;omega) (by decide) (nL O.size (nL J.size ay.size)) ?_
   .rcases y with(y|y)|y
    .exact .inl (nM y O.size)
    .exact .inl (bl q y).2
    exact .inr y
   intro g7 b7 c6 a8 df;refine ρ ?_;refine Qy (j+1) _ sO ⟨om,Js (O.trans (J.trans ay)) a8 λq e=>(bl q e).1,?_⟩ om;have e1:((Jv k set).take j).map (λv=>PR.int (((es.getD i 0) &&& set).testBit v).toNat)++[PR.int ((((es.getD i 0 &&& set).testBit ((Jv k set).getD j 0)).toNat:Nat):Int)]=((Jv k set).take (j+1)).map λv=>PR.int (((es.getD i 0) &&& set).testBit v).toNat:=by
    rw[List.take_add_one,List.getElem?_eq_getElem aj,List.map_append];simp[List.getD,List.getElem?_eq_getElem aj]
   rw[e1]at c6;exact c6.old RtC.sta λq y=>.inl (y.elim (λy=>.inl (.inl y)) λy=>(df q y).elim (λy=>.inl (.inr y)) .inr)
  have aj:j=(Jv k set).length:=by have:=oF hc;omega
  subst aj;rw[List.take_length]at ag;clear hc hj;have e6:∀ q,vB.ownBlock=some q->q<w9.heap.size:=λq e=>by have:=(aa q e).2;have:=ae.size;have:=G.size;have:=a5.size;omega
  have en:∀ q,vA.ownBlock=some q->q<w9.heap.size:=λq e=>by have:=(ah q e).2;have:=ae.size;have:=G.size;have:=a5.size;omega
  have bn:∀ q,a3.ownBlock=some q->w5.heap.size<=q/\q<w9.heap.size:=λq e=>by
   obtain⟨_,_,_,_,h3⟩:=Jy cz;exact h3 q e
  have g1:b3<w5.heap.size:=om
  have dz:∀ q,vF.ownBlock=some q->q<w9.heap.size:=λq e=>by
   obtain⟨_,_,_,_,h3⟩:=Jy ao;have:=(h3 q e).2;have:=ae.size;have:=G.size;have:=a5.size;omega
  have fu:=bh.size;have g0:=O.size;have d2:=(d4.ext G).grown a5 λe=>by have:=az b3 e.symm;omega
  have b6:=d2.ext O;have dm:=(cy.ext G).kept a5 λe=>by have:=az bm e.symm;omega
  have fm:=(((c3.ext MxC.sta G).old MxC.sta (N':=λq=>N2 w5.heap.size vF vA vB q∨a3.ownBlock=some q) λq y=>y.elim .inl λy=>(bw q y).imp (λy=>.inr (.inr (.inr y))) id).gr MxC.sta (GrN.by a5 λq e=>e) (M:=λq=>vF.ownBlock=some q) λq y=>⟨.inl (.inr (.inr (.inr y))),by
   obtain⟨_,_,ho⟩:=(c3.ext MxC.sta G).own;exact Ub (Jc bo G) ho rfl y⟩)
  have ba:=(((c1.ext RtC.sta G).old RtC.sta (N':=λq=>N2 w5.heap.size vF vA vB q∨a3.ownBlock=some q) λq y=>y.elim .inl λy=>(bw q y).imp (λy=>.inr (.inr (.inr y))) id).gr RtC.sta (GrN.by a5 λq e=>e) (M:=λq=>vF.ownBlock=some q) λq y=>⟨.inl (.inr (.inr (.inr y))),by
   obtain⟨_,_,ho⟩:=(c1.ext RtC.sta G).own;exact Ub (Jc bo G) ho rfl y⟩)
  have dk:∀ q,(N2 w5.heap.size vF vA vB q∨a3.ownBlock=some q)->q<w9.heap.size:=λq y=>by
   rcases y with(y|y|y|y)|y
   .omega
   .exact en q y
   .exact e6 q y
   .exact dz q y
   exact(bn q y).2
  obtain⟨RA,rc,eR,_,bl⟩:=id ag.form;subst eR;refine ρ ?_;refine ld (b6.at (i:=1) rfl) ?_;refine ρ ?_;refine bsl (Jsk _ _ _) ?_;intro b9 gt J g4 ek;have fz:=J.size;have cc:=((fm.ext MxC.sta O).ext MxC.sta J).old MxC.sta (N':=λq=>(N2 w5.heap.size vF vA vB q∨a3.ownBlock=some q)∨b9.heap.size<=q) λq y=>y;have ca:=((ba.ext RtC.sta O).ext RtC.sta J).old RtC.sta (N':=λq=>(N2 w5.heap.size vF vA vB q∨a3.ownBlock=some q)∨b9.heap.size<=q) λq y=>y;generalize hrow:(Jv k set).map (λv=>PR.int (((es.getD i 0) &&& set).testBit v).toNat)=row at *
  have gf:row.length=(Jv k set).length:=by rw[<-hrow];simp
  have fg:GX 3 RtC (λq=>(N2 w5.heap.size vF vA vB q∨a3.ownBlock=some q)∨b9.heap.size<=q) b9 (.slice RA row.length rc) row:=((ag.ext RtC.sta J).old RtC.sta (N':=λq=>(q<w9.heap.size∨(Value.slice RA row.length rc).ownBlock=some q)∨b9.heap.size<=q) λq y=>y).gx RtC.sta om λq y=>by
   rcases y with y|y
   .have:=dk q y;exact⟨.inl (.inl this),λe=>by have:=(bl q e).1;omega⟩
   exact⟨.inr y,λe=>by have:=(bl q e).2;omega⟩
  have dd:(pkA k es set i).length=(Jl es set i).length:=by simp[pkA]
  refine ρ ?_;refine apX EMx MxC.sta cc ek rfl (λu hu=>by rw[List.mem_singleton.1 hu];rfl) ⟨_,rfl,fg⟩ (λg hg=>.inl (.inl (.inr (.inl hg)))) om (by decide) om ?_;intro ad ce bt a9 c4;have f2:pkA k es set i++[row]=pkA k es set (i+1):=by rw[pkA,pkA,hk,List.map_append,<-hrow];rfl
  rw[f2]at bt;obtain⟨A',ft,fr,_,au⟩:=id bt.form;subst fr;have fy:=a9.size;obtain⟨_,_,bu⟩:=cc.own;obtain⟨_,_,d1⟩:=ca.own;have e5:=Zq (Jc cz (O.trans J)) bu a9 rfl;have ea:=ca.gr RtC.sta (GrN.by a9 λq e=>e) (M:=λq=>vA.ownBlock=some q) λq y=>⟨.inl (.inl (.inr (.inl y))),Ub bu d1 rfl y⟩;have bs:=(b6.ext J).grown a9 λe=>by have:=(ah b3 e.symm).1;omega
  have dw:=((dm.ext O).ext J).kept a9 λe=>by have:=(ah bm e.symm).1;omega
  refine ρ ?_;refine stF (i:=1) bs rfl ?_;intro b7 b4 a8;have am:GrN (λq=>q=b3) ce b7:=GrN.by a8 λq e=>by injection e with e;exact e.symm
  have fx:=a8.size;generalize hvA:Value.slice A' (pkA k es set (i+1)).length ft=ad at *
  have er:=(bt.old MxC.sta (N':=λq=>(N2 w5.heap.size vF vA vB q∨a3.ownBlock=some q)∨ad.ownBlock=some q) λq y=>.inl (y.elim .inl λy=>(c4 q y).imp (λy=>.inl (.inr (.inl y))) id)).gr MxC.sta am λq y=>⟨.inl (.inl (.inl om)),λe=>by have:=(au q e).1;omega⟩;have e9:=(ea.old RtC.sta (N':=λq=>(N2 w5.heap.size vF vA vB q∨a3.ownBlock=some q)∨ad.ownBlock=some q) λq y=>.inl (y.elim .inl λy=>(c4 q y).imp (λy=>.inl (.inr (.inl y))) id)).gr RtC.sta am λq y=>⟨.inl (.inl (.inl om)),λe=>by have:=(aa q e).1;omega⟩;have e4:=Jo e5 am λg hg e=>by have:=(bn g hg).1;omega
  have du:=dw.kept a8 λe=>by injection e with e;omega
  have ff:∀ q,((N2 w5.heap.size vF vA vB q∨a3.ownBlock=some q)∨ad.ownBlock=some q)->q<b7.heap.size:=λq y=>by
   rcases y with y|y
   .have:=dk q y;omega
   have:=(au q y).2;omega
  have ai:Ext b7 b7.drew:=(Ext.refl b7).drew;have ez:=ai.size;have ec:=b4.ext ai;have af:¬ vB.ownBlock=some b3:=λe=>by have:=(aa b3 e).1;omega
  refine ρ ?_;refine drN (λq=>vB.ownBlock=some q) 18 [(0,0),(0,1),(1,2),(1,3),(1,4),(0,5),(2,6)] kr ?_;refine ρn ?_;refine nld (λw' hg=>(Ja ec hg af).at (i:=2) rfl) ?_;refine ρn ?_;refine nop ?_;refine cl (Gl 1 (by decide) (by decide) _) ?_;rintro r g6 ⟨hr,be⟩;obtain⟨D,e,F,f',rfl,f9⟩:=hr.cell;refine Qk (Qg (GrN.ext be) ?_);refine ρn ?_;refine nop ?_;refine bsl (Jcg _ _ _ _ _ _ _) ?_;intro cd gq ax g2 d6;have a4:=ai.trans (be.trans ax);have f0:=a4.size;have c9:=(e9.ext RtC.sta a4).old RtC.sta (N':=λq=>((N2 w5.heap.size vF vA vB q∨a3.ownBlock=some q)∨ad.ownBlock=some q)∨cd.heap.size<=q) λq y=>y;have cb:=(er.ext MxC.sta a4).old MxC.sta (N':=λq=>((N2 w5.heap.size vF vA vB q∨a3.ownBlock=some q)∨ad.ownBlock=some q)∨cd.heap.size<=q) λq y=>y;refine Qk (Qg (GrN.ext ax) ?_);refine ρn ?_;refine nop ?_;refine apX ERt RtC.sta c9 d6 rfl (Qq rfl rfl rfl) (RtC.sta.old (RtC.sta.gr f9 (GrN.ext ax)) λq y=>y.elim (λy=>.inl (nM (ff q y) ez)) .inr) (λg hg=>.inl (.inl (.inl (.inr (.inr (.inl hg)))))) (by simp;omega) (by decide) om ?_
  intro db ey bq a6 de;have bg:List.replicate (Jl es set i).length (PR.int 1)++[PR.int 1]=List.replicate (Jl es set (i+1)).length (PR.int 1):=by rw[hk,List.length_append,List.length_singleton,List.replicate_succ']
  rw[bg]at bq;obtain⟨_,_,br⟩:=c9.own;obtain⟨_,_,d7⟩:=cb.own;have e3:=Zq (Jc e4 a4) br a6 rfl;have ep:=cb.gr MxC.sta (GrN.by a6 λq e=>e) (M:=λq=>vB.ownBlock=some q) λq y=>⟨.inl (.inl (.inl (.inr (.inr (.inl y))))),Ub br d7 rfl y⟩;have ei:=(ec.ext (be.trans ax)).grown a6 λe=>af e.symm;have dt:=(du.ext a4).kept a6 λe=>by have:=(aa bm e.symm).1;omega
  obtain⟨U,uc,eU,_,d0⟩:=id bq.form;subst eU;have fw:=a6.size;refine Qk (Qg (GrN.by a6 λq e=>e) ?_);refine ρn ?_;refine Xm ?_;refine stF (i:=2) ei rfl ?_;intro da eh bi;have ak:GrN (λq=>q=b3) ey da:=GrN.by bi λq e=>by injection e with e;exact e.symm
  generalize hvB:Value.slice U (List.replicate (Jl es set (i+1)).length (PR.int 1)).length uc=db at *
  have c7:∀ q,N2 w5.heap.size a3 ad db q->(((N2 w5.heap.size vF vA vB q∨a3.ownBlock=some q)∨ad.ownBlock=some q)∨cd.heap.size<=q):=λq y=>by
   rcases y with y|y|y|y
   .exact .inl (.inl (.inl (.inl y)))
   .exact .inl (.inr y)
   .exact(de q y).imp (λy=>.inl (.inl (.inr (.inr (.inl y))))) id
   exact .inl (.inl (.inr y))
  have eo:=(ep.gr MxC.sta ak λq y=>⟨.inl (.inl (.inl (.inl om))),λe=>by have:=(au q e).1;omega⟩).old MxC.sta λq y=>.inl (c7 q y);have e8:=(bq.gr RtC.sta ak λq y=>⟨.inl (.inl (.inl (.inl om))),λe=>by have:=(d0 q e).1;omega⟩).old RtC.sta λq y=>.inl (c7 q y);have e2:=Jo e3 ak λg hg e=>by have:=(bn g hg).1;omega
  have ds:=dt.kept bi λe=>by injection e with e;omega
  have cp:GrN (λi=>i=b3∨i=bm) w5 da:=((((bh.trans (GrN.ext (O.trans J))).by2 a9 λq e=>.inl (ah q e).1).by2 a8 λq e=>.inr (by injection e with e;exact .inl e.symm)).trans (GrN.ext a4)).by2 a6 (λq e=>.inl (aa q e).1) |>.by2 bi λq e=>.inr (by injection e with e;exact .inl e.symm);refine Qk (Uf ?_);refine ρn ?_;refine ρ ?_;refine Yz (i+1) _ _ _ sO ⟨om,cp,e2,eo,e8,eh,m+1,_,om,ds,λp h1 h2=>?_⟩ om;rw[Jvg];by_cases e:es.getD i 0 &&& set=p
  .subst e;rw[Jjt (by trivial)];simp
  rw[Jjs (λe'=>e (by injection e' with _ e';omega)),c0 p h1 h2,beq_eq_false_iff_ne.2 e,Bool.or_false]
 have f6:i=es.length:=by have:=oF hc;omega
 subst f6;obtain⟨eu,et,fo,_,bp⟩:=id ap.form;obtain⟨ex,ew,fq,_,fl⟩:=id bb.form;obtain⟨d9,d8,fp,_,fi⟩:=id ab.form;obtain⟨gw,gu,fn,_,fh⟩:=Jy ao;have dh:bm<w5.heap.size:=co.lt;have c2:=((ap.old RtC.sta (N':=λq=>N1 w3.heap.size (.slice MA (Jv k set).length mc) vC q∨q=bm) λq y=>y.imp id λy=>by rw[y];exact cr).ext RtC.sta Z).gr RtC.sta a1 λq y=>y.elim (λy=>⟨.inl (.inl om),λe=>by have:=(bp q e).1;omega⟩) λy=>⟨.inr y,λe=>by have:=(bp q e).2;omega⟩;have dn:=Jo dq a1 λg hg e=>by
  have:=cw g hg;omega
 have ee:=Ja (Ja (ef.ext (Ext.refl _)) (a7.trans (GrN.ext Z)) om) a1 om;subst fo;subst fq;subst fp;subst fn;refine ρ ?_;refine lds (cs:=[.slice eu _ et,.slice ex _ ew,.slice d9 _ d8]) (λj u hu=>aq.at hu) ?_;refine ρ ?_;refine stb (cs':=[.slice eu _ et,.slice ex _ ew,.slice d9 _ d8]) ee ?_ (λu hu=>by
  simp only[List.mem_cons,List.not_mem_nil,or_false]at hu;rcases hu with rfl|rfl|rfl<;>rfl)
 intro w7 d4 ae bd;have a2:GrN (λq=>q=b2) w6 w7:=GrN.by ae λq e=>by injection e with e;exact e.symm
 have g9:=a1.size;have c1:=(c2.gr RtC.sta a2 λq y=>⟨.inl (.inl om),λe=>by have:=(bp q e).1;omega⟩).gx (N':=Nn) RtC.sta (by simp;omega) λq y=>y.elim;have dd:(pkA k es set es.length).length=(Jl es set es.length).length:=by simp[pkA]
 have f7:=Jkl es set es.length;have c3:=(bb.gr MxC.sta a2 λq y=>⟨.inl om,λe=>by have:=(fl q e).1;omega⟩).gx (N':=Nn) MxC.sta om λq y=>y.elim;have ed:=(ab.gr RtC.sta a2 λq y=>⟨.inl om,λe=>by have:=(fi q e).1;omega⟩).gx (N':=Nn) RtC.sta (by simp;omega) λq y=>y.elim;have cy:=Rd.own (Jo dn a2 λg hg e=>by have:=cw g hg;omega);have bo:=Rd.own (Jo ao a2 λg hg e=>by have:=fh g hg;omega);have bc:Ext w w6:=a1.old (av.trans Z) λq e=>e.elim (λe=>by rw[e];exact cn) λe=>by rw[e];exact nL av.size cr
 have fj:GX 3 RtC Nn w7 (.slice d9 (List.replicate (Jl es set es.length).length (PR.int 1)).length d8) (List.replicate (Vq k es set).length (PR.int 1)):=by
  rw[show(Vq k es set).length=(Jl es set es.length).length from dd];exact ed
 refine ρ ?_;exact Jpj d4 ⟨_,_,_,_,_,_,_,rfl,c1,c3,fj,cy,bo,bd w bc (nL cm.size fe)⟩
open Go.RowKit Pl Go.Wk Bl
variable {E es is:List Nat}{l l1 l2 xs:List PR}{b i j n s set:Nat}
theorem Jzh(n:Nat)(E:List Nat)(set:Nat): (Vq n E set).length=(Jl E set E.length).length:=by simp[Vq]
theorem Jlc(hi:i<(Jl E set E.length).length): (Vq n E set).getD i []=(Jv n set).map λv=>PR.int (((E.getD (Jl E set E.length)[i] 0) &&& set).testBit v).toNat:=by
 unfold Vq;simp[List.getD,List.getElem?_map,List.getElem?_eq_getElem hi]
theorem Jlf(hi:i<(Jl E set E.length).length)(hj:j<(Jv n set).length): ((Vq n E set).getD i []).getD j pr0=PR.int (((E.getD (Jl E set E.length)[i] 0) &&& set).testBit (Jv n set)[j]).toNat:=by
 rw[Jlc hi];simp[List.getD,List.getElem?_map,List.getElem?_eq_getElem hj]
theorem Jld(n:Nat)(E:List Nat)(set:Nat): Bin (Jv n set).length (Vq n E set):=λi hi=>by
 rw[Jzh]at hi;refine⟨by rw[Jlc hi];simp,λj u=>?_⟩;rw[Jlf hi u];cases ((E.getD (Jl E set E.length)[i] 0) &&& set).testBit (Jv n set)[j]
 .exact .inl rfl
 exact .inr rfl
theorem Jbd(E:List Nat)(set:Nat): ∀ {i k:Nat},k<i->(E.getD k 0) &&& set≠0->∃ x∈Jl E set i,(E.getD x 0) &&& set=(E.getD k 0) &&& set
 | i+1,k,hk,h0=>by
  by_cases e:k=i
  .subst e;cases hs:Vn E set k ((E.getD k 0) &&& set) with
   | true=>
    obtain⟨x,hx,e⟩:=List.any_eq_true.1 hs;have e:=eq_of_beq e;obtain⟨y,hy,e2⟩:=Jbd E set (List.mem_range.1 hx) (by rw[e];exact h0);exact⟨y,by rw[Jqv (.inr hs)];exact hy,e2.trans e⟩
   | false=>exact⟨k,by rw[Jkk h0 hs];simp,rfl⟩
  obtain⟨x,hx,e2⟩:=Jbd E set (show k<i by omega) h0;refine⟨x,?_,e2⟩;by_cases h1:(E.getD i 0) &&& set=0∨Vn E set i ((E.getD i 0) &&& set)=true
  .rw[Jqv h1];exact hx
  rw[Jkk (λe=>h1 (.inl e)) (by cases hs:Vn E set i ((E.getD i 0) &&& set);rfl;exact absurd (.inr hs) h1)];simp[hx]
theorem Jbc{E:List Nat}{set:Nat}: ∀ {i x:Nat},x∈Jl E set i->x<i
 | i+1,x,h=>by
  by_cases h1:(E.getD i 0) &&& set=0∨Vn E set i ((E.getD i 0) &&& set)=true
  .rw[Jqv h1]at h;have:=Jbc h;omega
  rw[Jkk (λe=>h1 (.inl e)) (by cases hs:Vn E set i ((E.getD i 0) &&& set);rfl;exact absurd (.inr hs) h1)]at h;rcases List.mem_append.1 h with h|h
  .have:=Jbc h;omega
  rw[List.mem_singleton.1 h];omega
theorem noC: ∀ u∈[Value.slice none 0 0,.slice none 0 0,.bool false,.slice none 0 0,.slice none 0 0],∀ z,u≠.int .u32 z:=λu i z e=>by
 simp only[List.mem_cons,List.not_mem_nil,or_false]at i;rcases i with rfl|rfl|rfl|rfl|rfl<;>cases e
def Covd(n:Nat)(E:List Nat)(set:Nat): Prop:=∀ v,v<n->set.testBit v=true->∃ k,k<E.length/\(E.getD k 0).testBit v=true
theorem Jyc(h:Covd n E set): ∀ j,j<(Jv n set).length->∃ i,i<(Vq n E set).length/\Xp (Vq n E set) i j=1:=λj U=>by
 have J:(Jv n set)[j]∈Jv n set:=List.getElem_mem _;obtain⟨G,D⟩:=List.mem_filter.1 J;obtain⟨k,O,y⟩:=h _ (List.mem_range.1 G) D;have u:((E.getD k 0) &&& set).testBit (Jv n set)[j]=true:=by rw[Nat.testBit_and,y,D];rfl
 obtain⟨x,F,e⟩:=Jbd E set O (λe=>by rw[e]at u;simp at u);obtain⟨i,hi,Z⟩:=List.getElem_of_mem F;refine⟨i,by rw[Jzh];exact hi,?_⟩;unfold Xp;rw[Jlf hi U,Z,e,u];decide +kernel
def Vw(l:List PR)(is:List Nat)(xs:List PR)(i:Nat): List PR:=Yn l (is.take i) (xs.take i)
theorem Jhp(l:List PR)(is:List Nat)(xs:List PR): Vw l is xs 0=l:=by simp[Vw,Yn]
theorem Jzd(h:is.length=xs.length): Vw l is xs is.length=Yn l is xs:=by
 rw[Vw,List.take_length,h,List.take_length]
theorem Jhn(hi:i<is.length)(hx:i<xs.length): Vw l is xs (i+1)=(Vw l is xs i).set is[i] xs[i]:=by
 unfold Vw Yn;rw[List.take_add_one,List.take_add_one,List.getElem?_eq_getElem hi,List.getElem?_eq_getElem hx,List.zip_append (by simp;omega),List.foldl_append];rfl
theorem Jzc(l:List PR)(is:List Nat)(xs:List PR)(i:Nat): (Vw l is xs i).length=l.length:=by
 unfold Vw Yn;generalize (is.take i).zip (xs.take i)=z
 induction z generalizing l with
 | nil=>rfl
 | cons p z ih=>rw[List.foldl_cons,ih,List.length_set]
abbrev NZ(s b:Nat)(v1 v2:Value): Nat->Prop:=λk=>k<s∨k=b∨v1.ownBlock=some k∨v2.ownBlock=some k
structure TwoZ(s b:Nat)(w:World)(v1 v2:Value)(l1 l2:List PR): Prop where
 o1:∃ base,OX 84 3 RtC (NZ s b v1 v2) w base v1 l1
 o2:∃ base,OX 84 3 RtC (NZ s b v1 v2) w base v2 l2
 ne:∀ k,v1.ownBlock=some k->v2.ownBlock≠some k
 f1:∀ k,v1.ownBlock=some k->s<=k
 f2:∀ k,v2.ownBlock=some k->s<=k
theorem TwoZ.ext{s b:Nat}{w w':World}{v1 v2:Value}{l1 l2:List PR}(h:TwoZ s b w v1 v2 l1 l2)(hx:Ext w w'): TwoZ s b w' v1 v2 l1 l2:=by
 obtain⟨⟨_,D⟩,⟨_,y⟩,u,j,i⟩:=h;exact⟨⟨_,D.ext RtC.sta hx⟩,⟨_,y.ext RtC.sta hx⟩,u,j,i⟩
theorem twoZ{wa w1 wb w2:World}{v1 v2:Value}(hs:s<=wa.heap.size)(h1:OX 84 3 RtC (Ov wa v1) w1 wa.heap.size v1 l1)(hx0:Ext wa w1)(hx1:Ext w1 wb)(h2:OX 84 3 RtC (Ov wb v2) w2 wb.heap.size v2 l2)(hx2:Ext wb w2)(hb:b<wa.heap.size∨(w1.heap.size<=b/\b<wb.heap.size)∨w2.heap.size<=b): TwoZ s b w2 v1 v2 l1 l2:=by
 obtain⟨_,_,_,_,f1⟩:=id h1.form;obtain⟨_,_,_,_,j⟩:=id h2.form;have z0:=hx0.size;have D:=hx1.size;have y:=hx2.size;refine⟨⟨_,(h1.old RtC.sta (N':=NZ s b v1 v2) λk i=>?_).ext RtC.sta (hx1.trans hx2)⟩,⟨_,h2.old RtC.sta λk i=>?_⟩,λk e u=>?_,λk e=>nL hs (f1 k e).1,λk e=>?_⟩
 .rcases i with i|i|i|i
  .exact .inl (.inl om)
  .rcases hb with hb|hb|hb
   .exact .inl (.inl om)
   .exact .inr om
   exact .inr om
  .exact .inl (.inr i)
  exact .inr (by have:=(j k i).1;omega)
 .rcases i with i|i|i|i
  .exact .inl (.inl om)
  .rcases hb with hb|hb|hb
   .exact .inl (.inl om)
   .exact .inl (.inl om)
   exact .inr om
  .exact .inl (.inl (by have:=(f1 k i).2;omega))
  exact .inl (.inr i)
 .have:=(f1 k e).2;have:=(j k u).1;omega
 have:=(j k e).1;omega
theorem Kd: Qu Tryz.prog 86=some (.agg #[.slice none 0 0,.slice none 0 0,.bool false,.slice none 0 0,.slice none 0 0]):=kr
theorem Jkx(A B C D:Option Addr)(m c m' c' k d k' d':Nat)(b:Bool)(w:World): (Instr.build 86 #[(0,.slice A m c),(1,.slice B m' c'),(2,.agg #[.bool b,.slice C k d,.slice D k' d'])]).run Tryz.prog w=.ok (.agg #[.slice A m c,.slice B m' c',.bool b,.slice C k d,.slice D k' d']) w:=kr
theorem Jlk{E:List Nat}: ∀ {i v:Nat},i<=E.length->(((List.range i).foldl (λa k=>a ||| E.getD k 0) 0).testBit v=true↔∃ k,k<i/\(E.getD k 0).testBit v=true)
 | 0,v,_=>by simp
 | i+1,v,h=>by
  rw[List.range_succ,List.foldl_append,List.foldl_cons,List.foldl_nil,Nat.testBit_or,Bool.or_eq_true,Jlk om];constructor
  .rintro(⟨k,hk,e⟩|e)
   .exact⟨k,om,e⟩
   exact⟨i,om,e⟩
  rintro⟨k,hk,e⟩;by_cases h1:k=i
  .subst h1;exact .inr e
  exact .inl ⟨k,om,e⟩
def orK(E:List Nat)(i:Nat): Nat:=(List.range i).foldl (λa k=>a ||| E.getD k 0) 0
theorem Jll(E:List Nat)(i:Nat): orK E (i+1)=orK E i ||| E.getD i 0:=by unfold orK;rw[List.range_succ,List.foldl_append];rfl
theorem Qhk{w:World}{A:Option Addr}{c fuel:Nat}{pc:PC}(h:GrV w A c n es)(hs:set<2^n)(h0:set≠0)(hm:es.length<=5)(hcv:Covd n es set)(hf:((Jv n set).length+(Jl es set es.length).length)^(Jl es set es.length).length<=fuel)(hpc:cvr fuel n es set=some pc):
  Ret Tryz.prog 27 [.agg (grC A c n es).toArray,.int .u32 (set:Int)] w λu w'=>∃ W P q1 q2,u=.tuple #[.agg #[W,P,.bool pc.val.neg,q1,q2],.int .i64 0]/\GX 3 RtC Nn w' W pc.ws/\GX 3 RtC Nn w' P pc.ps/\NatX Nn w' q1 pc.val.num/\NatX Nn w' q2 pc.val.den/\Ext w w':=by
 have hn:=h.n32;have ez:=Gr hn;have aq:set<4294967296:=om
 obtain⟨t',bz,e6⟩:=Option.map_eq_some_iff.1 hpc;rw[<-Jzh n]at bz hf;have f4:=Jqp n set;have f0:=Jzh n es set;have f7:=Jkl es set es.length;have et:0<(Vq n es set).length:=by
  obtain⟨v,hv⟩:=Nat.exists_testBit_of_ne_zero h0;have ap:v<n:=Nat.lt_of_not_le λc0=>by
   rw[Nat.testBit_lt_two_pow (nM hs (Nat.pow_le_pow_right (n:=2) (by decide) c0))]at hv;cases hv
  have e3:v∈Jv n set:=List.mem_filter.2 ⟨List.mem_range.2 ap,hv⟩;obtain⟨j,hj,_⟩:=List.getElem_of_mem e3;obtain⟨i,hi,_⟩:=Jyc hcv j hj;omega
 obtain⟨cx,cv⟩:t'.point.length=(Jv n set).length/\t'.dual.length=(Jl es set es.length).length:=by
  obtain⟨_,t2,S,cu,hS,_⟩:=Jlg (Jld n es set) (Jyc hcv) hf;rw[bz]at cu;cases cu
  have h1:=hS.en;have h2:=hS.em;have h3:=hS.agr.ok.goal.1;refine⟨by simp[PT.point,h1],?_⟩;simp only[PT.dual,List.length_take,List.length_drop,h3];simp only[PT.right];omega
 refine Jz Tryz.func27 Tryz.ntmps27 rfl kr rfl ?_;refine ρ ?_;refine bx (cs:=grC A c n es) ?_;intro w1 b1 bw f8 er;refine ρ ?_;refine alc Kd ?_;intro w2 b2 bv e9 da;have a4:=er.ext bv;refine ρ ?_;refine lds (cs:=grC A c n es) (λj u F=>a4.at F) ?_;refine ρ ?_;refine cl (Qfl ((h.ext bw).ext bv)) ?_;rintro u w3 ⟨rfl,b9⟩;have ak:=a4.ext b9;refine ρ ?_;refine lds (cs:=grC A c n es) (λj u F=>ak.at F) ?_;refine ρ ?_;refine cl (Qqc (w:=w3) hn) ?_;rintro u w4 ⟨rfl,b8⟩;have b5:=ak.ext b8;have f3:0<2^n:=Nat.two_pow_pos n;refine ρ ?_;refine cf ?_ ?_
 .rw[Jcn aq om,Jtk hs hn];rfl
 refine ρ ?_;refine ld (b5.at (i:=1) rfl) ?_;have be:=bw.trans (bv.trans (b9.trans b8));have h4:=h.ext be;refine ρ ?_;refine Jh (fun (i:Nat)=>[(1,.int .u32 (set:Int)),(2,.pointer (some ⟨b1,0,none⟩)),(4,.pointer (some ⟨b2,0,none⟩)),(7,.int .u32 ((orK es i:Nat):Int)),(33,.slice A es.length c),(34,.int .i64 (es.length:Int)),(35,.int .i64 (i:Int))]) (λi w'=>i<=es.length/\w'=w4/\orK es i<4294967296) (λi=>es.length-i) 0 sB ⟨Nat.zero_le _,rfl,show 0<4294967296 by decide⟩ ?_;rintro i w5 ⟨hi,rfl,ho⟩;refine ρ ?_;refine ci (λhc=>?_) (λhc=>?_)
 .have a1:i<es.length:=by have:=oT hc;omega
  clear hc;refine ρ ?_;refine ix i h4.rd a1 ?_;refine ρ ?_;refine ld (h4.rd.cell (Jct a1)) ?_;have bj:=h4.lt32 (getD_mem' 0 es a1);refine ρ ?_;rw[Qmv ho bj,<-Jll];exact Jg (i+1) sO ⟨om,rfl,by rw[Jll];exact Qym ho bj⟩ om
 have av:i=es.length:=by have:=oF hc;omega
 subst av;clear hc hi;have d0:Jxf set (orK es es.length)=0:=by
  apply Nat.eq_of_testBit_eq
  intro v;rw[Jtl aq ho,Nat.zero_testBit];cases hb:set.testBit v with
  | false=>rfl
  | true=>
   have hv:v<n:=Nat.lt_of_not_le λc0=>by
    rw[Nat.testBit_lt_two_pow (nM hs (Nat.pow_le_pow_right (n:=2) (by decide) c0))]at hb;cases hb
   have:=(Jlk (E:=es) (v:=v) (nR _)).2 (hcv v hv hb);unfold orK;rw[this];rfl
 refine ρ ?_;refine cf ?_ ?_
 .rw[Jcn aq ho,d0];rfl
 refine ρ ?_;refine lds (cs:=grC A c n es) (λj u F=>b5.at F) ?_;refine ρ ?_;refine cl (Qyg h4 hs hm) ?_;rintro _ w6 ⟨vC,vA,vB,MA,mc,FA,fc,rfl,d9,df,bt,ej,ek,ck⟩;obtain⟨dj,di,_,rfl,_,_,_,_,_⟩:=id d9.el;obtain⟨dn,dm,_,rfl,_,_,_,_,_⟩:=id df.el;obtain⟨dl,dk,_,rfl,_,_,_,_,_⟩:=id bt.el;refine ρ ?_;refine alc zPb ?_;intro w7 b7 e1 e8 ep;refine ρ ?_;refine stb (cs':=[.slice dj _ di,.slice dn _ dm,.slice dl _ dk]) ep ?_ (λu F=>by
  simp only[List.mem_cons,List.not_mem_nil,or_false]at F;rcases F with rfl|rfl|rfl<;>rfl)
 intro w8 eo f6 e0;have ab:Ext w6 w8:=e0 w6 e1 e8;have eu:=ck.trans ab;refine ρ ?_;refine lds (cs:=[.slice dj _ di,.slice dn _ dm,.slice dl _ dk]) (λj u F=>eo.at F) ?_;refine cl (Qzg (d9.ext RtC.sta (by decide) ab) (df.ext MxC.sta (by decide) ab) (bt.ext RtC.sta (by decide) ab) (λk J=>J.elim) (Jld n es set) (Jyc hcv) om om et hf bz) ?_;rintro _ w9 ⟨X,Y,q1,q2,rfl,d2,d1,cq,cp,dz⟩;generalize hq:t'.goal.getD t'.right pr0=q at *
 obtain⟨X1,X2,_,rfl,_,_,_,_,_⟩:=id d2.el;obtain⟨Y1,Y2,_,rfl,_,_,_,_,_⟩:=id d1.el;obtain⟨Q1,c1,rfl⟩:=cq.1.sl;obtain⟨Q2,c2,rfl⟩:=cp.1.sl;refine ρ ?_;refine alc zSol ?_;intro ex cg co cz de;refine ρ ?_;refine stb (cs':=[.int .i64 0,.slice X1 _ X2,.slice Y1 _ Y2,.slice none 0 0,.bool q.neg,.slice Q1 _ c1,.slice Q2 _ c2]) de ?_ (λu F=>by
  simp only[List.mem_cons,List.not_mem_nil,or_false]at F;rcases F with rfl|rfl|rfl|rfl|rfl|rfl|rfl<;>rfl)
 intro a5 dd ew cn;have ao:Ext w9 a5:=cn w9 co cz;have an:Ext a5 a5.drew:=(Ext.refl a5).drew;have ae:=ab.trans (dz.trans ao);have ah:=ck.trans (ae.trans an);have bu:=b5.ext ah;have ac:=dd.ext an;refine ρ ?_;refine drH (λi=>i == 11) ?_;refine Ia (fuel':=5) 18 [(0,0),(0,1),(0,2),(0,4),(0,5),(0,7),(0,8)] #[true,true,true,false,true,true,false,true,true,false,false,false] kr kr rfl ?_;refine ρd ?_;refine dld (bu.at (i:=1) rfl) ?_;refine ρd ?_;refine dld (bu.at (i:=0) rfl) ?_;refine ρd ?_;refine Qj (cs:=[.bool q.neg,.slice Q1 (Jj q.num).length c1,.slice Q2 (Jj q.den).length c2]) (λj u F=>match j,F with
  | 0,F=>by injection F with F;subst F;exact ac.at (i:=4) rfl
  | 1,F=>by injection F with F;subst F;exact ac.at (i:=5) rfl
  | 2,F=>by injection F with F;subst F;exact ac.at (i:=6) rfl
  | j+3,F=>by cases F) ?_
 refine ρd ?_;refine Ie ?_;refine hcut 1 (lst 12 11) (fun (y:(Option Addr×Nat)×(Option Addr×Nat)×Nat)=>[(73,.agg #[.slice y.1.1 es.length y.1.2,.slice y.2.1.1 n y.2.1.2,.bool q.neg,.slice Q1 (Jj q.num).length c1,.slice Q2 (Jj q.den).length c2]),(15,.pointer (some ⟨y.2.2,0,none⟩)),(2,.pointer (some ⟨b1,0,none⟩)),(4,.pointer (some ⟨b2,0,none⟩)),(11,.slice MA (Jv n set).length mc),(12,.slice FA (Jl es set es.length).length fc),(13,.pointer (some ⟨cg,0,none⟩))])
  (λy W=>Ext a5.drew W/\TwoZ a5.drew.heap.size y.2.2 W (.slice y.1.1 es.length y.1.2) (.slice y.2.1.1 n y.2.1.2) (List.replicate es.length pr0) (List.replicate n pr0)/\Blk W y.2.2 86 [.slice none 0 0,.slice none 0 0,.bool false,.slice none 0 0,.slice none 0 0]/\a5.drew.heap.size<=y.2.2) ?_ ?_
 rotate_left
 .intro rest;have zl (m:Nat) (W:World) (hm:m<=64):=Qhj m (show m<=1000 by omega) W;refine Jqs 3 10 kr rfl rfl rfl ?_ ?_
  .refine cl (zl es.length _ om) ?_;rintro W v1 ⟨hW,a2⟩;obtain⟨W1,W2,_,eW,_,_⟩:=id hW.el;rw[List.length_replicate]at eW;subst eW;refine Qk (Qe (λ_=>a2) ?_);refine Jqs 6 10 kr rfl rfl rfl ?_ ?_
   .refine cl (zl n _ om) ?_;rintro P v2 ⟨hP,Z⟩;obtain⟨P1,P2,_,eP,_,_⟩:=id hP.el;rw[List.length_replicate]at eP;subst eP;have hZ (b:Nat) (hb:v2.heap.size<=b):=twoZ (b:=b) (nR _) hW a2 (Ext.refl _) hP Z (.inr (.inr hb));refine Qk (Qe (λ_=>Z) ?_);refine Jqs 9 10 kr rfl rfl rfl ?_ ?_
    .refine bld (Jkx _ _ _ _ _ _ _ _ _ _ _ _ _ _) ?_;refine Qk (Qe (λ_=>Ext.refl _) ?_);refine Zn 10 kr rfl rfl ?_;refine alc Kd ?_;intro v3 D O G U;refine Qk (Qe (λ_=>O) ?_);refine hlist (listed':=lst 12 11) kr ?_;exact rest ((W1,W2),(P1,P2),D) _ _ ⟨a2.trans (Z.trans O),(hZ D G).ext O,U,Nat.le_trans (a2.trans Z).size G⟩ sB
    refine alc Kd ?_;intro v3 D O G U;refine Qk (Qe (λ_=>O) ?_);refine Zn 9 kr rfl rfl ?_;refine bld (Jkx _ _ _ _ _ _ _ _ _ _ _ _ _ _) ?_;refine Qk (Qe (λ_=>Ext.refl _) ?_);refine hlist (listed':=lst 12 11) kr ?_;exact rest ((W1,W2),(P1,P2),D) _ _ ⟨a2.trans (Z.trans O),(hZ D G).ext O,U,Nat.le_trans (a2.trans Z).size G⟩ sB
   refine alc Kd ?_;intro v2 D Z G U;refine Qk (Qe (λ_=>Z) ?_);refine Zn 6 kr rfl rfl ?_;refine cl (zl n _ om) ?_;rintro P v3 ⟨hP,O⟩;obtain⟨P1,P2,_,eP,_,_⟩:=id hP.el;rw[List.length_replicate]at eP;subst eP;have hZ:=twoZ (b:=D) (nR _) hW a2 Z hP O (.inr (.inl ⟨G,U.lt⟩));refine Qk (Qe (λ_=>O) ?_);refine Zn 9 kr rfl rfl ?_;refine bld (Jkx _ _ _ _ _ _ _ _ _ _ _ _ _ _) ?_;refine Qk (Qe (λ_=>Ext.refl _) ?_);refine hlist (listed':=lst 12 11) kr ?_;exact rest ((W1,W2),(P1,P2),D) _ _ ⟨a2.trans (Z.trans O),hZ,U.ext O,Nat.le_trans a2.size G⟩ sB
  refine alc Kd ?_;intro v1 D a2 G U;refine Qk (Qe (λ_=>a2) ?_);refine Zn 3 kr rfl rfl ?_;refine cl (zl es.length _ om) ?_;rintro W v2 ⟨hW,Z⟩;obtain⟨W1,W2,_,eW,_,_⟩:=id hW.el;rw[List.length_replicate]at eW;subst eW;refine Qk (Qe (λ_=>Z) ?_);refine Zn 6 kr rfl rfl ?_;refine cl (zl n _ om) ?_;rintro P v3 ⟨hP,O⟩;obtain⟨P1,P2,_,eP,_,_⟩:=id hP.el;rw[List.length_replicate]at eP;subst eP;have hZ:=twoZ (b:=D) a2.size hW Z (Ext.refl _) hP O (.inl U.lt);refine Qk (Qe (λ_=>O) ?_);refine Zn 9 kr rfl rfl ?_;refine bld (Jkx _ _ _ _ _ _ _ _ _ _ _ _ _ _) ?_;refine Qk (Qe (λ_=>Ext.refl _) ?_);refine hlist (listed':=lst 12 11) kr ?_;exact rest ((W1,W2),(P1,P2),D) _ _ ⟨a2.trans (Z.trans O),hZ,(U.ext Z).ext O,G⟩ sB
 rintro⟨⟨W1,W2⟩,⟨P1,P2⟩,D⟩ dt ⟨bd,bl,a4,G⟩;simp only at bl a4 G ⊢;refine Zn 11 kr rfl rfl ?_;refine stb (cs':=[.slice W1 es.length W2,.slice P1 n P2,.bool q.neg,.slice Q1 (Jj q.num).length c1,.slice Q2 (Jj q.den).length c2]) a4 ?_ (λu F=>by
  simp only[List.mem_cons,List.not_mem_nil,or_false]at F;rcases F with rfl|rfl|rfl|rfl|rfl<;>rfl)
 intro cj ak bi bc;have dx:Ext a5.drew cj:=bc _ bd G;obtain⟨⟨dh,az⟩,⟨dg,b4⟩,cr,c6,c5⟩:=bl;have af:GrN (λk=>k=D) dt cj:=GrN.by bi λk e=>by injection e with e;exact e.symm
 obtain⟨_,_,ba⟩:=az.own;obtain⟨_,_,bb⟩:=b4.own;have bo:=az.gr RtC.sta af λk e=>⟨.inr (.inl e),by rw[e];exactλe'=>a4.ne_own ba kr e'.symm⟩;have br:=b4.gr RtC.sta af λk e=>⟨.inr (.inl e),by rw[e];exactλe'=>a4.ne_own bb kr e'.symm⟩;refine Qk (Qe (λh=>by cases h) ?_);refine Zx kr ?_;generalize hsz:a5.drew.heap.size=s at *
 clear az b4 ba bb a4 bd bc bi af;have cb:=bo.old RtC.sta (N':=λk=>k=D∨(Value.slice W1 es.length W2).ownBlock=some k∨(Value.slice P1 n P2).ownBlock=some k) λk J=>.inl (.inr J);have cd:=br.old RtC.sta (N':=λk=>k=D∨(Value.slice W1 es.length W2).ownBlock=some k∨(Value.slice P1 n P2).ownBlock=some k) λk J=>.inl (.inr J);clear bo br;have ei:∀ k,(k=D∨(Value.slice W1 es.length W2).ownBlock=some k∨(Value.slice P1 n P2).ownBlock=some k)->s<=k:=λk J=>by
  rcases J with J|J|J
  .omega
  .exact c6 k J
  exact c5 k J
 generalize hNN:(λk=>k=D∨(Value.slice W1 es.length W2).ownBlock=some k∨(Value.slice P1 n P2).ownBlock=some k)=NN at *
 have d6:∀ k,(Value.slice W1 es.length W2).ownBlock=some k->NN k:=λk J=>by rw[<-hNN];exact .inr (.inl J)
 have d5:∀ k,(Value.slice P1 n P2).ownBlock=some k->NN k:=λk J=>by rw[<-hNN];exact .inr (.inr J)
 have bs:∀ k,NN k->s<=k:=λk J=>ei k (by rw[<-hNN]at J;exact J);have ag:Ext w9 a5.drew:=ao.trans an;have ef:=(d2.ext RtC.sta (by decide) ag).old RtC.sta (by decide) (N':=NN) λk J=>.inr (by rw[hsz];exact bs k J);have ec:=(d1.ext RtC.sta (by decide) ag).old RtC.sta (by decide) (N':=NN) λk J=>.inr (by rw[hsz];exact bs k J);have d7:=ej.ext (ae.trans an);have d8:=ek.ext (ae.trans an);have cy:t'.point.length=(Jv n set).length:=cx;have cw:t'.dual.length=(Jl es set es.length).length:=cv;obtain⟨XA,XC,_,eX,_,_,ed,_,ee⟩:=id ef.el;injection eX with eXa _ eXc
 subst eXa;obtain⟨YA,YC,_,eY,_,_,ea,_,eb⟩:=id ec.el;injection eY with eYa _ eYc
 subst eYa;refine ρ ?_;refine Jh (fun (i:Nat)=>[(2,.pointer (some ⟨b1,0,none⟩)),(4,.pointer (some ⟨b2,0,none⟩)),(11,.slice MA (Jv n set).length mc),(12,.slice FA (Jl es set es.length).length fc),(13,.pointer (some ⟨cg,0,none⟩)),(15,.pointer (some ⟨D,0,none⟩)),(74,.slice MA (Jv n set).length mc),(75,.int .i64 ((Jv n set).length:Int)),(76,.int .i64 (i:Int))])
  (λi w'=>i<=(Jv n set).length/\Ext a5.drew w'/\OX 84 3 RtC NN w' dh (.slice W1 es.length W2) (List.replicate es.length pr0)/\OX 84 3 RtC NN w' dg (.slice P1 n P2) (Vw (List.replicate n pr0) (Jv n set) t'.point i)/\Blk w' D 86 [.slice W1 es.length W2,.slice P1 n P2,.bool q.neg,.slice Q1 (Jj q.num).length c1,.slice Q2 (Jj q.den).length c2]) (λi=>(Jv n set).length-i) 0 sB ⟨Nat.zero_le _,dx,cb,by rw[Jhp];exact cd,ak⟩ ?_
 rintro i b6 ⟨hi,ai,bn,b3,aa⟩;refine ρ ?_;refine ci (λhc=>?_) (λhc=>?_)
 .have a1:i<(Jv n set).length:=by have:=oT hc;omega
  clear hc;refine ρ ?_;refine ix i (d7.ext ai) a1 ?_;refine ρ ?_;refine ld ((d7.ext ai).cell (Qn a1)) ?_;refine ρ ?_;have c9:i<t'.point.length:=om
  have ap:(Jv n set).getD i 0<n:=Jmc (getD_mem' 0 _ a1);have a3:Ext b6 b6.drew:=(Ext.refl b6).drew;have a8:=ai.trans a3;have cc:=b3.ext RtC.sta a3;have bg:n=(Vw (List.replicate n pr0) (Jv n set) t'.point i).length:=by rw[Jzc];simp
  obtain⟨ce,_,ar,c7⟩:=ee i c9;have au:=Jhn (l:=List.replicate n pr0) a1 c9;rw[show(Jv n set)[i]=(Jv n set).getD i 0 by simp[List.getD,List.getElem?_eq_getElem a1]]at au;generalize t'.point[i]=x at *
  obtain⟨F1,f1,F2,f2,rfl,e4⟩:=ar.sl;refine dr [(0,0),(0,1),(0,2),(0,3),(0,4),(0,5),(0,6),(0,7),(0,8),(2,9)] kr ?_;refine ρd ?_;refine dld ((aa.ext a3).at (i:=1) rfl) ?_;refine ρd ?_;refine dld ((ac.ext a8).at (i:=1) rfl) ?_;refine ρd ?_;refine Qp 3 i (ed.ext a8) c9 ?_;refine ρd ?_;refine Qj (λj u F=>Xx a8 (c7 j u F)) ?_;refine ρd ?_;obtain⟨_,eh⟩:=cc.rd bg;refine Qp 3 ((Jv n set).getD i 0) eh ap ?_;refine ρd ?_;refine Jf ?_;refine stX RtC.sta cc bg (show(Jv n set).getD i 0<_ by omega) (cs:=[.bool x.neg,.slice F1 _ f1,.slice F2 _ f2]) (a:=x) (RtC.sta.gr ar (GrN.ext a8)) d5 (Qq rfl rfl rfl) ?_;intro ds bq ax;have c4:GrN (λk=>(Value.slice P1 n P2).ownBlock=some k) b6.drew ds:=GrN.by ax λk e=>e
  rw[<-au]at bq;obtain⟨_,_,bb⟩:=cc.own;have d3:=(bn.ext RtC.sta a3).gr RtC.sta c4 λk e=>⟨d5 k e,λe'=>cr k e' e⟩;have U:=(aa.ext a3).grown ax λe=>(aa.ext a3).ne_own bb kr e;refine ρ ?_;exact Jg (i+1) sO ⟨om,Js a8 ax λk J=>by rw[hsz];exact c5 k J,d3,bq,U⟩ om
 have av:i=(Jv n set).length:=by have:=oF hc;omega
 subst av;clear hc hi;rw[Jzd cy.symm]at b3;refine ρ ?_;refine Jh (fun (i:Nat)=>[(2,.pointer (some ⟨b1,0,none⟩)),(4,.pointer (some ⟨b2,0,none⟩)),(12,.slice FA (Jl es set es.length).length fc),(13,.pointer (some ⟨cg,0,none⟩)),(15,.pointer (some ⟨D,0,none⟩)),(91,.slice FA (Jl es set es.length).length fc),(92,.int .i64 ((Jl es set es.length).length:Int)),(93,.int .i64 (i:Int))])
  (λi w'=>i<=(Jl es set es.length).length/\Ext a5.drew w'/\OX 84 3 RtC NN w' dh (.slice W1 es.length W2) (Vw (List.replicate es.length pr0) (Jl es set es.length) t'.dual i)/\OX 84 3 RtC NN w' dg (.slice P1 n P2) (Yn (List.replicate n pr0) (Jv n set) t'.point)/\Blk w' D 86 [.slice W1 es.length W2,.slice P1 n P2,.bool q.neg,.slice Q1 (Jj q.num).length c1,.slice Q2 (Jj q.den).length c2]) (λi=>(Jl es set es.length).length-i) 0 sB ⟨Nat.zero_le _,ai,by rw[Jhp];exact bn,b3,aa⟩ ?_
 rintro i am ⟨hi,a7,ay,bp,aj⟩;refine ρ ?_;refine ci (λhc=>?_) (λhc=>?_)
 .have a1:i<(Jl es set es.length).length:=by have:=oT hc;omega
  clear hc;refine ρ ?_;refine ix i (d8.ext a7) a1 ?_;refine ρ ?_;refine ld ((d8.ext a7).cell (Qn a1)) ?_;refine ρ ?_;have c8:i<t'.dual.length:=om
  have ap:(Jl es set es.length).getD i 0<es.length:=Jbc (getD_mem' 0 _ a1);have a3:Ext am am.drew:=(Ext.refl am).drew;have a6:=a7.trans a3;have ca:=ay.ext RtC.sta a3;have bf:es.length=(Vw (List.replicate es.length pr0) (Jl es set es.length) t'.dual i).length:=by rw[Jzc];simp
  obtain⟨ce,_,ar,c7⟩:=eb i c8;have au:=Jhn (l:=List.replicate es.length pr0) a1 c8;rw[show(Jl es set es.length)[i]=(Jl es set es.length).getD i 0 by simp[List.getD,List.getElem?_eq_getElem a1]]at au;generalize t'.dual[i]=x at *
  obtain⟨F1,f1,F2,f2,rfl,e4⟩:=ar.sl;refine dr [(0,0),(0,1),(0,2),(0,3),(0,4),(0,5),(0,6),(0,7),(0,8),(2,9)] kr ?_;refine ρd ?_;refine dld ((aj.ext a3).at (i:=0) rfl) ?_;refine ρd ?_;refine dld ((ac.ext a6).at (i:=2) rfl) ?_;refine ρd ?_;refine Qp 3 i (ea.ext a6) c8 ?_;refine ρd ?_;refine Qj (λj u F=>Xx a6 (c7 j u F)) ?_;refine ρd ?_;obtain⟨_,eg⟩:=ca.rd bf;refine Qp 3 ((Jl es set es.length).getD i 0) eg ap ?_;refine ρd ?_;refine Jf ?_;refine stX RtC.sta ca bf (show(Jl es set es.length).getD i 0<_ by omega) (cs:=[.bool x.neg,.slice F1 _ f1,.slice F2 _ f2]) (a:=x) (RtC.sta.gr ar (GrN.ext a6)) d6 (Qq rfl rfl rfl) ?_;intro dq bm aw;have c3:GrN (λk=>(Value.slice W1 es.length W2).ownBlock=some k) am.drew dq:=GrN.by aw λk e=>e
  rw[<-au]at bm;obtain⟨_,_,ba⟩:=ca.own;have d4:=(bp.ext RtC.sta a3).gr RtC.sta c3 λk e=>⟨d6 k e,λe'=>cr k e e'⟩;have dc:=(aj.ext a3).grown aw λe=>(aj.ext a3).ne_own ba kr e;refine ρ ?_;exact Jg (i+1) sO ⟨om,Js a6 aw λk J=>by rw[hsz];exact c6 k J,bm,d4,dc⟩ om
 have av:i=(Jl es set es.length).length:=by have:=oF hc;omega
 subst av;clear hc hi;rw[Jzd cw.symm]at ay;have ad:=((da.ext (b9.trans b8)).ext (ah)).ext a7;refine ρ ?_;refine lds (cs:=[.slice W1 es.length W2,.slice P1 n P2,.bool q.neg,.slice Q1 (Jj q.num).length c1,.slice Q2 (Jj q.den).length c2]) (λj u F=>aj.at F) ?_;refine ρ ?_;refine stb (cs':=[.slice W1 es.length W2,.slice P1 n P2,.bool q.neg,.slice Q1 (Jj q.num).length c1,.slice Q2 (Jj q.den).length c2]) ad ?_ (λu F=>by
  simp only[List.mem_cons,List.not_mem_nil,or_false]at F;rcases F with rfl|rfl|rfl|rfl|rfl<;>rfl)
 intro ch db bh cm;have e7:GrN (λk=>NN k∨k=b2) am ch:=GrN.by bh λk e=>by injection e with e;exact .inr e.symm
 refine ρ ?_;have f5:=da.lt;have ey:w2.heap.size<=s:=by rw[<-hsz];exact((b9.trans b8).trans ah).size
 have e5:(Yn (List.replicate n pr0) (Jv n set) t'.point).length=n:=by rw[<-Jzd cy.symm,Jzc];simp
 have e2:(Yn (List.replicate es.length pr0) (Jl es set es.length) t'.dual).length=es.length:=by rw[<-Jzd cw.symm,Jzc];simp
 have dw:=(cq.ext (ag.trans a7)).box ad noC;have du:=(cp.ext (ag.trans a7)).box ad noC;have g1:=Jkg (ay.gx (N':=Nn) RtC.sta om λk J=>J.elim) ad noC (λe=>by have:=c6 b2 e;omega);have g2:=Jkg (bp.gx (N':=Nn) RtC.sta om λk J=>J.elim) ad noC (λe=>by have:=c5 b2 e;omega);have a9:GrN (λk=>Nn k∨k=b2) am ch:=GrN.by bh λk e=>by injection e with e;exact .inr e.symm
 subst e6;subst hq;exact Zz db ⟨_,_,_,_,rfl,(g1.gr RtC.sta (by decide) a9).old RtC.sta (by decide) λk J=>J.elim,(g2.gr RtC.sta (by decide) a9).old RtC.sta (by decide) λk J=>J.elim,(dw.gr a9).old λk J=>J.elim,(du.gr a9).old λk J=>J.elim,cm w (be.trans (ah.trans a7)) (nL bw.size e9)⟩
open Go.RowKit Pl Go.Wk Bl
variable {m n:Nat}{v vl x y:Value}{w:World}
theorem Jdv{fid:FuncId}{cap:Array Value}{ls:List PR}(Inv:Nat->World->Prop)(hx:∀ i w w',Inv i w->Ext w w'->Inv i w')(hl:∀ i w,Inv i w->GX 3 RtC Nn w vl ls)(step:∀ i (hi:i<ls.length) w v,Inv i w->RtX Nn w v ls[i]->Ret Tryz.prog fid ([.int .i64 (i:Int),v]++cap.toList) w λu w'=>Inv (i+1) w')(h0:Inv 0 w):
  Ret Tryz.prog 91 [vl,.func (.func fid) #[] cap] w λu w'=>Inv ls.length w':=by
 obtain⟨A,c,_,rfl,_,a7,_⟩:=id (hl 0 w h0).el;refine Jz Tryz.func91 Tryz.ntmps91 rfl kr rfl ?_;refine ρ ?_;refine Jh (fun (i:Nat)=>[(1,.func (.func fid) #[] cap),(6,.slice A ls.length c),(7,.int .i64 (ls.length:Int)),(8,.int .i64 (i:Int))]) (λi w'=>i<=ls.length/\Inv i w') (λi=>ls.length-i) 0 sB ⟨Nat.zero_le _,h0⟩ ?_;rintro i w1 ⟨hi,hI⟩;refine ρ ?_;refine ci (λF=>?_) (λF=>?_)
 .have D:i<ls.length:=by have:=oT F;omega
  clear F;obtain⟨A',c',_,ev,_,_,hr,_,he⟩:=id (hl i w1 hI).el;injection ev with ev1 _ ev3
  subst ev1;obtain⟨ce,_,U,a2⟩:=he i D;obtain⟨F1,f1,F2,f2,rfl,Z⟩:=U.sl;refine ρ ?_;refine ixq 3 i hr D ?_;refine ρ ?_;refine lds (λj u O=>a2 j u O) ?_;refine ρ ?_;refine alc Ze ?_;intro w2 b2 J a3 a6;refine ρ ?_;refine stb (cs':=[.bool ls[i].neg,.slice F1 _ f1,.slice F2 _ f2]) a6 ?_ (Qq rfl rfl rfl);intro w3 a5 a8 G;have y:Ext w1 w3:=G w1 J a3;refine ρ ?_;refine lds (cs:=[.bool ls[i].neg,.slice F1 _ f1,.slice F2 _ f2]) (λj u O=>a5.at O) ?_;refine ρ ?_;refine clv (step i D w3 _ (hx i _ _ hI y) (Z.ext y)) ?_;rintro u w4 a4;refine ρ ?_;exact Jg (i+1) sO ⟨om,a4⟩ om
 have a1:i=ls.length:=by have:=oF F;omega
 subst a1;refine ρ ?_;exact Vg hI
theorem Jpm(hv:NatV w v n)(hn:n<=2147483648): Ret Tryz.prog 57 [v] w λr w'=>r=.tuple #[.int .i64 (n:Int),.int .i64 0]/\w'=w:=by
 refine Jz Tryz.func57 Tryz.ntmps57 rfl kr rfl ?_;refine ρ ?_;refine cl (Jyj hv om) ?_;rintro _ w1 ⟨rfl,rfl⟩;refine ρ ?_;refine cf ?_ ?_
 .simp;omega
 refine ρ ?_;rw[Vf (z:=(n:Int)) om];exact Xq ⟨rfl,rfl⟩
theorem Qgr(hx:NatX Nn w x n)(hy:NatX Nn w y m)(hn:n<4294967296)(hm:m<4294967296)(h0:0<m): Ret Tryz.prog 95 [x,y] w λr w'=>NatX Nn w' r (Nat.gcd n m)/\Ext w w':=by
 have U:∀ {k:Nat},k<4294967296->(Jj k).length<=1000:=fun {k} h=>by have:=Qm (n:=k) om;omega
 refine Jz Tryz.func95 Tryz.ntmps95 rfl kr rfl ?_;refine ρ ?_;refine Kl (fun (a b:Nat) (F vb:Value)=>[(0,F),(1,vb)]) (λa b F vb w'=>Ext w w'/\NatX Nn w' F a/\NatX Nn w' vb b/\a<4294967296/\b<4294967296/\Nat.gcd a b=Nat.gcd n m) (λ_ b _ _=>b) n m x y sB ⟨Ext.refl _,hx,hy,hn,hm,rfl⟩ ?_;rintro a b F vb w1 ⟨u,Z,J,O,i,G⟩;refine ρ ?_;refine cl (Yw J.1 (U i)) ?_;rintro _ w2 ⟨rfl,rfl⟩;refine ρ ?_;refine ci (λh=>?_) (λh=>?_)
 .have D:b≠0:=by rintro rfl;revert h;decide
  clear h;refine ρ ?_;refine cl (Il Z.1 J.1 (U O) om i) ?_;rintro _ w3 ⟨⟨q,r,rfl,hq,hr⟩,j⟩;refine ρ ?_;exact Yz b (a % b) _ _ sO ⟨u.trans j,J.ext j,hr.old λk hk=>hk.elim,i,Nat.lt_of_lt_of_le (Nat.mod_lt _ om) om,by rw[<-G,Nat.gcd_comm a b,Nat.gcd_rec b a];exact Nat.gcd_comm _ _⟩ (Nat.mod_lt _ om)
 have D:b=0:=by
  rcases Nat.eq_zero_or_pos b with h1|h1
  .exact h1
  have:=(Gj (x:=b) om).1;simp at h;omega
 subst D;rw[Nat.gcd_zero_right]at G;subst G;refine ρ ?_;exact Jq ⟨Z,u⟩
end Go.Proofs.YtebiphhfkdbpfaaGreat
namespace Go.Wk
open Go.RowKit
variable {i:Nat}{x:Operand}{t:TypeId}{u v:Value}
section
variable {P:Program} {n:Nat} {al:AL} {w:World} {Q:Exit->Act->World->Prop} {ops:Array Oper} {rest:List Oper} {drest:List (Nat×Oper)} {d ty:Nat} {pos:String} {aft:Array Edge}
theorem fld(hb:∀ w,(Instr.field t v i).run P w=.ok u w)(kk:WL P n ops Q rest ((d,u)::al) w)(hx:ev al x=some v:=by rfl)(hd:Nat.blt d n=true:=by rfl):
  WL P n ops Q (⟨some d,.field t x i,ty,pos,aft,none⟩::rest) al w:=wop hd (λa j=>by simp[execOp,j.ev hx,hb]) kk
theorem dfld(hb:∀ w,(Instr.field t v i).run P w=.ok u w)(kk:WD P n ops Q drest ((d,u)::al) w)(hx:ev al x=some v:=by rfl)(hd:Nat.blt d n=true:=by rfl):
  WD P n ops Q ((0,⟨some d,.field t x i,ty,pos,aft,none⟩)::drest) al w:=dy (λw' _ a j=>by simp[execOp,j.ev hx,hb]) hd kk
end
end Go.Wk
namespace Go.Proofs.YtebiphhfkdbpfaaGreat
open Go.RowKit Pl Go.Wk Bl
attribute [local irreducible] WC WL QX WD WDB WP WN WG WH
variable {ws:List PR}{d i sc:Nat}{P1 Q1 Q2 SA:Option Addr}{v vW vd vl:Value}{w:World}
theorem fldD(b:Bool)(A B:Option Addr)(m c m' c':Nat)(w:World): (Instr.field 84 (.agg #[.bool b,.slice A m c,.slice B m' c']) 2).run Tryz.prog w=.ok (.slice B m' c') w:=kr
theorem fldN(b:Bool)(A B:Option Addr)(m c m' c':Nat)(w:World): (Instr.field 84 (.agg #[.bool b,.slice A m c,.slice B m' c']) 1).run Tryz.prog w=.ok (.slice A m c) w:=kr
theorem Qlw{b:Bool}{P2 P3 m1 c1 m2 c2:Nat}{sizes:List Nat}(hW:GX 3 RtC Nn w vW ws)(hS:Rd w 1 SA sizes.length (Jp (nz sizes)))(hl:sizes.length=ws.length)(hn:∀ q∈ws,0<=q.sign/\q.num<18446744073709551616):
  Ret Tryz.prog 55 [.agg #[vW,.slice P1 P2 P3,.bool b,.slice Q1 m1 c1,.slice Q2 m2 c2],.slice SA sizes.length sc] w λu w'=>u=.int .i64 0/\Ext w w':=by
 obtain⟨W1,W2,_,rfl,_,a6,a4,_,a5⟩:=id hW.el;refine Jz Tryz.func55 Tryz.ntmps55 rfl kr rfl ?_;refine ρ ?_;refine bx (cs:=[.slice W1 ws.length W2,.slice P1 P2 P3,.bool b,.slice Q1 m1 c1,.slice Q2 m2 c2]) ?_;intro w1 b1 Z a8 O;refine ρ ?_;refine ld (O.at (i:=0) rfl) ?_;refine ρ ?_;refine cf ?_ ?_
 .simp;omega
 refine ρ ?_;refine Jh (fun (i:Nat)=>[(2,.pointer (some ⟨b1,0,none⟩)),(13,.slice SA sizes.length sc),(14,.int .i64 (sizes.length:Int)),(15,.int .i64 (i:Int))]) (λi w'=>i<=sizes.length/\Ext w1 w') (λi=>sizes.length-i) 0 sB ⟨Nat.zero_le _,Ext.refl _⟩ ?_;rintro i w2 ⟨hi,D⟩;have y:=Z.trans D;refine ρ ?_;refine ci (λhc=>?_) (λhc=>?_)
 .have J:i<sizes.length:=by have:=oT hc;omega
  clear hc;have F:i<ws.length:=om
  obtain⟨ce,_,a1,a3⟩:=a5 i F;obtain⟨F1,f1,F2,f2,rfl,a2⟩:=a1.sl;obtain⟨a7,G⟩:=hn _ (List.getElem_mem F);refine ρ ?_;refine ix i (hS.ext y) J ?_;refine ρ ?_;refine ld ((hS.ext y).cell (Qn J)) ?_;refine ρ ?_;refine kf 22 ?_ ?_
  .simp
  refine ρ ?_;refine ld ((O.ext D).at (i:=0) rfl) ?_;refine ρ ?_;refine ixq 3 i (a4.ext y) F ?_;refine ρ ?_;refine lds (λj u hu=>Xx y (a3 j u hu)) ?_;refine ρ ?_;refine cl (Uk (a2.ext y) (by have:=Qm G;omega)) ?_;rintro _ w3 ⟨rfl,U⟩;refine ρ ?_;refine cf ?_ ?_
  .simp;omega
  refine ρ ?_;exact Jg (i+1) sO ⟨om,D.trans U⟩ om
 refine ρ ?_;exact Jq ⟨rfl,y⟩
def dnK(ws:List PR)(i:Nat): Nat:=dnm (ws.take i)
theorem Qgp(hi:i<ws.length): dnK ws (i+1)=dnK ws i / Nat.gcd (dnK ws i) ws[i].norm.den*ws[i].norm.den:=by
 unfold dnK dnm;rw[List.take_add_one,List.getElem?_eq_getElem hi,Option.toList_some,List.foldl_append];rfl
theorem Qhh{b:Nat}{q:PR}{i:Int}(hB:Blk w b 82 [vd])(hd:NatX (λk=>k=b) w vd d)(hq:RtX Nn w v q)(hd1:d<4294967296)(hqn:q.num<18446744073709551616)(hqd:q.den<4294967296)(h0:0<q.norm.den)(hqd':q.norm.den<4294967296):
  Ret Tryz.prog 92 [.int .i64 i,v,.pointer (some ⟨b,0,none⟩)] w λu w'=>∃ vd',Blk w' b 82 [vd']/\NatX (λk=>k=b) w' vd' (d / Nat.gcd d q.norm.den*q.norm.den)/\GrN (λk=>k=b) w w':=by
 obtain⟨A1,c1,A2,c2,rfl,a8,a7⟩:=hq.sl;refine Jz Tryz.func92 Tryz.ntmps92 rfl kr rfl ?_;refine ρ ?_;refine bx ?_;intro w1 b1 U ai ag;refine ρ ?_;refine lds (cs:=[.bool q.neg,.slice A1 _ c1,.slice A2 _ c2]) (λj u hu=>ag.at hu) ?_;refine ρ ?_;refine cl (Zh (N:=Nn) (q:=q) ⟨_,_,rfl,a8.ext U,a7.ext U⟩ hqn hqd) ?_;rintro r w2 ⟨hr,a4⟩;have aa:=hB.lt;obtain⟨R1,r1,R2,r2,rfl,a5,Z⟩:=hr.sl;obtain⟨_,_,er,a5,Z⟩:=hr;cases er
 have a2:=U.trans a4;have ac:0<Nat.gcd d q.norm.den:=Nat.gcd_pos_of_pos_right _ h0;have hl:∀ {k:Nat},k<4294967296->(Jj k).length<=1000:=fun {k} h=>by have:=Qm (n:=k) om;omega
 refine ρ ?_;refine fld (fldD _ _ _ _ _ _ _) ?_;have J:Ext w2 w2.drew:=(Ext.refl w2).drew;have y:=a2.trans J;refine ρ ?_;refine dr [(0,0),(0,1),(0,2),(1,3),(1,4),(0,5),(0,6),(0,7),(0,8),(0,9),(0,10),(0,11)] kr ?_;refine ρd ?_;refine dld ((hB.ext y).at (i:=0) rfl) ?_;refine ρd ?_;refine dld ((hB.ext y).at (i:=0) rfl) ?_;refine ρd ?_;refine dcl (Qgr ((hd.ext y).old λk hk=>hk.elim) ((Z.ext J).old λk hk=>hk.elim) hd1 hqd' h0) ?_;rintro g w3 ⟨hg,F⟩;refine⟨F,?_⟩;refine ρd ?_;refine dcl (Il ((hd.ext y).ext F).1 hg.1 (hl hd1) ac (nN (Nat.gcd_le_right _ h0) hqd')) ?_;rintro _ w4 ⟨⟨qv,rv,rfl,a6,ah⟩,O⟩;refine⟨O,?_⟩;refine ρd ?_;have D:=y.trans (F.trans O);refine ρ ?_;refine cl (Vb a6.1 ((Z.ext J).ext (F.trans O)).1 (hl (nN (Nat.div_le_self _ _) hd1)) (hl hqd')) ?_;rintro mv w5 ⟨a3,ae,a1⟩;have a9:NatX (Ol w4) w5 mv (d / Nat.gcd d q.norm.den*q.norm.den):=⟨a3,λ_ ad m c e hk=>by have:=ae ad m c e;exact absurd (show ad.block<w4.heap.size from hk) om⟩
 obtain⟨M1,m1,rfl⟩:=a3.sl;refine ρ ?_;refine stF (i:=0) (hB.ext (D.trans a1)) rfl ?_;intro w6 af ab;have G:GrN (λk=>k=b) w5 w6:=GrN.by ab λk e=>by injection e with e;exact e.symm
 refine ρ ?_;exact Vg ⟨_,af,(a9.old λk hk=>.inl (show k<w4.heap.size by rw[hk];exact nM aa D.size)).gr G,(GrN.ext (D.trans a1)).trans G⟩
theorem Qhg(hl:GX 3 RtC Nn w vl ws)(hd:∀ i,i<=ws.length->dnK ws i<4294967296)(hq:∀ q∈ws,q.num<18446744073709551616/\q.den<4294967296/\0<q.norm.den/\q.norm.den<4294967296):
  Ret Tryz.prog 56 [vl] w λu w'=>NatX Nn w' u (dnm ws)/\Ext w w':=by
 obtain⟨A,c,_,rfl,_,a8,_⟩:=id hl.el;refine Jz Tryz.func56 Tryz.ntmps56 rfl kr rfl ?_;refine ρ ?_;refine cl (Xn 1 (by decide) _) ?_;rintro o w1 ⟨ho,a1⟩;obtain⟨O1,o1,rfl⟩:=ho.1.sl;refine ρ ?_;refine alc (z:=.slice none 0 0) kr ?_;intro w2 b a4 F a7;refine ρ ?_;refine stF (i:=0) a7 rfl ?_;intro w3 a6 a5;have y:Ext w1 w3:=Js a4 a5 λk e=>by injection e with e;rw[<-e];exact F
 have D:=a1.trans y;have a2:w.heap.size<=b:=nL a1.size F;refine ρ ?_;refine cl (Jdv (λi w'=>Ext w w'/\GX 3 RtC (λk=>k=b) w' (.slice A ws.length c) ws/\∃ J,Blk w' b 82 [J]/\NatX (λk=>k=b) w' J (dnK ws i)) (λi v v' ⟨Z,U,J,O,G⟩ hy=>⟨Z.trans hy,U.ext RtC.sta (by decide) hy,J,O.ext hy,G.ext hy⟩) (λi v ⟨Z,U,O⟩=>U.old RtC.sta (by decide) λk j=>j.elim) (λi hi v u ⟨Z,U,J,O,G⟩ hu=>?_) ⟨D,(hl.old RtC.sta (by decide) λk j=>.inr (by rw[j];exact a2)).ext RtC.sta (by decide) D,_,a6,?_⟩) ?_
 .obtain⟨e1,e2,e3,e4⟩:=hq _ (List.getElem_mem hi);refine(Qhh O G hu (hd i om) e1 e2 e3 e4).mono λr v' ⟨a3,g1,g2,g3⟩=>?_;rw[<-Qgp hi]at g2;exact⟨g3.old Z λk j=>by rw[j];exact a2,U.gr RtC.sta (by decide) g3,a3,g1,g2⟩
 .exact(ho.old λk j=>.inr (by rw[j];exact F)).ext y
 rintro u w4 ⟨Z,U,J,O,G⟩;have e5:dnK ws ws.length=dnm ws:=by unfold dnK;rw[List.take_length]
 rw[e5]at G;obtain⟨D1,d1,rfl⟩:=G.1.sl;refine ρ ?_;refine ld (O.at (i:=0) rfl) ?_;refine ρ ?_;exact Jq ⟨G.old λk j=>False.elim j,Z⟩
open Go.RowKit Pl Go.Wk Bl
variable {K a n:Nat}{u v:Value}{w:World}
theorem Ve(h:n<2^K)(hK:K<=30000): (Jj n).length<=1000:=by
 by_cases h0:n=0
 .subst h0;rw[limbs_0];decide
 have i:=Jkc h0;refine Nat.le_of_not_lt λj=>?_;have y:(4294967296:Nat)=2^32:=by decide
 rw[y,<-Nat.pow_mul]at i;have u:2^K<=2^(32*((Jj n).length-1)):=Nat.pow_le_pow_right (by decide) om;exact absurd (nM (nM h u) i) (Nat.lt_irrefl _)
theorem Jmz(h:n<2^K): Jk n<=K:=by
 by_cases h0:n=0
 .subst h0;exact Nat.zero_le _
 refine Nat.le_of_not_lt λi=>?_;have u:=(Gj h0).2;have j:2^K<=2^(Jk n-1):=Nat.pow_le_pow_right (by decide) om;exact absurd (nM (nM h j) u) (Nat.lt_irrefl _)
theorem Qnb: ∀ q:Nat,q<=400->(bits .and .i64 (q:Int) 1 == 1)=decide (q % 2=1):=by decide +kernel
theorem Qvk(hv:NatV w v a)(hn:n<=400)(ha:a<4294967296)(hb:a^n<2^K)(hK:K<=30000): Ret Tryz.prog 134 [v,.int .i64 (n:Int)] w λr w'=>(∃ u,r=.tuple #[u,.int .i64 0]/\NatX (Ol w) w' u (a^n))/\Ext w w':=by
 have la:(Jj a).length<=1000:=by have:=Qm (n:=a) om;omega
 refine Jz Tryz.func134 Tryz.ntmps134 rfl kr rfl ?_;refine ρ ?_;refine cl (Zs hv) ?_;rintro v' w' ⟨⟨A,rfl,hA⟩,rfl⟩;have Z:NatV w' (.slice A (Jj a).length (Jj a).length) a:=⟨A,_,rfl,Nat.le_refl _,om,hA⟩;refine ρ ?_;refine cl (Yw Z la) ?_;rintro _ w1 ⟨rfl,rfl⟩;refine ρ ?_;by_cases hn0:n=0
 .subst hn0;refine kt 17 ?_ ?_
  .rfl
  refine ρ ?_;refine cl (Xn 1 (by decide) _) ?_;rintro o w2 ⟨ho,y⟩;refine ρ ?_;exact Xq ⟨⟨_,rfl,by rw[Nat.pow_zero];exact ho⟩,y⟩
 refine kf 17 ?_ ?_
 .exact beq_eq_false_iff_ne.2 om
 refine ρ ?_;refine ci (λi=>?_) (λi=>?_)
 .have U:Jk a=1:=by have:=eq_of_beq i;omega
  have J:a=1:=by
   have h2:=Ys (x:=a);rw[U]at h2;have:a≠0:=by rintro rfl;revert U;decide
   omega
  subst J;refine ρ ?_;refine cl (Xn 1 (by decide) _) ?_;rintro o w2 ⟨ho,y⟩;refine ρ ?_;exact Xq ⟨⟨_,rfl,by rw[Nat.one_pow];exact ho⟩,y⟩
 have a8:Jk a≠1:=λe=>by rw[e]at i;revert i;decide
 clear i;refine ρ ?_;refine ci (λi=>?_) (λi=>?_)
 .have U:Jk a=0:=by have:=eq_of_beq i;omega
  have a5:a=0:=by
   have h2:=Ys (x:=a);rw[U]at h2;omega
  subst a5;refine ρ ?_;refine Xq ⟨⟨_,rfl,?_⟩,Ext.refl _⟩;rw[Nat.zero_pow om];exact⟨NatV.nil _,λh=>absurd rfl h⟩
 have a9:Jk a≠0:=λe=>by rw[e]at i;revert i;decide
 clear i;have ai:2<=a:=by
  have a5:a≠0:=by rintro rfl;exact a9 (by decide)
  have J:a≠1:=by rintro rfl;exact a8 (by decide)
  omega
 have ag:Jk a<=32:=Yy om;have ah:(Jk a-1)*n<65536:=nN (Nat.mul_le_mul (show Jk a-1<=31 by omega) hn) (by decide);refine ρ ?_;refine kf 26 ?_ ?_
 .exact dF om
 refine ρ ?_;refine kf 30 ?_ ?_
 .exact dF om
 refine ρ ?_;have a3:((Jk a:Int)-1)*(n:Int)=(((Jk a-1)*n:Nat):Int):=by
  rw[Int.natCast_mul,Int.natCast_sub om];rfl
 refine cf ?_ ?_
 .rw[a3,Vf om];exact dF om
 have J:0<a:=om
 have G:∀ k,k<=n->(Jj (a^k)).length<=1000:=λk hk=>Ve (nN (Nat.pow_le_pow_right J hk) hb) hK;refine ρ ?_;refine cl (Xn 1 (by decide) _) ?_;rintro o w2 ⟨ho,y⟩;refine ρ ?_;rw[Yh (z:=(n:Int)) om];refine cl (Jcp n om _) ?_;rintro _ w3 ⟨rfl,rfl⟩;have hL:Jk n<=9:=Yy om;refine ρ ?_;refine Qd (fun (t:Nat) (ov:Value)=>[(0,.slice A (Jj a).length (Jj a).length),(1,.int .i64 (n:Int)),(7,ov),(8,.int .i64 ((t:Int)-1))])
  (λt ov w'=>t<=9/\NatX (Ol w1) w' ov (a^(n / 2^t))/\Ext w1 w') (λt _=>t) (Jk n) o sB ⟨hL,by rw[Nat.div_eq_of_lt Ys];exact ho,y⟩ ?_
 rintro t ov w4 ⟨ht,D,j⟩;have a2:n / 2^t<=n:=Nat.div_le_self _ _;refine ρ ?_;refine ci (λi=>?_) (λi=>?_)
 .obtain⟨t,rfl⟩:∃ s,t=s+1:=⟨t-1,by have:=oT i;omega⟩;clear i;rw[show((t+1:Nat):Int)-1=(t:Int) by omega];have hd:n / 2^t=2*(n / 2^(t+1))+n / 2^t % 2:=by rw[Nat.pow_succ,<-Nat.div_div_eq_div_mul];omega
  have ac:n / 2^t<=n:=Nat.div_le_self _ _;refine ρ ?_;refine cl (Vb D.1 D.1 (G _ a2) (G _ a2)) ?_;rintro o5 w5 ⟨O,ab,F⟩;have af:=j.size;rw[<-Nat.pow_add]at O;have a6:NatX (Ol w1) w5 o5 (a^(n / 2^(t+1)+n / 2^(t+1))):=⟨O,λ_ ad m c e hk=>by have:=ab ad m c e;exact absurd (show ad.block<w1.heap.size from hk) om⟩;refine ρ ?_;refine Zu rfl rfl om rfl ?_;have es:((n:Int)).fdiv (2^min ((t:Nat):Int).toNat IntKind.i64.bits)=((n / 2^t:Nat):Int):=by rw[Gc n t IntKind.i64.bits,Nat.min_eq_left (by show t<=64;omega)]
  refine Go.Wk.kv 51 (u:=.int .i64 ((n / 2^t:Nat):Int)) (congrArg (Value.int .i64) es) ?_;have a4:=Qnb (n / 2^t) om;refine ρ ?_;refine ci (λi=>?_) (λi=>?_)
  .have U:n / 2^t % 2=1:=by rw[a4]at i;exact oT i
   refine ρ ?_;refine cl (Vb O (Z.ext (j.trans F)) (G _ om) la) ?_;rintro o6 w6 ⟨a1,aa,a7⟩;have ae:=F.size;rw[<-Nat.pow_succ,show(n / 2^(t+1)+n / 2^(t+1)).succ=n / 2^t by omega]at a1;refine ρ ?_;exact Qy t o6 sB ⟨om,⟨a1,λ_ ad m c e hk=>by have:=aa ad m c e;exact absurd (show ad.block<w1.heap.size from hk) om⟩,(j.trans F).trans a7⟩ om
  have U:n / 2^t % 2=0:=by
   rw[a4]at i;have:=oF i;omega
  rw[show n / 2^(t+1)+n / 2^(t+1)=n / 2^t by omega]at a6;refine ρ ?_;exact Qy t o5 sB ⟨om,a6,j.trans F⟩ om
 have h0:t=0:=by have:=oF i;omega
 clear i;subst h0;rw[Nat.pow_zero,Nat.div_one]at D;refine ρ ?_;refine cl (Yw D.1 (G n (nR _))) ?_;rintro _ w5 ⟨rfl,rfl⟩;have hl:Jk (a^n)<=K:=Jmz hb;refine ρ ?_;refine cf ?_ ?_
 .exact dF om
 refine ρ ?_;exact Xq ⟨⟨_,rfl,D⟩,j⟩
theorem Qvh(hv:NatV w v a)(hu:NatV w u n)(hn:n<=400)(ha:a<4294967296)(hb:a^n<2^K)(hK:K<=30000): Ret Tryz.prog 101 [v,u] w λr w'=>(∃ u,r=.tuple #[u,.int .i64 0]/\NatX (Ol w) w' u (a^n))/\Ext w w':=by
 refine Jz Tryz.func101 Tryz.ntmps101 rfl kr rfl ?_;refine ρ ?_;refine cl (Jpm hu om) ?_;rintro _ w1 ⟨rfl,rfl⟩;refine ρ ?_;refine cl (Qvk hv hn ha hb hK) ?_;rintro _ w2 ⟨⟨r,rfl,j⟩,i⟩;refine ρ ?_;exact Xq ⟨⟨_,rfl,j⟩,i⟩
open Go.RowKit Pl Go.Wk Bl
variable {sizes:List Nat}{ws:List PR}{K d i sc:Nat}{SA:Option Addr}{v vd vl vr:Value}{w:World}
def Kj(q:PR)(d:Nat): Nat:=(PR.norm (PR.mul q (PR.norm ⟨false,d,0⟩))).num
def prK(ws:List PR)(sizes:List Nat)(d i:Nat): Nat:=Gp (ws.take i) (sizes.take i) d
theorem Qvg(hi:i<ws.length)(hs:i<sizes.length): prK ws sizes d (i+1)=prK ws sizes d i*sizes[i]^Kj ws[i] d:=by
 unfold prK Gp;rw[List.take_add_one,List.take_add_one,List.getElem?_eq_getElem hi,List.getElem?_eq_getElem hs,Option.toList_some,Option.toList_some,List.zip_append (by simp;omega),List.foldl_append];rfl
structure EOk(q:PR)(d:Nat): Prop where
 d64:d<18446744073709551616
 h1:q.num<4294967296
 h2:q.den<4294967296
 h3:(PR.norm ⟨false,d,0⟩).num<4294967296
 h4:(PR.norm ⟨false,d,0⟩).den<4294967296
 h5:q.norm.den*(PR.norm ⟨false,d,0⟩).norm.den<4294967296
 m1:(PR.mul q (PR.norm ⟨false,d,0⟩)).num<18446744073709551616
 m2:(PR.mul q (PR.norm ⟨false,d,0⟩)).den<4294967296
 e:Kj q d<=400
structure PrOk(ws:List PR)(sizes:List Nat)(d K:Nat): Prop where
 k:K<=30000
 len:sizes.length=ws.length
 q:∀ q∈ws,EOk q d
 s:∀ s∈sizes,s<4294967296
 p:∀ i,i<=ws.length->prK ws sizes d i<2^K
 f:∀ i (h1:i<ws.length) (h2:i<sizes.length),sizes[i]^Kj ws[i] d<2^K
theorem Qvd{b1 b2 b3 b4 r:Nat}{q:PR}(hF:Blk w b1 38 [.int .i64 0])(hD:Blk w b2 82 [vd])(hS:Blk w b3 28 [.slice SA sizes.length sc])(hR:Blk w b4 82 [vr])(hd:NatX (λk=>k=b4) w vd d)(hr:NatX (λk=>k=b4) w vr r)(hs:Rd w 1 SA sizes.length (Jp (nz sizes)))(hq:RtX Nn w v q)(hi:i<sizes.length)(he:EOk q d)(hs32:sizes[i]<4294967296)(hrK:r<2^K)(hfK:sizes[i]^Kj q d<2^K)(hK:K<=30000):
  Ret Tryz.prog 98 [.int .i64 (i:Int),v,.pointer (some ⟨b1,0,none⟩),.pointer (some ⟨b2,0,none⟩),.pointer (some ⟨b3,0,none⟩),.pointer (some ⟨b4,0,none⟩)] w λu w'=>∃ vr',Blk w' b4 82 [vr']/\NatX (λk=>k=b4) w' vr' (r*sizes[i]^Kj q d)/\GrN (λk=>k=b4) w w':=by
 obtain⟨A1,c1,A2,c2,rfl,ab,aa⟩:=hq.sl;refine Jz Tryz.func98 Tryz.ntmps98 rfl kr rfl ?_;refine ρ ?_;refine bx ?_;intro w1 bq a3 ao ak;refine ρ ?_;refine ld ((hF.ext a3).at (i:=0) rfl) ?_;have O:Ext w1 w1.drew:=(Ext.refl w1).drew;have y:=a3.trans O;have ah:=hR.lt;have a5:NatX Nn w vd d:=hd.old λk hk=>False.elim hk;obtain⟨D1,d1,rfl⟩:=a5.1.sl;refine ρ ?_;refine dr [(0,0),(0,1),(1,2),(1,3),(1,4),(0,5),(0,6)] kr ?_;refine ρd ?_;refine Qj (cs:=[.bool q.neg,.slice A1 (Jj q.num).length c1,.slice A2 (Jj q.den).length c2]) (λj u hu=>(ak.ext O).at hu) ?_;refine ρd ?_;refine dld ((hD.ext y).at (i:=0) rfl) ?_;refine ρd ?_;refine dcl (Qwn (a5.ext y).1 he.d64) ?_;rintro x1 w2 ⟨a7,G⟩;refine⟨G,?_⟩;obtain⟨B1,e1,B2,e2,rfl,au,ar⟩:=a7.sl;refine ρd ?_;refine dcl (Jvw (N:=Nn) (p:=q) ⟨_,_,rfl,(ab.ext y).ext G,(aa.ext y).ext G⟩ a7 he.h1 he.h2 he.h3 he.h4 he.h5) ?_
 rintro x2 w3 ⟨a6,a2⟩;refine⟨a2,?_⟩;obtain⟨C1,f1,C2,f2,rfl,aq,ap⟩:=a6.sl;refine ρd ?_;refine dcl (Zh a6 he.m1 he.m2) ?_;rintro x3 w4 ⟨ai,a1⟩;refine⟨a1,?_⟩;obtain⟨E1,g1,E2,g2,rfl,aj,av⟩:=ai.sl;refine ρd ?_;refine dfld (fldN _ _ _ _ _ _ _) ?_;refine ρd ?_;have F:=y.trans (G.trans (a2.trans a1));refine ρ ?_;refine ld ((hS.ext F).at (i:=0) rfl) ?_;refine ρ ?_;refine ix i (hs.ext F) hi ?_;refine ρ ?_;refine ld ((hs.ext F).cell (Qn hi)) ?_;have an:sizes.getD i 0=sizes[i]:=by simp[List.getD,List.getElem?_eq_getElem hi]
 rw[an];refine ρ ?_;rw[Yh (z:=(sizes[i]:Int)) om];refine cl (Xn sizes[i] om _) ?_;rintro sv w5 ⟨a9,Z⟩;refine ρ ?_;refine cl (Qvh a9.1 (aj.ext Z).1 he.e hs32 hfK hK) ?_;rintro _ w6 ⟨⟨pv,rfl,ac⟩,a8⟩;have D:=F.trans (Z.trans a8);refine ρ ?_;refine ld ((hR.ext D).at (i:=0) rfl) ?_;refine ρ ?_;refine cl (Vb (hr.ext D).1 ac.1 (Ve hrK hK) (Ve hfK hK)) ?_;rintro mv w7 ⟨a4,ag,U⟩;have ae:NatX (Ol w6) w7 mv (r*sizes[i]^Kj q d):=⟨a4,λ_ ad m c e hk=>by have:=ag ad m c e;exact absurd (show ad.block<w6.heap.size from hk) om⟩;obtain⟨M1,m1,rfl⟩:=a4.sl;refine ρ ?_;refine stF (i:=0) (hR.ext (D.trans U)) rfl ?_;intro w8 am af;have J:GrN (λk=>k=b4) w7 w8:=GrN.by af λk e=>by injection e with e;exact e.symm
 refine ρ ?_;exact Vg ⟨_,am,(ae.old λk hk=>.inl (show k<w6.heap.size by rw[hk];exact nM ah D.size)).gr J,(GrN.ext (D.trans U)).trans J⟩
theorem Qvb(hl:GX 3 RtC Nn w vl ws)(hd:NatX Nn w vd d)(hs:Rd w 1 SA sizes.length (Jp (nz sizes)))(ho:PrOk ws sizes d K):
  Ret Tryz.prog 58 [vl,.slice SA sizes.length sc,vd] w λu w'=>(∃ v,u=.tuple #[v,.int .i64 0]/\NatX Nn w' v (Gp ws sizes d))/\Ext w w':=by
 obtain⟨A,c,_,rfl,_,ak,_⟩:=id hl.el;obtain⟨D1,d1,rfl⟩:=hd.1.sl;refine Jz Tryz.func58 Tryz.ntmps58 rfl kr rfl ?_;refine ρ ?_;refine bx (cs:=[.slice SA sizes.length sc]) ?_;intro w1 b4 a5 ar af;refine ρ ?_;refine bx (cs:=[.slice D1 _ d1]) ?_;intro w2 b5 Z aq ae;refine ρ ?_;refine cl (Xn 1 (by decide) _) ?_;rintro o w3 ⟨a8,F⟩;obtain⟨O1,o1,rfl⟩:=a8.1.sl;refine ρ ?_;refine alc (z:=.slice none 0 0) kr ?_;intro w4 b8 a3 ai ad;refine ρ ?_;refine alc (z:=.int .i64 0) kr ?_;intro w5 b9 a2 ap aj;have am:=ad.lt;have ao:=af.lt;have an:=ae.lt;have z2:=Z.size;have z3:=F.size;have z4:=a3.size;have z1:=a5.size;refine ρ ?_;refine stF (i:=0) (ad.ext a2) rfl ?_;intro w6 ac ah;have U:GrN (λk=>k=b8) w5 w6:=GrN.by ah λk e=>by injection e with e;exact e.symm
 have aa:=Ja aj U om;refine ρ ?_;refine stF (i:=0) aa rfl ?_;intro w7 a9 ag;have O:GrN (λk=>k=b9) w6 w7:=GrN.by ag λk e=>by injection e with e;exact e.symm
 have ab:=Ja ac O om;have a4:Ext w3 w6:=U.old (a3.trans a2) λk e=>by omega
 have j:Ext w3 w7:=O.old a4 λk e=>by omega
 have a6:=a5.trans (Z.trans F);have y:=a6.trans j;have a1:w.heap.size<=b8:=om
 have a7:NatX (λk=>k=b8) w7 (.slice O1 (Jj 1).length o1) 1:=(a8.old λk D=>.inr (by rw[D];exact ai)).ext j;refine ρ ?_;refine cl (Jdv (λi w'=>Ext w w'/\GX 3 RtC (λk=>k=b8) w' (.slice A ws.length c) ws/\Blk w' b9 38 [.int .i64 0]/\Blk w' b5 82 [.slice D1 (Jj d).length d1]/\Blk w' b4 28 [.slice SA sizes.length sc]/\NatX (λk=>k=b8) w' (.slice D1 (Jj d).length d1) d/\∃ vr,Blk w' b8 82 [vr]/\NatX (λk=>k=b8) w' vr (prK ws sizes d i)) (λi v v' ⟨h1,h2,h3,h4,h5,h6,vr,h7,h8⟩ J=>⟨h1.trans J,h2.ext RtC.sta (by decide) J,h3.ext J,h4.ext J,h5.ext J,h6.ext J,vr,h7.ext J,h8.ext J⟩) (λi v ⟨h1,h2,h3⟩=>h2.old RtC.sta (by decide) λk D=>False.elim D) (λi hi v u ⟨h1,h2,h3,h4,h5,h6,vr,h7,h8⟩ hu=>?_)
  ⟨y,(hl.old RtC.sta (by decide) λk D=>.inr (by rw[D];exact a1)).ext RtC.sta (by decide) y,a9,(ae.ext F).ext j,((af.ext Z).ext F).ext j,(hd.old λk D=>.inr (by rw[D];exact a1)).ext y,_,ab,a7⟩) ?_
 .have G:i<sizes.length:=by rw[ho.len];exact hi
  refine(Qvd h3 h4 h5 h7 h6 h8 (hs.ext h1) hu G (ho.q _ (List.getElem_mem hi)) (ho.s _ (List.getElem_mem G)) (ho.p i om) (ho.f i hi G) ho.k).mono λr v' ⟨vr',g1,g2,g3⟩=>?_;rw[<-Qvg hi G]at g2;exact⟨g3.old h1 λk D=>by rw[D];exact a1,h2.gr RtC.sta (by decide) g3,Ja h3 g3 om,Ja h4 g3 om,Ja h5 g3 om,h6.gr g3,vr',g1,g2⟩
 rintro u w8 ⟨h1,h2,h3,h4,h5,h6,vr,h7,h8⟩;have e5:prK ws sizes d ws.length=Gp ws sizes d:=by unfold prK;rw[List.take_length,<-ho.len,List.take_length]
 rw[e5]at h8;obtain⟨V1,v1,rfl⟩:=h8.1.sl;refine ρ ?_;refine ld (h3.at (i:=0) rfl) ?_;refine ρ ?_;refine ld (h7.at (i:=0) rfl) ?_;refine ρ ?_;exact Xq ⟨⟨_,rfl,h8.old λk D=>False.elim D⟩,h1⟩
end Go.Proofs.YtebiphhfkdbpfaaGreat
namespace Go.Wk
open Go.RowKit
variable {d n ty v:Nat}
theorem sl32q{P:Program}{al:AL}{w:World}{Q:Exit->Act->World->Prop}{ops:Array Oper}{rest:List Oper}{pos:String}{aft:Array Edge}{y:Operand}{t yt:TypeId}{k2:IntKind}(hv:v<32)(kk:WL P n ops Q rest ((d,.int .u32 ((2^v:Nat):Int))::al) w)(hy:ev al y=some (.int k2 (v:Int)):=by rfl)(hd:Nat.blt d n=true:=by rfl):
  WL P n ops Q (⟨some d,.binOp .shl t (.const (.int .u32 1)) y yt,ty,pos,aft,none⟩::rest) al w:=by
 rw[<-Qzk hv]at kk;exact wop hd (λa i=>Jgk (x:=.const (.int .u32 1)) rfl hy om i (some d) w) kk
end Go.Wk
namespace Go.Proofs.YtebiphhfkdbpfaaGreat
open Go.RowKit Pl Go.Wk Bl
attribute [local irreducible] WC WL QX WD WDB WP WN WG WH
theorem Jmw: ∀(q r:Nat),r<32->Jj (2^(32*q+r))=List.replicate q 0++[UInt32.ofNat (2^r)]
 | 0,r,hr=>by
  have h1:2^r<4294967296:=nM (Nat.pow_lt_pow_right (by decide) hr) (by decide);rw[Nat.mul_zero,Nat.zero_add,Jmr (Nat.pos_iff_ne_zero.1 (Nat.two_pow_pos r)) h1];rfl
 | q+1,r,hr=>by
  have e:2^(32*(q+1)+r)=4294967296*2^(32*q+r):=by
   rw[show 32*(q+1)+r=32+(32*q+r) by omega,Nat.pow_add]
  have ih:=Jmw q r hr;have h0:=Nat.two_pow_pos (32*q+r);rw[e];have:=Jmv (c:=0) (m:=2^(32*q+r)) (by show 0+4294967296*_≠0;omega);rw[show(0:UInt32).toNat+4294967296*2^(32*q+r)=4294967296*2^(32*q+r) by show 0+_=_;omega]at this;rw[this,ih];rfl
theorem Qmz{i:Nat}(hi:i<=31000)(w:World): Ret Tryz.prog 106 [.int .i64 (i:Int)] w λu w'=>NatV w' u (2^i)/\Ext w w':=by
 refine Jz Tryz.func106 Tryz.ntmps106 rfl kr rfl ?_;have eq:IntKind.i64.wrap ((i:Int).tdiv 32)=((i / 32:Nat):Int):=by
  rw[show(i:Int).tdiv 32=((i / 32:Nat):Int) from rfl,Vf om]
 have er:(i:Int).tmod 32=((i % 32:Nat):Int):=rfl;refine ρ ?_;refine Jjp rfl rfl (by decide) rfl ?_;rw[eq];refine ρ ?_;refine mkn EN (i / 32+1) om (by unfold maxLen;omega) ?_;intro w1 O G a1 hO;have j:Xd w1 w.heap.size (.slice O (i / 32+1) (i / 32+1)) (List.replicate (i / 32+1) 0):=by
  have e:(madeCells (Value.int .u32 0).cells ((i / 32+1)*1)).toList=Nc (List.replicate (i / 32+1) 0):=by rw[Nat.mul_one,<-Jwg];exact Yp _ _
  grind
 refine ρ ?_;refine Jjp rfl rfl (by decide) rfl ?_;rw[eq];refine ρ ?_;refine Jjn rfl rfl (by decide) rfl ?_;rw[er];refine sl32q (v:=i % 32) (Nat.mod_lt _ (by decide)) ?_;refine ρ ?_;rw[Xd,List.length_replicate]at j;refine ix (i / 32) (Rd.own j) om ?_;refine ρ ?_;obtain⟨s1,Z,F,U,s5⟩:=Zl j (q:=i / 32) om (.int .u32 ((UInt32.ofNat (2^(i % 32))).toNat:Int));have hp:2^(i % 32)<4294967296:=nM (Nat.pow_lt_pow_right (by decide) (Nat.mod_lt i (by decide:32 > 0))) (by decide);have ep:((UInt32.ofNat (2^(i % 32))).toNat:Int)=((2^(i % 32):Nat):Int):=by rw[UInt32.toNat_ofNat',Nat.mod_eq_of_lt (show 2^(i % 32)<2^32 from hp)]
 refine Go.Wk.kv 13 (u:=.int .u32 ((UInt32.ofNat (2^(i % 32))).toNat:Int)) (congrArg (Value.int .u32) ep.symm) ?_;refine sto (s1.trans (Xz (by simp))) Z ?_;rw[Kb]at F;have D:Jj (2^i)=(List.replicate (i / 32+1) 0).set (i / 32) (UInt32.ofNat (2^(i % 32))):=by
  have J:=Jmw (i / 32) (i % 32) (Nat.mod_lt _ (by decide));rw[Nat.div_add_mod]at J;rw[J,List.replicate_succ',List.set_append_right _ _ (by simp)];simp
 have y:(Jj (2^i)).length=i / 32+1:=by rw[D];simp
 rw[<-D,<-y]at F;refine ρ ?_;refine Jq ⟨⟨O,i / 32+1,by rw[y],om,om,?_⟩,G.setCell U _⟩;rw[<-y]at *;exact Rd.own F
open Go.RowKit Pl Go.Wk Bl Nw
def DivC(K:Nat): Prop:=∀ {v u:Value} {a b:Nat} {w:World},NatV w v a->NatV w u b->a<2^K->b<2^K->0<b->Ret Tryz.prog 94 [v,u] w λr w'=>(∃ x y,r=.tuple #[x,y,.int .i64 0]/\NatX (Ol w) w' x (a / b)/\NatX (Ol w) w' y (a % b))/\Ext w w'
theorem Qgv: DivC 32:=λi j y u h0=>Il i j (Ve y (by decide)) h0 u
theorem Qbq{v:Value}{p n K:Nat}{w:World}(hv:NatV w v p)(hn:2<=n)(hn64:n<=64)(hp:1<p)(hK:K<=29000)(hK6:7<=K)(hpK:p<2^K)(hx0:(2^((Jk p+n-1) / n))^(n-1)<2^K)(hdiv:DivC K): Ret Tryz.prog 104 [v,.int .i64 (n:Int)] w λu w'=>(∃ r,NatV w' u r/\Jxg p n r)/\Ext w w':=by
 have av:Jk p<=K:=Jmz hpK;have b2:1<=Jk p:=(Gj (x:=p) om).1;have ba:(Jk p+n-1) / n<=K:=by
  refine nL (Nat.div_le_of_le_mul (m:=Jk p+n-1) (k:=n) (n:=Jk p) ?_) av;obtain⟨l,hl⟩:∃ l,Jk p=l+1:=⟨Jk p-1,om⟩;rw[hl,Nat.mul_succ];have:l<=n*l:=Nat.le_mul_of_pos_left l om;omega
 have aj:p<(2^((Jk p+n-1) / n))^n:=by
  refine nM Ys ?_;rw[<-Nat.pow_mul];refine Nat.pow_le_pow_right (by decide) ?_;have:=Nat.div_add_mod (Jk p+n-1) n;have h2:=Nat.mod_lt (Jk p+n-1) (show n > 0 by omega);rw[Nat.mul_comm];omega
 generalize O:(Jk p+n-1) / n=c at *
 refine Jz Tryz.func104 Tryz.ntmps104 rfl kr rfl ?_;refine ρ ?_;refine cl (Yw hv (Ve hpK om)) ?_;rintro _ w1 ⟨rfl,rfl⟩;have eq:IntKind.i64.wrap (((Jk p:Int)+(n:Int)-1).tdiv (n:Int))=(c:Int):=by
  rw[show(Jk p:Int)+(n:Int)-1=((Jk p+n-1:Nat):Int) by omega,show(((Jk p+n-1:Nat):Int)).tdiv (n:Int)=(((Jk p+n-1) / n:Nat):Int) from rfl,O,Vf om]
 refine ρ ?_;refine Jjp rfl rfl om rfl ?_;rw[eq];refine ρ ?_;refine cl (Qmz (i:=c) om _) ?_;rintro x0 w2 ⟨ay,ai⟩;have b9:=Ve hpK om;refine ρ ?_;refine Qd (fun (x:Nat) (xv:Value)=>[(0,v),(1,.int .i64 (n:Int)),(5,xv)]) (λx xv w'=>Ext w1 w'/\NatV w' xv x/\0<x/\x<=2^c/\p<(x+1)^n) (λx _=>x) (2^c) x0 sB ⟨ai,ay,Nat.two_pow_pos c,Nat.le_refl _,Nat.lt_of_lt_of_le aj (Nat.pow_le_pow_left (Nat.le_succ _) n)⟩ ?_;rintro x xv w3 ⟨ah,hX,U,af,ap⟩;have a4:∀ k,k<=n-1->x^k<2^K:=λk hk=>nN (nL (Nat.pow_le_pow_left af k) (Nat.pow_le_pow_right (Nat.two_pow_pos c) hk)) hx0;have a6:x<2^K:=by have:=a4 1 om;rwa [Nat.pow_one]at this
 have ac:=Ve a6 om;refine ρ ?_;refine cl (Xn 1 (by decide) _) ?_;rintro o w4 ⟨ho,a1⟩;have a8:=ah.trans a1;have aa:((n:Int)-1)=((n-1:Nat):Int):=om
 refine ρ ?_;rw[aa];refine Qd (fun (i:Nat) (bv:Value)=>[(0,v),(1,.int .i64 (n:Int)),(5,xv),(6,bv),(24,.int .i64 ((n-1:Nat):Int)),(25,.int .i64 (i:Int))]) (λi bv w'=>i<=n-1/\Ext w4 w'/\NatV w' bv (x^i)) (λi _=>n-1-i) 0 o sB ⟨Nat.zero_le _,Ext.refl _,by rw[Nat.pow_zero];exact ho.1⟩ ?_;rintro i bv w5 ⟨hi,F,hb⟩;refine ρ ?_;refine ci (λO=>?_) (λO=>?_)
 .have ad:i<n-1:=by have:=oT O;omega
  clear O;refine ρ ?_;refine cl (Vb hb (hX.ext (a1.trans F)) (Ve (a4 i hi) om) ac) ?_;rintro b6 w6 ⟨ae,_,y⟩;rw[<-Nat.pow_succ]at ae;refine ρ ?_;exact Qy (i+1) b6 sO ⟨om,F.trans y,ae⟩ om
 have aw:i=n-1:=by have:=oF O;omega
 subst aw;clear O hi;have G:=a8.trans F;refine ρ ?_;refine cl (hdiv (hv.ext G) hb hpK (a4 _ (nR _)) (Nat.pow_pos U)) ?_;rintro _ w6 ⟨⟨qv,rv,rfl,hq,hr⟩,y⟩;have bb:n-1<64:=om
 have an:(n-1)*x<2^(K+6):=by
  rw[Nat.pow_add,Nat.mul_comm];exact nN (Nat.mul_le_mul_left x (show n-1<=2^6 by omega)) (Nat.mul_lt_mul_of_pos_right a6 (by decide))
 have ao:p / x^(n-1)<2^K:=nN (Nat.div_le_self _ _) hpK;have am:(n-1)*x+p / x^(n-1)<2^(K+7):=by
  have:2^(K+7)=2^(K+6)+2^(K+6):=by rw[show K+7=K+6+1 by omega,Nat.pow_succ];omega
  have h2:2^K<=2^(K+6):=Nat.pow_le_pow_right (by decide) om;omega
 refine ρ ?_;rw[aa,Yh (z:=((n-1:Nat):Int)) om];refine cl (Xn (n-1) om _) ?_;rintro m7 w7 ⟨au,Z⟩;have az:=G.trans (y.trans Z);refine ρ ?_;refine cl (Vb au.1 (hX.ext (a1.trans (F.trans (y.trans Z)))) (by have:=Qm (n:=n-1) om;omega) ac) ?_;rintro m8 w8 ⟨ar,_,a7⟩;refine ρ ?_;refine cl (Qbv ar ((hq.ext Z).ext a7).1 (Ve an om) (Ve ao om)) ?_;rintro m9 w9 ⟨aq,ag⟩;refine ρ ?_;rw[Yh (z:=(n:Int)) om];refine cl (Xn n om _) ?_;rintro b8 b5 ⟨ab,a2⟩;refine ρ ?_;refine cl (Il (aq.ext a2) ab.1 (Ve am om) om om) ?_;rintro _ b4 ⟨⟨nv,b7,rfl,a5,b1⟩,a9⟩;have D:=Z.trans (a7.trans (ag.trans (a2.trans a9)));have J:=G.trans (y.trans D);have a3:=hX.ext (a1.trans (F.trans (y.trans D)));have ak:((n-1)*x+p / x^(n-1)) / n=Nw.step p n x:=rfl;rw[ak]at a5;refine ρ ?_;refine cl (Jqm a5.1 a3) ?_
 rintro _ b3 ⟨rfl,j⟩;refine ρ ?_;refine ci (λO=>?_) (λO=>?_)
 .have ax:x<=Nw.step p n x:=by
   have:=oT O;unfold Vh at this;split at this
   .omega
   omega
  refine ρ ?_;exact Jq ⟨⟨x,a3.ext j,Qzb om U ax,ap⟩,J.trans j⟩
 have ad:Nw.step p n x<x:=by
  have:=oF O;unfold Vh at this;split at this
  .assumption
  split at this<;>omega
 refine ρ ?_;exact Qy (Nw.step p n x) nv sB ⟨J.trans j,(a5.ext j).1,Qzc om om U,om,Jfp om U⟩ ad
open Go.RowKit Pl Go.Wk Bl Nw
variable {K n p sc:Nat}{P1 Q1 Q2 SA:Option Addr}{v vW:Value}{w:World}
theorem Qkq(hv:NatV w v p)(hn:1<=n)(hn64:n<=64)(hK:K<=29000)(hK6:7<=K)(hL:Jk p+n<=K)(hdiv:DivC K): Ret Tryz.prog 59 [v,.int .i64 (n:Int)] w λu w'=>(∃ r,NatV w' u r/\Jxg p n r)/\Ext w w':=by
 have F:p<2^K:=nM Ys (Nat.pow_le_pow_right (by decide) om);have y:=Ve F om;have O:=Ys (x:=p);refine Jz Tryz.func59 Tryz.ntmps59 rfl kr rfl ?_;refine ρ ?_;refine cl (Yw hv y) ?_;rintro _ w1 ⟨rfl,rfl⟩;refine ρ ?_;by_cases h1:Jk p<=1
 .have a1:p<=1:=by
   have:2^Jk p<=2^1:=Nat.pow_le_pow_right (by decide) h1;omega
  refine kt 14 ?_ ?_
  .exact decide_eq_true om
  refine ρ ?_;refine cl (Jlv hv y) ?_;rintro u w2 ⟨D,i⟩;refine ρ ?_;refine Jq ⟨⟨p,D,?_⟩,i⟩;rcases(show p=0∨p=1 by omega) with rfl|rfl
  .exact⟨by rw[Nat.zero_pow om];exact nR _,by rw[Nat.zero_add,Nat.one_pow];decide⟩
  exact⟨by rw[Nat.one_pow];exact nR _,Nat.lt_of_lt_of_le (show 1<(1+1)^1 by decide) (Nat.pow_le_pow_right (by decide) hn)⟩
 refine kf 14 ?_ ?_
 .exact dF om
 refine ρ ?_;refine ci (λj=>?_) (λj=>?_)
 .have J:n=1:=by have:=eq_of_beq j;omega
  subst J;refine ρ ?_;refine cl (Jlv hv y) ?_;rintro u w2 ⟨D,i⟩;refine ρ ?_;exact Jq ⟨⟨p,D,by rw[Nat.pow_one];exact nR _,by rw[Nat.pow_one];omega⟩,i⟩
 have a2:n≠1:=λe=>by rw[e]at j;revert j;decide
 have Z:2<=p:=by
  rcases(show p=0∨p=1∨2<=p by omega) with rfl|rfl|h
  .exact absurd (show Jk 0<=1 by decide) h1
  .exact absurd (show Jk 1<=1 by decide) h1
  exact h
 clear j;refine ρ ?_;refine ci (λj=>?_) (λj=>?_)
 .have G:Jk p<=n:=by have:=oT j;omega
  refine ρ ?_;refine cl (Xn 1 (by decide) _) ?_;rintro o w2 ⟨ho,i⟩;refine ρ ?_;exact Jq ⟨⟨1,ho.1,by rw[Nat.one_pow];omega,Nat.lt_of_lt_of_le O (Nat.pow_le_pow_right (by decide) G)⟩,i⟩
 clear j;refine ρ ?_;refine ci (λj=>?_) (λj=>?_)
 .refine ρ ?_;refine cl (Qbq hv om hn64 om hK hK6 F ?_ hdiv) ?_
  .rw[<-Nat.pow_mul];refine Nat.pow_lt_pow_right (by decide) ?_;have h3:=Nat.div_mul_le_self (Jk p+n-1) n;have h4:(Jk p+n-1) / n*(n-1)<=(Jk p+n-1) / n*n:=Nat.mul_le_mul_left _ om;omega
  rintro u w2 ⟨⟨r,D,U⟩,i⟩;refine ρ ?_;exact Jq ⟨⟨r,D,U⟩,i⟩
 exfalso
 have:=oF j;omega
theorem Qmg{b:Bool}{P2 P3 m1 c1 m2 c2 K2:Nat}{ws:List PR}{sizes:List Nat}(hW:GX 3 RtC Nn w vW ws)(hS:Rd w 1 SA sizes.length (Jp (nz sizes)))(hn:∀ q∈ws,0<=q.sign/\q.num<18446744073709551616)(hd:∀ i,i<=ws.length->dnK ws i<4294967296)(hq:∀ q∈ws,q.num<18446744073709551616/\q.den<4294967296/\0<q.norm.den/\q.norm.den<4294967296)(hd1:1<=dnm ws)(hd64:dnm ws<=64)(ho:PrOk ws sizes (dnm ws) K)(hK:K2<=29000)(hK6:7<=K2)(hL:Jk (Gp ws sizes (dnm ws))+dnm ws<=K2)(hdiv:DivC K2):
  Ret Tryz.prog 28 [.agg #[vW,.slice P1 P2 P3,.bool b,.slice Q1 m1 c1,.slice Q2 m2 c2],.slice SA sizes.length sc] w λu w'=>(∃ v r,u=.tuple #[v,.int .i64 0]/\NatV w' v r/\Jxg (Gp ws sizes (dnm ws)) (dnm ws) r)/\Ext w w':=by
 obtain⟨W1,W2,_,rfl,_,a4,a6,_,a7⟩:=id hW.el;refine Jz Tryz.func28 Tryz.ntmps28 rfl kr rfl ?_;refine ρ ?_;refine bx (cs:=[.slice W1 ws.length W2,.slice P1 P2 P3,.bool b,.slice Q1 m1 c1,.slice Q2 m2 c2]) ?_;intro w1 b1 G a5 J;refine ρ ?_;refine lds (cs:=[.slice W1 ws.length W2,.slice P1 P2 P3,.bool b,.slice Q1 m1 c1,.slice Q2 m2 c2]) (λj u hu=>J.at hu) ?_;refine ρ ?_;refine cl (Qlw (hW.ext RtC.sta (by decide) G) (hS.ext G) ho.len hn) ?_;rintro _ w2 ⟨rfl,F⟩;refine ρ ?_;refine ld ((J.ext F).at (i:=0) rfl) ?_;have D:=G.trans F;refine ρ ?_;refine cl (Qhg (hW.ext RtC.sta (by decide) D) hd hq) ?_;rintro dv w3 ⟨U,O⟩;refine ρ ?_;refine cl (Jpm U.1 om) ?_;rintro _ w4 ⟨rfl,rfl⟩;refine ρ ?_;refine ld (((J.ext F).ext O).at (i:=0) rfl) ?_;have y:=D.trans O;refine ρ ?_;refine cl (Qvb (hW.ext RtC.sta (by decide) y) U (hS.ext y) ho) ?_;rintro _ w5 ⟨⟨pv,rfl,a2⟩,a1⟩
 refine ρ ?_;refine cl (Qkq a2.1 hd1 hd64 hK hK6 hL hdiv) ?_;rintro rv w6 ⟨⟨r,hr,a3⟩,Z⟩;refine ρ ?_;exact Xq ⟨⟨_,r,rfl,hr,a3⟩,y.trans (a1.trans Z)⟩
open Go.RowKit Pl Go.Wk Bl Nw
variable {c sc:Nat}{A P1 Q1 Q2 SA:Option Addr}{w:World}
abbrev hlf: PR:=⟨false,1,2⟩
theorem Qqs: cvr 216 3 [3,6,5] 7=some ⟨[hlf,hlf,hlf],[hlf,hlf,hlf],⟨false,3,2⟩⟩:=by decide +kernel
theorem Jjv: dnm [hlf,hlf,hlf]=2:=by decide +kernel
theorem Jfh: Gp [hlf,hlf,hlf] [4,4,4] 2=64:=by decide +kernel
theorem Qqt: Covd 3 [3,6,5] 7:=by
 intro v i _;rcases(show v=0∨v=1∨v=2 by omega) with rfl|rfl|rfl
 .exact⟨0,by decide,by decide⟩
 .exact⟨0,by decide,by decide⟩
 exact⟨1,by decide,by decide⟩
theorem Qqw(h:GrV w A c 3 [3,6,5]): Ret Tryz.prog 27 [.agg (grC A c 3 [3,6,5]).toArray,.int .u32 7] w λu w'=>∃ W P q1 q2,u=.tuple #[.agg #[W,P,.bool false,q1,q2],.int .i64 0]/\GX 3 RtC Nn w' W [hlf,hlf,hlf]/\GX 3 RtC Nn w' P [hlf,hlf,hlf]/\NatX Nn w' q1 3/\NatX Nn w' q2 2/\Ext w w' :=
 Qhk (set:=7) h (by decide) (by decide) (by decide) Qqt (by decide +kernel) Qqs
theorem Qfk: EOk hlf 2:=⟨by decide,by decide,by decide,by decide +kernel,by decide +kernel,by decide +kernel,by decide +kernel,by decide +kernel,by decide +kernel⟩
theorem Qqr: PrOk [hlf,hlf,hlf] [4,4,4] 2 32:=by
 refine⟨by decide,rfl,λq u=>?_,λs j=>?_,λi hi=>?_,λi y D=>?_⟩
 .simp only[List.mem_cons,List.not_mem_nil,or_false,or_self]at u;rw[u];exact Qfk
 .simp only[List.mem_cons,List.not_mem_nil,or_false,or_self]at j;rw[j];decide
 .have hi:i<=3:=hi;rcases(show i=0∨i=1∨i=2∨i=3 by omega) with rfl|rfl|rfl|rfl<;>decide +kernel
 have y:i<3:=y;have e:4^Kj hlf 2<2^32:=by decide +kernel
 rcases(show i=0∨i=1∨i=2 by omega) with rfl|rfl|rfl<;>exact e
theorem Qxb{vW:Value}{b:Bool}{P2 P3 m1 c1 m2 c2:Nat}(hW:GX 3 RtC Nn w vW [hlf,hlf,hlf])(hS:Rd w 1 SA 3 (Jp [4,4,4])):
  Ret Tryz.prog 28 [.agg #[vW,.slice P1 P2 P3,.bool b,.slice Q1 m1 c1,.slice Q2 m2 c2],.slice SA 3 sc] w λu w'=>(∃ v,u=.tuple #[v,.int .i64 0]/\NatV w' v 8)/\Ext w w':=by
 have D:∀ q∈[hlf,hlf,hlf],q=hlf:=λq j=>by
  simp only[List.mem_cons,List.not_mem_nil,or_false,or_self]at j;exact j
 refine(Qmg (sizes:=[4,4,4]) (K:=32) (K2:=32) hW hS (λq j=>by rw[D q j];decide +kernel) (λi hi=>?_) (λq j=>by rw[D q j];decide +kernel) (by rw[Jjv];decide) (by rw[Jjv];decide) (by rw[Jjv];exact Qqr) (by decide) (by decide) (by rw[Jjv,Jfh];decide) Qgv).mono λu w' ⟨⟨v,r,e,G,y⟩,F⟩=>⟨⟨v,e,?_⟩,F⟩
 .have hi:i<=3:=hi;rcases(show i=0∨i=1∨i=2∨i=3 by omega) with rfl|rfl|rfl|rfl<;>decide +kernel
 rw[Jjv,Jfh]at y;have:r=8:=Qkp y ⟨by decide,by decide⟩;rw[<-this];exact G
open Go.RowKit Pl Go.Wk Bl
variable {N N':Nat->Prop}{r:Row}{v vx:Value}{w w':World}
theorem ERf: ElT Tryz.prog 54 141 3 32 (.agg #[.int .i64 0,.int .i64 0,.string ⟨#[]⟩]):=⟨Tryz.underlying54,info_parts kr,rfl,by decide⟩
theorem ERfs: ElT Tryz.prog 44 54 1 24 (.slice none 0 0):=⟨Tryz.underlying44,info_parts kr,rfl,by decide⟩
theorem Jsj(v:V)(w:World): (Instr.buildSlice 54 1 #[(0,v.val)]).run Tryz.prog w=.ok (.slice (some ⟨w.heap.size,0,none⟩) 1 1) (w.alloc (.cells v.cells.toArray 141)):=kr
theorem Jsh(A:Option Addr)(n c:Nat)(w:World): (Instr.buildSlice 44 1 #[(0,.slice A n c)]).run Tryz.prog w=.ok (.slice (some ⟨w.heap.size,0,none⟩) 1 1) (w.alloc (.cells #[.slice A n c] 54)):=kr
theorem Jyg{base:Nat}{e:TypeId}{sz n:Nat}{cs:List Value}(h:w.ownsRow base e sz v n cs): ∀ g,v.ownBlock=some g->base<=g:=λg i=>by
 obtain⟨_,_,_,_,j⟩:=Jy h;exact(j g i).1
theorem Jvs(a b:Row): Je (a++b)=Je a++Je b:=by simp[Je]
theorem Jvq(v:V): Je [v]=v.cells:=by simp[Je]
abbrev OwnF(w:World)(base:Nat)(v:Value)(q:Row): Prop:=w.ownsRow base 141 3 v q.length (Je q)
theorem Qkv{x:Row}(hx:RowV w vx x)(hl:x.length<=100000): Ret Tryz.prog 48 [vx] w λu w'=>OwnF w' w.heap.size u x/\Ext w w':=by
 obtain⟨A,c,rfl,ad,ac,hR⟩:=hx;refine Jz Tryz.func48 Tryz.ntmps48 rfl kr rfl ?_;refine ρ ?_;refine Qd (fun (k:Nat) (G:Value)=>[(3,G),(6,.slice A x.length c),(7,.int .i64 (x.length:Int)),(8,.int .i64 (k:Int))])
  (λk G w'=>k<=x.length/\Ext w w'/\OwnF w' w.heap.size G (x.take k)) (λk _=>x.length-k) 0 (.slice none 0 0) sB
  ⟨Nat.zero_le _,Ext.refl _,Xk _ _ _ _⟩ ?_
 rintro k G w1 ⟨hk,y,J⟩;refine ρ ?_;refine ci (λh=>?_) (λh=>?_)
 .have lk:k<x.length:=by have:=oT h;omega
  clear h;have F:RdR w1 A x:=Rd.ext hR y;refine ρ ?_;refine ixq 3 k F lk ?_;refine ρ ?_;refine lds (cs:=(x.getD k V0).cells) (λj u hu=>RdR.cell F lk hu) ?_;refine ρ ?_;refine alc Jjm ?_;intro w2 b2 Z a5 a8;refine ρ ?_;refine stb (cs':=(x.getD k V0).cells) a8 ?_ (V.one _);intro w3 a7 ab U;have D:Ext w1 w3:=U w1 Z a5;refine ρ ?_;refine lds (cs:=(x.getD k V0).cells) (λj u hu=>a7.at hu) ?_;refine ρ ?_;refine bsl (Jsj _) ?_;intro w4 b4 O ae a6;have a1:x.take (k+1)=x.take k++[x.getD k V0]:=by rw[List.take_add_one,List.getElem?_eq_getElem lk];simp[List.getD,List.getElem?_eq_getElem lk]
  have aa:(x.take k).length=k:=by rw[List.length_take];omega
  have i:=D.trans O;refine ρ ?_;refine apb (m':=1) (news:=(x.getD k V0).cells) ERf (Jc J i) (a6.rd (n:=1) rfl) (V.one _) (by unfold maxLen;omega) om (y.trans i).size ?_;intro v5 w5 a2 a4 a9;refine ρ ?_;refine Qy (k+1) v5 sO ⟨lk,Js (y.trans i) a4 (Jyg (Jc J i)),?_⟩ om;rw[OwnF,a1,List.length_append,Jvs,Jvq];exact a2
 have a3:k=x.length:=by have:=oF h;omega
 subst a3;rw[List.take_length]at J;refine ρ ?_;exact Jq ⟨J,y⟩
def RfC: (Nat->Prop)->World->List Value->Row->Prop:=λN w cs r=>∃ v,cs=[v]/\RowX w N v r
theorem RowX.grN(h:RowX w N v r)(hg:GrN N w w'): RowX w' N v r:=by
 obtain⟨A,c,e,y,u,j,i⟩:=h;exact⟨A,c,e,y,u,Zg j hg λh0 F D=>i (λe=>by subst e;exact absurd h0 (by decide)) F D,i⟩
theorem RowX.oldN(h:RowX w N v r)(hN:∀ k,N' k->N k∨w.heap.size<=k): RowX w N' v r:=by
 obtain⟨A,c,e,G,F,u,D⟩:=h;refine⟨A,c,e,G,F,u,λh0 O y i=>?_⟩;rcases hN _ i with i|i
 .exact D h0 O y i
 obtain⟨J,j,U⟩:=Rd.isome u (List.length_pos_iff.2 h0) (by decide);rw[y]at j;injection j with j
 subst j;omega
theorem RfC.sta: Sta RfC:=⟨λ⟨v,e,h⟩ i=>⟨v,e,h.grN i⟩,λ⟨v,e,h⟩ j=>⟨v,e,h.oldN j⟩⟩
theorem OwnF.x(h:OwnF w' w.heap.size v r)(hl:r.length<=1100000): RowX w' (Ol w) v r:=by
 obtain⟨A,c,e,y,u⟩:=Jy h;subst e;refine⟨A,c,rfl,y,hl,Rd.own h,λh0 i D j=>?_⟩;have:=(u i.block (by rw[D];rfl)).1;exact absurd (show i.block<w.heap.size from j) om
theorem Jhb{ls:List Row}(hx:RowsV w vx ls)(hl:∀ r∈ls,r.length<=100000): Ret Tryz.prog 25 [vx] w λu w'=>OX 54 1 RfC (Ov w u) w' w.heap.size u ls/\Ext w w':=by
 obtain⟨ps,A,c,rfl,rfl,ab,aa,hR,J⟩:=hx;refine Jz Tryz.func25 Tryz.ntmps25 rfl kr rfl ?_;refine ρ ?_;refine Qd (fun (k:Nat) (F:Value)=>[(3,F),(6,.slice A ps.length c),(7,.int .i64 (ps.length:Int)),(8,.int .i64 (k:Int))])
  (λk F w'=>k<=ps.length/\Ext w w'/\OX 54 1 RfC (Ov w F) w' w.heap.size F ((ps.map (·.2)).take k)) (λk _=>ps.length-k) 0 (.slice none 0 0) sB
  ⟨Nat.zero_le _,Ext.refl _,OX.nil _ _⟩ ?_
 rintro k F w1 ⟨hk,j,Z⟩;refine ρ ?_;refine ci (λh=>?_) (λh=>?_)
 .have lk:k<ps.length:=by have:=oT h;omega
  clear h;have D:(ps.map (·.1))[k]?=some ps[k].1:=by simp[List.getElem?_eq_getElem lk]
  refine ρ ?_;refine ix k (hR.ext j) lk ?_;refine ρ ?_;refine ld ((hR.ext j).cell D) ?_;refine ρ ?_;refine cl (Qkv ((J _ (List.getElem_mem lk)).ext j) (hl _ (List.mem_map.2 ⟨_,List.getElem_mem lk,rfl⟩))) ?_;rintro r w2 ⟨hr,a1⟩;have a9:=hl _ (List.mem_map.2 ⟨_,List.getElem_mem lk,rfl⟩);have a3:=OwnF.x hr om;obtain⟨B,bc,eB,_,_⟩:=Jy hr;subst eB;refine ρ ?_;refine bsl (Jsh _ _ _) ?_;intro w3 b3 G ac a8;have y:=a1.trans G;have a4:=(Z.ext RfC.sta y).old RfC.sta (N':=λq=>Ov w F q∨w3.heap.size<=q) λq i=>i;obtain⟨_,_,_,_,O⟩:=id Z.form;refine ρ ?_;refine apX ERfs RfC.sta a4 a8 rfl (λu hu=>by rw[List.mem_singleton.1 hu];rfl) ⟨_,rfl,(a3.grN (GrN.ext G)).oldN λq i=>?_⟩ (λg hg=>.inl (.inr hg)) (by simp;omega) (by decide) (j.trans y).size ?_
  .rcases i with(i|i)|i
   .exact .inl (nM i j.size)
   .exact .inl (O q i).2
   exact .inr i
  intro v4 w4 U a7 a5;have a2:(ps.map (·.2)).take k++[ps[k].2]=(ps.map (·.2)).take (k+1):=by rw[List.take_add_one,List.getElem?_map,List.getElem?_eq_getElem lk];rfl
  rw[a2]at U;refine ρ ?_;exact Qy (k+1) v4 sO ⟨lk,Js (j.trans y) a7 λq e=>(O q e).1,U.old RfC.sta λq i=>.inl (i.elim (λi=>.inl (.inl i)) λi=>(a5 q i).elim (λi=>.inl (.inr i)) .inr)⟩ om
 have a6:k=ps.length:=by have:=oF h;omega
 subst a6;rw[show ps.length=(ps.map (·.2)).length by simp,List.take_length]at Z
 refine ρ ?_;exact Jq ⟨Z,j⟩
end Go.Proofs.YtebiphhfkdbpfaaGreat
namespace Go.Wk
open Go.RowKit
variable {id n:Nat}{w:World}
theorem Off.old'{N N':Nat->Prop}{Φ:World->Prop}(h:Off N w Φ)(hN:∀ k,N' k->N k∨w.heap.size<=k): Off N' w Φ:=λw2 i=>h w2 (i.mono λk j hn=>(hN k hn).elim id λh=>om)
theorem Qjj{P:Program}{al:AL}{Q Q':Exit->Act->World->Prop}{α:Type}{c d:Code}(fr:α->AL)(I:α->World->Prop)(h1:WC P n c (Exit.inBlock id (Exit.then (λa w=>∃ x,Fr n (fr x) a/\I x w) Q)) al w)(h2:∀ x w,I x w->WC P n d Q' (fr x) w):
  WC P n c (Exit.inBlock id (Exit.then (d.wp P Q') Q)) al w:=by
 intro a D;refine wp_mono (h1 a D) ?_;intro e y w' i;cases e with
 | normal=>obtain⟨x,u,j⟩:=i;exact h2 x w' j y u
 | exit id'=>
  by_cases e:id'=id
  .simp only[Exit.inBlock,e,if_true]at i ⊢;obtain⟨x,u,j⟩:=i;exact h2 x w' j y u
  simp only[Exit.inBlock,e,if_false]at i ⊢;exact i
 | goto l=>exact i
 | ret=>exact i
 | panic c=>exact i
 | outgrown=>exact i
end Go.Wk
namespace Go.Proofs.YtebiphhfkdbpfaaGreat
open Go.RowKit Pl Go.Wk Bl
attribute [local irreducible] WC WL QX WD WDB WP WN WG WH
theorem Jsc{s v:Nat}(hv:v<8): ((((s:Int)).fdiv (2^(min ((v:Nat):Int).toNat 8))).tmod 2 == 1)=s.testBit v:=by
 have e:((s:Int)).fdiv (2^(min ((v:Nat):Int).toNat 8))=((s / 2^v:Nat):Int):=by
  rw[Gc s v 8,Nat.min_eq_left om]
 rw[e];have i:(((s / 2^v:Nat):Int)).tmod 2=((s / 2^v % 2:Nat):Int):=rfl;rw[i,Nat.testBit_eq_decide_div_mod_eq];by_cases h:s / 2^v % 2=1
 .rw[h];rfl
 have:s / 2^v % 2=0:=om
 rw[this];rfl
structure LA where
 vars: Nat
 rows:List (List Nat)
 bad:Nat
def u8C(l:List Nat): List Value:=l.map fun (x:Nat)=>Value.int .u8 (x:Int)
def U8R(N:Nat->Prop)(w:World)(cs:List Value)(r:List Nat): Prop:=cs=u8C r/\r.length=4/\∀ x∈r,x<256
theorem U8R.sta: Sta U8R:=⟨λh _=>h,λh _=>h⟩
def LaC(N:Nat->Prop)(w:World)(cs:List Value)(a:LA): Prop:=a.vars<256/\a.bad<256/\∃ v,cs=[.int .u8 (a.vars:Int),v,.int .u8 (a.bad:Int)]/\GX 4 U8R N w v a.rows
theorem LaC.sta: Sta LaC:=⟨λ⟨j,i,v,e,h⟩ u=>⟨j,i,v,e,h.gr U8R.sta (by decide) u⟩,λ⟨j,i,v,e,h⟩ y=>⟨j,i,v,e,h.old U8R.sta (by decide) y⟩⟩
def AtC(N:Nat->Prop)(w:World)(cs:List Value)(a:Atm): Prop:=∃ t:V3,cs=t.cells/\Off N w λw=>AtV w t a
theorem AtC.sta: Sta AtC:=⟨λ⟨t,e,h⟩ i=>⟨t,e,h.gr i⟩,λ⟨t,e,h⟩ j=>⟨t,e,h.old' j⟩⟩
structure RA where
 vars: List Int
 rows:List Row
def RaC(N:Nat->Prop)(w:World)(cs:List Value)(a:RA): Prop:=∃ v1 v2,cs=[v1,v2]/\Off N w λw=>IntsV w v1 a.vars/\RowsV w v2 a.rows
theorem RaC.sta: Sta RaC:=⟨λ⟨j,i,e,h⟩ u=>⟨j,i,e,h.gr u⟩,λ⟨j,i,e,h⟩ y=>⟨j,i,e,h.old' y⟩⟩
def lvs(a:LA): List Nat:=Jv 8 a.vars
def Xr(n:Nat)(y:List Nat): Row:=(List.range n).map λi=>⟨1,((y.getD i 0 % 4:Nat):Int),⟨#[]⟩⟩
def Qc(a:LA): List Int:=if a.bad=0 then nz (lvs a) else if a.bad=1 then nz (lvs a)++[9] else if a.bad=2 then nz (lvs a)++[0] else -1::nz (lvs a)
def LA.fits(a:LA): Prop:=(lvs a).length<=4/\a.rows.length<=12
end Go.Proofs.YtebiphhfkdbpfaaGreat
