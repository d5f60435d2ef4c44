/- Part 6. -/
import Derived.Test.YtebiphhfkdbpfaaGreatP05
set_option linter.unusedVariables false
set_option maxRecDepth 100000
set_option maxHeartbeats 40000000
namespace Go.Proofs.YtebiphhfkdbpfaaGreat
open Go.RowKit Pl Go.Wk Bl
attribute [local irreducible] WC WL QX WD WDB WP WN WG WH
variable {A rows':List (List PR)}{i n:Nat}
theorem Qmz(a b:Int)(w:World): (Instr.build 168 #[(0,.int .i64 a),(1,.int .i64 b)]).run Tryz.prog w=.ok (.agg #[.int .i64 a,.int .i64 b,.slice none 0 0,.slice none 0 0,.slice none 0 0]) w:=kr
theorem Jsn(A:Option Addr)(m c:Nat)(w:World): (Instr.buildSlice 120 1 #[(0,.slice A m c)]).run Tryz.prog w=.ok (.slice (some ⟨w.heap.size,0,none⟩) 1 1) (w.alloc (.cells [.slice A m c].toArray 80)):=kr
theorem Um(z:Int)(w:World): (Instr.buildSlice 28 1 #[(0,.int .i64 z)]).run Tryz.prog w=.ok (.slice (some ⟨w.heap.size,0,none⟩) 1 1) (w.alloc (.cells [.int .i64 z].toArray 3)):=kr
theorem GX.nil{α:Type}{sz:Nat}{Φ:(Nat->Prop)->World->List Value->α->Prop}(N:Nat->Prop)(w:World): GX sz Φ N w (.slice none 0 0) ([]:List α):=⟨⟨[],none,0,rfl,rfl,Nat.le_refl _,by simp,Rd.nil,λp u=>by cases u⟩,λh=>absurd rfl h⟩
theorem Qdp{α:Type}(d:α){l k:List α}(h:l.length=k.length)(he:∀ i,i<l.length->l.getD i d=k.getD i d): l=k:=by
 refine List.ext_getElem h λi u y=>?_;have:=he i u;simpa [List.getD,List.getElem?_eq_getElem u,List.getElem?_eq_getElem y] using this
theorem Qbm(hA:Bin n A)(hi:i<A.length): (((mix (A.getD i []++List.replicate (A.length+2) pr0) (List.replicate (n+A.length+2) pr0) n).set (n+i) (PR.int 1)).set (n+A.length) (PR.int (-1))).set (n+A.length+1) (PR.int 1)=(PT.ofP n A).rows.getD i []:=by
 have F:=(hA i hi).1;have D:((PT.ofP n A).rows.getD i []).length=n+A.length+2:=by
  rw[Jqm i hi,List.length_append,List.length_append,F,List.length_map,List.length_range];rfl
 have y:=λj=>Ig hA.rok i j hi;generalize A.getD i []=a at *
 have u:(mix (a++List.replicate (A.length+2) pr0) (List.replicate (n+A.length+2) pr0) n).length=n+A.length+2:=by
  rw[Uh (by simp[F];omega) (by simp;omega)];simp
 refine Qdp pr0 (by rw[List.length_set,List.length_set,List.length_set,u,D]) λj O=>?_;rw[List.length_set,List.length_set,List.length_set,u]at O;rw[y j];have G:∀(l:List PR) (k:Nat) (x:PR),k<l.length->(l.set k x).getD j pr0=if k=j then x else l.getD j pr0:=λl k x J=>by
  by_cases h:k=j
  .subst h;simp[List.getD,J]
  simp[List.getD,List.getElem?_set_ne h,h]
 rw[G _ _ _ (by rw[List.length_set,List.length_set,u];omega),G _ _ _ (by rw[List.length_set,u];omega),G _ _ _ (by rw[u];omega)];have U:(mix (a++List.replicate (A.length+2) pr0) (List.replicate (n+A.length+2) pr0) n).getD j pr0=if j<n then(a).getD j pr0 else pr0:=by
  unfold mix;rw[Jqv,List.length_take,List.length_append,F,List.length_replicate,Nat.min_eq_left om];by_cases h:j<n
  .rw[if_pos h,if_pos h];simp only[List.getD_eq_getElem?_getD,List.getElem?_take,h,if_true,List.getElem?_append_left (show j<a.length by omega)]
  rw[if_neg h,if_neg h];simp only[List.getD_eq_getElem?_getD,List.getElem?_drop,List.getElem?_replicate];split<;>rfl
 rw[U];by_cases h1:j<n
 .rw[if_neg om,if_neg om,if_neg om,if_pos h1,if_pos h1]
 rw[if_neg h1,if_neg h1];by_cases h2:j<n+A.length
 .rw[if_neg om,if_neg om,if_pos h2];by_cases h3:n+i=j
  .rw[if_pos h3,if_pos om]
  rw[if_neg h3,if_neg om]
 rw[if_neg h2];by_cases h3:j=n+A.length
 .rw[if_neg om,if_pos h3.symm,if_pos h3]
 rw[if_pos om,if_neg h3,if_pos om]
section
variable {w w1 w2:World} {base b:Nat} {vr vr' vg vb vb':Value} {t:PT}
theorem TbV.addRow(hT:TbV w base b vr vg vb t)(ho:OX 80 1 MxC (λk=>TN b vr vb k∨w.heap.size<=k) w1 base vr' rows')(hg:w.grownBy w1 vr.ownBlock)(hn:∀ g,vr'.ownBlock=some g->vr.ownBlock=some g∨w.heap.size<=g)(hB:Blk w2 b 168 [.int .i64 (t.n:Int),.int .i64 (t.m:Int),vr',vg,vb])(hg2:w1.grownBy w2 (some b)): TbV w2 base b vr' vg vb ⟨t.n,t.m,rows',t.goal,t.basis⟩:=by
 have O:=hT.blk.lt;have y:∀ k,TN b vr' vb k->TN b vr vb k∨w.heap.size<=k:=λk u=>by
  rcases u with u|u|u
  .exact .inl (.inl u)
  .rcases hn k u with h|h
   .exact .inl (.inr (.inl h))
   exact .inr h
  exact .inl (.inr (.inr u))
 have G:vr'.ownBlock≠some b:=λe=>by
  rcases hn b e with h|h
  .exact hT.ne1 h
  omega
 obtain⟨ps,_,F,_⟩:=id hT.rows;have Z:GrN (λk=>TN b vr vb k∨w.heap.size<=k) w w1:=GrN.by hg λk u=>.inl (.inr (.inl u))
 have U:GrN (λk=>TN b vr vb k∨w.heap.size<=k) w1 w2:=GrN.by hg2 λk u=>by injection u with u;exact .inl (.inl u.symm)
 refine⟨hB,(ho.gr MxC.sta (M:=λk=>k=b) (GrN.by hg2 λk u=>by injection u with u;exact u.symm) λk u=>⟨.inl (.inl u),λe=>G (by rw[e,u])⟩).old MxC.sta λk u=>.inl (y k u),?_,?_⟩
 .exact(((hT.goal.old RtC.sta (by decide) (λk u=>u)).gr RtC.sta (by decide) Z).gr RtC.sta (by decide) U).old RtC.sta (by decide) λk u=>.inl (y k u)
 have D:Qq w1 base vb t.basis:=Jo hT.bas (N:=λk=>vr.ownBlock=some k) (GrN.by hg λk u=>u) λg D J=>Jzn hT.bas F kr D J;exact Jo D (N:=λk=>k=b) (GrN.by hg2 λk u=>by injection u with u;exact u.symm) λg D J=>hT.ne2 (by rw[D,J])
theorem TbV.addBas(hT:TbV w base b vr vg vb t){basis':List Nat}(ho:Qq w1 base vb' basis')(hg:w.grownBy w1 vb.ownBlock)(hn:∀ g,vb'.ownBlock=some g->vb.ownBlock=some g∨w.heap.size<=g)(hB:Blk w2 b 168 [.int .i64 (t.n:Int),.int .i64 (t.m:Int),vr,vg,vb'])(hg2:w1.grownBy w2 (some b)): TbV w2 base b vr vg vb' ⟨t.n,t.m,t.rows,t.goal,basis'⟩:=by
 have O:=hT.blk.lt;have y:∀ k,TN b vr vb' k->TN b vr vb k∨w.heap.size<=k:=λk u=>by
  rcases u with u|u|u
  .exact .inl (.inl u)
  .exact .inl (.inr (.inl u))
  rcases hn k u with h|h
  .exact .inl (.inr (.inr h))
  exact .inr h
 have F:vb'.ownBlock≠some b:=λe=>by
  rcases hn b e with h|h
  .exact hT.ne2 h
  omega
 obtain⟨ps,_,D,_⟩:=id hT.rows;have Z:GrN (λk=>TN b vr vb k∨w.heap.size<=k) w w1:=GrN.by hg λk u=>.inl (.inr (.inr u))
 have U:GrN (λk=>TN b vr vb k∨w.heap.size<=k) w1 w2:=GrN.by hg2 λk u=>by injection u with u;exact .inl (.inl u.symm)
 refine⟨hB,?_,?_,Jo ho (N:=λk=>k=b) (GrN.by hg2 λk u=>by injection u with u;exact u.symm) λg J G=>F (by rw[J,G])⟩
 .have h0:=hT.rows.old MxC.sta (N':=λk=>TN b vr vb k∨w.heap.size<=k) λk u=>u;have J:=h0.gr MxC.sta (M:=λk=>vb.ownBlock=some k) (GrN.by hg λk u=>u) λk u=>⟨.inl (.inr (.inr u)),λe=>Jzn hT.bas D kr u e⟩;have G:=J.gr MxC.sta (M:=λk=>k=b) (GrN.by hg2 λk u=>by injection u with u;exact u.symm) λk u=>⟨.inl (.inl u),λe=>hT.ne1 (by rw[e,u])⟩;exact G.old MxC.sta λk u=>.inl (y k u)
 exact(((hT.goal.old RtC.sta (by decide) (λk u=>u)).gr RtC.sta (by decide) Z).gr RtC.sta (by decide) U).old RtC.sta (by decide) λk u=>.inl (y k u)
end
open Go.RowKit Pl Go.Wk Bl
theorem Qcf{N:Nat->Prop}{w:World}{vC vA vB:Value}{n:Nat}{A:List (List PR)}(hC:GX 3 RtC N w vC (List.replicate n (PR.int 1)))(hA:GX 1 MxC N w vA A)(hB:GX 3 RtC N w vB (List.replicate A.length (PR.int 1)))(hbin:Bin n A)(hn:n<=64)(hm:A.length<=64):
  Ret Tryz.prog 82 [.agg #[vC,vA,vB]] w λu w'=>∃ base b vr vb,u=.pointer (some ⟨b,0,none⟩)/\w.heap.size<=base/\w.heap.size<=b/\base<=w'.heap.size/\TbV w' base b vr (.slice none 0 0) vb ⟨n,A.length,(PT.ofP n A).rows,[],(PT.ofP n A).basis⟩/\Ext w w':=by
 have ax:(PT.ofP n A).rows.length=A.length:=by simp[PT.ofP]
 obtain⟨CA,cc,_,rfl,eg,_,_,_,_⟩:=id hC.el;obtain⟨AA,ac,_,rfl,fn,_,f4,_,f3⟩:=id hA.el;obtain⟨BA,bc,_,rfl,ek,_,dt,_,dq⟩:=id hB.el;simp only[List.length_replicate]at hC hB eg ek dt dq ⊢;refine Jz Tryz.func82 Tryz.ntmps82 rfl kr rfl ?_;refine ρ ?_;refine bx ?_;intro w1 b1 be fm bl;refine ρ ?_;refine ld (bl.at (i:=0) rfl) ?_;refine ρ ?_;refine ld (bl.at (i:=2) rfl) ?_;refine ρ ?_;refine bld (Qmz _ _ _) ?_;refine ρ ?_;refine bx ?_;intro w2 b bd ch dz;have c2:=bl.ext bd;have a8:=be.trans bd;have l1:=bl.lt;refine ρ ?_;refine ld (c2.at (i:=1) rfl) ?_;refine ρ ?_;refine Zk (fun (i:Nat) (vr vb:Value)=>[(1,.pointer (some ⟨b1,0,none⟩)),(3,.pointer (some ⟨b,0,none⟩)),(18,.slice AA A.length ac),(19,.int .i64 (A.length:Int)),(20,.int .i64 (i:Int))])
  (λi vr vb w'=>i<=A.length/\Ext w w'/\w2.heap.size<=w'.heap.size/\Blk w' b1 122 [.slice CA n cc,.slice AA A.length ac,.slice BA A.length bc]/\TbV w' w2.heap.size b vr (.slice none 0 0) vb ⟨n,A.length,(PT.ofP n A).rows.take i,[],(List.range i).map (n + ·)⟩) (λi _ _=>A.length-i) 0 (.slice none 0 0) (.slice none 0 0) sB
  ⟨Nat.zero_le _,a8,Nat.le_refl _,c2,dz,OX.nil _ _,GX.nil _ _,Xj _ _ _ _⟩ ?_
 rintro i vr vb w3 ⟨hi,ak,cu,b5,D⟩;refine ρ ?_;refine ci (λh=>?_) (λh=>?_)
 .have F:i<A.length:=by have:=oT h;omega
  clear h;obtain⟨ce,fk,⟨va,rfl,hG⟩,ef⟩:=f3 i F;have eo:A.getD i []=A[i]:=by simp[List.getD,List.getElem?_eq_getElem F]
  obtain⟨bg,dh⟩:=hbin i F;rw[<-eo]at hG;generalize haa:A.getD i []=a at *
  obtain⟨K,kc,_,rfl,eb,_,dn,_,ex⟩:=id hG.el;rw[bg]at dn eb;have br:w3.cell? (adr AA i)=some (.slice K a.length kc):=by
   have:=Xz ak (ef 0 _ rfl);rwa [Nat.mul_one,add_zero]at this
  rw[bg]at br;refine ρ ?_;refine ix i (f4.ext ak) F ?_;refine ρ ?_;refine ld br ?_;refine ρ ?_;refine cl (Gl (n:=n) (m:=A.length) D.blk rfl rfl om om) ?_;rintro _ w4 ⟨rfl,J⟩;refine ρ ?_;refine Go.Wk.kv 27 (u:=.int .i64 ((n+A.length+2:Nat):Int)) (congrArg (Value.int .i64) (by show((n+A.length+1:Nat):Int)+1=_;omega)) ?_;refine cl (Jxm (n+A.length+2) om w4) ?_;rintro u w5 ⟨hU,cq⟩;have f6:=J.trans cq;obtain⟨U,uc,_,eu,fh,ay,fo⟩:=id hU.el;rw[List.length_replicate]at eu ay;subst eu;obtain⟨_,_,_,_,bh⟩:=id hU.form;have bi:∀ g,(Value.slice U (n+A.length+2) uc).ownBlock=some g->Ov w4 (.slice U (n+A.length+2) uc) g:=λg hg=>.inr hg;have d2:(a++List.replicate (A.length+2) pr0).length=(List.replicate (n+A.length+2) pr0).length:=by simp[bg];omega
  refine ρ ?_;refine Jl (fun (j:Nat)=>[(1,.pointer (some ⟨b1,0,none⟩)),(3,.pointer (some ⟨b,0,none⟩)),(4,.int .i64 (i:Int)),(6,.slice U (n+A.length+2) uc),(18,.slice AA A.length ac),(19,.int .i64 (A.length:Int)),(20,.int .i64 (i:Int)),(29,.slice K n kc),(30,.int .i64 (n:Int)),(31,.int .i64 (j:Int))])
   (λj w'=>j<=n/\Ext w4 w'/\OX 84 3 RtC (Ov w4 (.slice U (n+A.length+2) uc)) w' w4.heap.size (.slice U (n+A.length+2) uc) (mix (a++List.replicate (A.length+2) pr0) (List.replicate (n+A.length+2) pr0) j)) (λj=>n-j) 0 sB ⟨Nat.zero_le _,cq,by rw[Gu];exact hU⟩ ?_
  rintro j w6 ⟨hj,ar,b3⟩;have c9:(mix (a++List.replicate (A.length+2) pr0) (List.replicate (n+A.length+2) pr0) j).length=n+A.length+2:=by rw[Uh d2 (by simp;omega)];simp
  have av:=J.trans ar;obtain⟨U',e5,_,ev,_,bu,_⟩:=id b3.el;rw[c9]at ev bu;injection ev with ev1 ev2 ev3
  subst ev1;obtain⟨_,_,_,_,di⟩:=id b3.form;refine ρ ?_;refine ci (λh=>?_) (λh=>?_)
  .have bf:j<n:=by have:=oT h;omega
   clear h;obtain⟨ce,_,db,ee⟩:=ex j om;have dg:a[j]'(by omega)=a.getD j pr0:=by simp[List.getD,List.getElem?_eq_getElem (show j<a.length by omega)]
   rw[dg]at db;have e2:=dh j bf;have cy:(a.getD j pr0).Nrm:=by
    rcases e2 with e|e<;>rw[e]
    .exact Jqg
    exact PR.int_nrm 1
   have e9:=cy.norm;have f7:(a.getD j pr0).num<=1/\(a.getD j pr0).den<=1:=by rcases e2 with e|e<;>rw[e]<;>decide
   have d3:(a++List.replicate (A.length+2) pr0)[j]?=some (a.getD j pr0):=by rw[List.getElem?_append_left om,<-dg];exact gE om
   generalize a.getD j pr0=q at *
   obtain⟨E1,x1,E2,x2,rfl,e8⟩:=db.sl;have am:=ak.trans av;refine ρ ?_;refine ixq 3 j (dn.ext am) bf ?_;refine ρ ?_;refine lds (λk u hu=>Xz am (ee k u hu)) ?_;refine ρ ?_;refine alc Zo ?_;intro w7 b8 ba en f0;refine ρ ?_;refine stb (cs':=[.bool q.neg,.slice E1 _ x1,.slice E2 _ x2]) f0 ?_ (Qz rfl rfl rfl);intro w8 dw d5 e6;have a6:Ext w6 w8:=e6 w6 ba en;refine ρ ?_;refine ldW dw ?_;refine ρ ?_;refine cl (Zh (e8.ext (am.trans a6)) om om) ?_;rintro r w9 ⟨hR,ao⟩;rw[e9]at hR;have aq:=a6.trans ao;obtain⟨G1,g1,G2,g2,rfl,cg⟩:=hR.cell;refine ρ ?_;refine ixq 3 j (bu.ext aq) om ?_;refine ρ ?_;refine stX RtC.sta (b3.ext RtC.sta aq) c9.symm (show j<_ by omega) (cs:=[.bool q.neg,.slice G1 _ g1,.slice G2 _ g2]) (a:=q) (RtC.sta.old cg λk y=>.inl ?_) bi (Qz rfl rfl rfl) ?_
   .rcases y with y|y
    .exact nM y (ar.trans a6).size
    exact nM (di k y).2 a6.size
   intro e4 a5 d8;rw[Ug d2 (by simp;omega) d3]at a5;refine ρ ?_;exact Jg (j+1) sO ⟨om,Jr (ar.trans aq) d8 (λg hg=>(bh g hg).1),a5⟩ om
  have bf:j=n:=by have:=oF h;omega
  clear h;subst bf;have ew:=D.ext av;have f9:=b5.ext av;have cd:(mix (a++List.replicate (A.length+2) pr0) (List.replicate (j+A.length+2) pr0) j).length=j+A.length+2:=c9;have cj:∀ {w':World} {ls:List PR},OX 84 3 RtC (Ov w4 (.slice U (j+A.length+2) uc)) w' w4.heap.size (.slice U (j+A.length+2) uc) ls->Ext w4 w'->∀ k,Ov w4 (.slice U (j+A.length+2) uc) k->k<w'.heap.size:=fun {w' ls} h hx k y=>by
   rcases y with y|y
   .exact nM y hx.size
   obtain⟨_,_,_,_,h3⟩:=id h.form;exact(h3 k y).2
  have ay:∀ {w':World} {ls:List PR},OX 84 3 RtC (Ov w4 (.slice U (j+A.length+2) uc)) w' w4.heap.size (.slice U (j+A.length+2) uc) ls->ls.length=j+A.length+2->∃ cs,Rd w' 3 U (j+A.length+2) cs:=fun {w' ls} h hl=>by
   obtain⟨U',e5,cs,ev,_,hd,_⟩:=id h.el;rw[hl]at ev hd;injection ev with ev1 ev2 ev3
   subst ev1;exact⟨cs,hd⟩
  generalize hL0:mix (a++List.replicate (A.length+2) pr0) (List.replicate (j+A.length+2) pr0) j=L0 at *
  have b9:Ext w6 w6.drew:=(Ext.refl w6).drew;have er:=ew.ext b9;refine ρ ?_;refine dr [(0,0),(0,1),(0,2),(0,3),(0,4),(0,5),(0,6),(1,7),(0,8),(2,9)] kr ?_;refine ρd ?_;refine dld (v:=.int .i64 (j:Int)) (er.blk.at (i:=0) rfl) ?_;refine ρd ?_;refine dcl (Gp 1 (by decide) (by decide) _) ?_;rintro r w7 ⟨hR,ba⟩;refine⟨ba,?_⟩;have bm:=b9.trans ba;have dk:=b3.ext RtC.sta bm;obtain⟨_,ed⟩:=ay dk cd;obtain⟨G1,g1,G2,g2,rfl,cg⟩:=hR.cell;refine ρd ?_;refine Qp 3 (j+i) ed om ?_;refine ρd ?_;refine Jf ?_;refine stX RtC.sta dk cd.symm (show j+i<_ by omega) (cs:=[.bool (PR.int 1).neg,.slice G1 _ g1,.slice G2 _ g2]) (a:=PR.int 1) (RtC.sta.old cg λk y=>.inl (cj (b3.ext RtC.sta b9) (ar.trans b9) k y)) bi (Qz rfl rfl rfl) ?_;intro w8 dj d5;have au:Ext w4 w8:=Jr (ar.trans bm) d5 (λg hg=>(bh g hg).1);have ca:(L0.set (j+i) (PR.int 1)).length=j+A.length+2:=by rw[List.length_set];exact cd
  have et:=D.ext (J.trans au);refine ρ ?_;refine cl (Qpb (n:=j) (m:=A.length) et.blk rfl rfl om om) ?_;rintro _ w9 ⟨rfl,ao⟩;refine ρ ?_;refine cl (Gp (-1) (by decide) (by decide) _) ?_;rintro r e4 ⟨hR,cr⟩;have ap:=ao.trans cr;have a5:=dj.ext RtC.sta ap;obtain⟨_,da⟩:=ay a5 ca;obtain⟨H1,h1,H2,h2,rfl,de⟩:=hR.cell;refine ρ ?_;refine ixq 3 (j+A.length) da om ?_;refine ρ ?_;refine stX RtC.sta a5 ca.symm (show j+A.length<_ by omega) (cs:=[.bool (PR.int (-1)).neg,.slice H1 _ h1,.slice H2 _ h2]) (a:=PR.int (-1)) (RtC.sta.old de λk y=>.inl (cj (dj.ext RtC.sta ao) (au.trans ao) k y)) bi (Qz rfl rfl rfl) ?_;intro b7 bz d7;have G:Ext w4 b7:=Jr (au.trans ap) d7 (λg hg=>(bh g hg).1);have bq:((L0.set (j+i) (PR.int 1)).set (j+A.length) (PR.int (-1))).length=j+A.length+2:=by rw[List.length_set];exact ca
  have aj:Ext b7 b7.drew:=(Ext.refl b7).drew;have dm:=(D.ext (J.trans G)).ext aj;have cp:=(b5.ext (J.trans G)).ext aj;have aw:=(ak.trans (J.trans G)).trans aj;obtain⟨cb,_,bs,dc⟩:=dq i F;have ej:(List.replicate A.length (PR.int 1))[i]'(by simpa using F)=PR.int 1:=by simp
  simp only[ej]at bs;obtain⟨F1,f1,F2,f2,rfl,em⟩:=bs.sl;have ea:(PR.int 1).norm=PR.int 1:=(PR.int_nrm 1).norm;refine ρ ?_;refine dr [(0,0),(0,1),(0,3),(0,4),(0,5),(0,6),(0,7),(1,2),(1,8),(0,9),(2,10)] kr ?_;refine ρd ?_;refine dld (cp.at (i:=2) rfl) ?_;refine ρd ?_;refine Qp 3 i (dt.ext aw) F ?_;refine ρd ?_;refine Qj (λk u hu=>Xz aw (dc k u hu)) ?_;refine ρd ?_;refine dcl (Gl (n:=j) (m:=A.length) dm.blk rfl rfl om om) ?_;rintro _ fe ⟨rfl,a3⟩;refine⟨a3,?_⟩;refine ρd ?_;refine dcl (Zh (em.ext (aw.trans a3)) (by decide) (by decide)) ?_;rintro r fd ⟨hR,bn⟩;refine⟨bn,?_⟩;rw[ea]at hR;have a7:=(aj.trans a3).trans bn;have bw:=bz.ext RtC.sta a7;obtain⟨_,d9⟩:=ay bw bq;obtain⟨I1,i1,I2,i2,rfl,dd⟩:=hR.cell;refine ρd ?_;refine Qp 3 (j+A.length+1) d9 om ?_;refine ρd ?_;refine Jf ?_;refine stX RtC.sta bw bq.symm (show j+A.length+1<_ by omega) (cs:=[.bool (PR.int 1).neg,.slice I1 _ i1,.slice I2 _ i2]) (a:=PR.int 1) (RtC.sta.old dd λk y=>.inl (cj (bz.ext RtC.sta (aj.trans a3)) (G.trans (aj.trans a3)) k y)) bi (Qz rfl rfl rfl) ?_
  intro e3 b4 d6;have a2:Ext w4 e3:=Jr (G.trans a7) d6 (λg hg=>(bh g hg).1);rw[<-hL0]at b4;have df:=Qbm hbin F;rw[haa]at df;rw[df]at b4;have cx:(PT.ofP j A).rows.getD i []=(PT.ofP j A).rows[i]'(by rw[ax];exact F):=by simp[List.getD,List.getElem?_eq_getElem (show i<(PT.ofP j A).rows.length by rw[ax];exact F)]
  have cw:((PT.ofP j A).rows.getD i []).length=j+A.length+2:=by rw[Jqm i F,haa,List.length_append,List.length_append,bg,List.length_map,List.length_range];rfl
  generalize hrw:(PT.ofP j A).rows.getD i []=rw' at *
  have c1:=D.ext (J.trans a2);have co:=b5.ext (J.trans a2);have c8:=ak.trans (J.trans a2);have bp:=nL cu (J.trans a2).size;refine ρ ?_;refine ld (c1.blk.at (i:=2) rfl) ?_;refine ρ ?_;refine bsl (Jsn _ _ _) ?_;intro b6 bb Z fl ez;have ae:=c1.ext Z;have bv:=(b4.ext RtC.sta Z).old RtC.sta (N':=λk=>Ov w4 (.slice U (j+A.length+2) uc) k∨b6.heap.size<=k) λk y=>y;have ep:=D.lt;have ey:GX 3 RtC (λk=>TN b vr vb k∨b6.heap.size<=k) b6 (.slice U (j+A.length+2) uc) rw':=bv.gx RtC.sta (by rw[cw];omega) λk y=>by
   obtain⟨_,_,_,_,h3⟩:=id bv.form;rcases y with y|y
   .have:=ep k y;have:=J.size;exact⟨.inl (.inl om),λe=>by have:=(h3 k e).1;omega⟩
   exact⟨.inr y,λe=>by have:=(h3 k e).2;omega⟩
  refine ρ ?_;refine apX (N:=λk=>TN b vr vb k∨b6.heap.size<=k) EMx MxC.sta (ae.rows.old MxC.sta λk y=>y) ez rfl (λu hu=>by rw[List.mem_singleton.1 hu];rfl) ⟨_,rfl,ey⟩ (λg hg=>.inl (.inr (.inl hg))) (by simp;omega) (by decide) (nL bp Z.size) ?_;intro vr' fc ah a4 d1;have e7:(PT.ofP j A).rows.take i++[rw']=(PT.ofP j A).rows.take (i+1):=by rw[List.take_add_one,List.getElem?_eq_getElem (by rw[ax];exact F),cx];rfl
  simp only at ah;rw[e7]at ah;obtain⟨R',fg,ev,_,_⟩:=id ah.form;subst ev;have ck:=ae.blk.grown a4 (λe=>ae.ne1 e.symm);refine ρ ?_;refine stF (i:=2) ck rfl ?_;intro ai e1 aa;have c0:=ae.addRow ah a4 d1 e1 aa;have es:∀ k,TN b vr vb k->w2.heap.size<=k∨k=b:=λk y=>by
   rcases y with y|y|y
   .exact .inr y
   .obtain⟨_,_,_,_,h3⟩:=id D.rows.form;exact .inl (h3 k y).1
   obtain⟨_,_,_,_,h3⟩:=Jy D.bas;exact .inl (h3 k y).1
  have fj:=dz.lt;have bt:b1≠b:=om
  have c7:=c8.trans Z;have c6:Ext w ai:=Jr (Jr c7 a4 λk y=>by
   obtain⟨_,_,_,_,h3⟩:=id D.rows.form;have:=(h3 k y).1;have:=a8.size;omega) aa λk y=>by injection y with y;subst y;exact nL be.size ch
  have cn:Blk ai b1 _ _:=((co.ext Z).grown a4 λe=>by
   obtain⟨_,_,_,_,h3⟩:=id D.rows.form;have:=(h3 b1 e.symm).1;have:=bd.size;omega).grown aa λe=>by injection e with e;exact bt e
  have bo:w2.heap.size<=ai.heap.size:=nL bp (nL Z.size (nL a4.size aa.size));obtain⟨S,sc,eS,fi,_⟩:=Jy c0.bas;have an:Ext ai ai.drew:=(Ext.refl ai).drew;have bj:=c0.ext an;have cz:¬ vb.ownBlock=some b:=bj.ne2;have ei:((List.range i).map (j + ·)).length=i:=by simp
  refine ρ ?_;refine drN (λk=>vb.ownBlock=some k) 18 [(0,0),(0,1),(0,2),(0,3),(0,4),(0,5),(0,6),(0,7),(0,8),(0,9),(0,10),(1,11),(1,12),(0,13),(0,14),(2,15)] kr ?_;refine ρn ?_;refine nld (λw' hg=>(Ja bj.blk hg cz).at (i:=4) rfl) ?_;refine ρn ?_;refine nld (v:=.int .i64 (j:Int)) (λw' hg=>(Ja bj.blk hg cz).at (i:=0) rfl) ?_;refine ρn ?_;refine nkv 86 (u:=.int .i64 ((j+i:Nat):Int)) (congrArg (Value.int .i64) (show(j:Int)+(i:Int)=((j+i:Nat):Int) by omega)) ?_;refine nop ?_;refine bsl (Um _) ?_;intro fb b2 O f8 du;refine Qk (Qg (GrN.ext O) ?_);have ad:=bj.ext O;refine ρn ?_;refine nop ?_;refine apI (z:=j+i) ad.bas du (by rw[ei];omega) (nL bo (an.trans O).size) ?_;intro vb' fa af a1 d0;have eh:(List.range i).map (j + ·)++[j+i]=(List.range (i+1)).map (j + ·):=by rw[List.range_succ,List.map_append];rfl
  simp only at af;rw[eh]at af;refine Qk (Qg (GrN.by a1 λk e=>e) ?_);obtain⟨S',ff,f5,_,_⟩:=Jy af;subst f5;have e0:=ad.blk.grown a1 (λe=>ad.ne2 e.symm);refine ρn ?_;refine Xm ?_;refine stF (i:=4) e0 rfl ?_;intro c3 dx a9;have dl:=ad.addBas af a1 d0 dx a9;have c5:=c6.trans (an.trans O);have c4:Ext w c3:=Jr (Jr c5 a1 λk y=>by
   obtain⟨_,_,_,_,h3⟩:=Jy D.bas;have:=(h3 k y).1;have:=a8.size;omega) a9 λk y=>by injection y with y;subst y;exact nL be.size ch
  have cm:Blk c3 b1 _ _:=((cn.ext (an.trans O)).grown a1 λe=>by
   obtain⟨_,_,_,_,h3⟩:=Jy D.bas;have:=(h3 b1 e.symm).1;have:=bd.size;omega).grown a9 λe=>by injection e with e;exact bt e
  have cv:w2.heap.size<=c3.heap.size:=nL bo (nL (an.trans O).size (nL a1.size a9.size));refine Qk (Uf ?_);refine ρn ?_;refine ρ ?_;exact Qa (i+1) _ _ sO ⟨om,c4,cv,cm,dl⟩ om
 have ec:i=A.length:=by have:=oF h;omega
 subst ec;rw[<-ax,List.take_length,ax]at D;refine ρ ?_;exact Jq ⟨w2.heap.size,b,vr,vb,rfl,a8.size,Nat.le_trans be.size ch,cu,D,ak⟩
open Go.RowKit Pl Go.Wk Bl
variable {A:List (List PR)}{g:List PR}{b base i n:Nat}{N:Nat->Prop}{vA vB vC vb vg vr:Value}{w:World}
theorem Qqm(hC:GX 3 RtC N w vC (List.replicate n (PR.int 1)))(hA:GX 1 MxC N w vA A)(hB:GX 3 RtC N w vB (List.replicate A.length (PR.int 1)))(hbin:Bin n A)(hm:A.length<=64):
  Ret Tryz.prog 81 [.agg #[vC,vA,vB]] w λu w'=>u=.bool true/\Ext w w':=by
 obtain⟨CA,cc,_,rfl,U,_,_,_,_⟩:=id hC.el;obtain⟨AA,ac,_,rfl,a9,_,a5,_,a4⟩:=id hA.el;obtain⟨BA,bc,_,rfl,Z,_,a3,_,a2⟩:=id hB.el;simp only[List.length_replicate]at hC hB U Z a3 a2 ⊢;refine Jz Tryz.func81 Tryz.ntmps81 rfl kr rfl ?_;refine ρ ?_;refine bx ?_;intro w1 b1 F a8 D;refine ρ ?_;refine ld (D.at (i:=1) rfl) ?_;refine ρ ?_;refine ld (D.at (i:=2) rfl) ?_;refine ρ ?_;refine cf ?_ ?_
 .simp
 refine ρ ?_;refine ld (D.at (i:=1) rfl) ?_;refine ρ ?_;refine Jl (fun (i:Nat)=>[(1,.pointer (some ⟨b1,0,none⟩)),(13,.slice AA A.length ac),(14,.int .i64 (A.length:Int)),(15,.int .i64 (i:Int))]) (λi w'=>i<=A.length/\w'=w1) (λi=>A.length-i) 0 sB ⟨Nat.zero_le _,rfl⟩ ?_;rintro i w2 ⟨hi,rfl⟩;refine ρ ?_;refine ci (λh=>?_) (λh=>?_)
 .have y:i<A.length:=by have:=oT h;omega
  clear h;obtain⟨ce,a7,⟨va,rfl,hG⟩,J⟩:=a4 i y;obtain⟨K,kc,_,rfl,a6,_,_,_,_⟩:=id hG.el;have O:=(hbin i y).1;have a1:A.getD i []=A[i]:=by simp[List.getD,List.getElem?_eq_getElem y]
  rw[a1]at O;rw[O]at J;have G:w2.cell? (adr AA i)=some (.slice K n kc):=by
   have:=Xz F (J 0 _ rfl);rwa [Nat.mul_one,add_zero]at this
  refine ρ ?_;refine ix i (a5.ext F) y ?_;refine ρ ?_;refine ld G ?_;refine ρ ?_;refine ld (D.at (i:=0) rfl) ?_;refine ρ ?_;refine cf ?_ ?_
  .simp
  refine ρ ?_;exact Jg (i+1) sO ⟨om,rfl⟩ om
 refine ρ ?_;exact Jq ⟨rfl,F⟩
theorem Qbk(hbin:Bin n A)(hi:i<A.length): ((PT.ofP n A).rows.getD i []).getD (n+A.length+1) pr0=PR.int 1:=by
 rw[Ig hbin.rok i _ hi,if_neg om,if_neg om,if_neg om,if_pos rfl]
theorem Qbj(hbin:Bin n A)(hi:i<A.length): ((PT.ofP n A).rows.getD i []).length=n+A.length+2:=by
 rw[Jqm i hi,List.length_append,List.length_append,(hbin i hi).1,List.length_map,List.length_range];rfl
theorem Qgq(hT:TbV w base b vr vg vb ⟨n,A.length,(PT.ofP n A).rows,g,(PT.ofP n A).basis⟩)(hbin:Bin n A)(hn:n<=64)(hm:A.length<=64):
  Ret Tryz.prog 83 [.pointer (some ⟨b,0,none⟩)] w λu w'=>u=.bool true/\Ext w w':=by
 have U:(PT.ofP n A).rows.length=A.length:=by simp[PT.ofP]
 obtain⟨R,rc,_,ev,am,a7,a6⟩:=id hT.rows.el;simp only[U]at ev a7 a6;subst ev;refine Jz Tryz.func83 Tryz.ntmps83 rfl kr rfl ?_;refine ρ ?_;refine ld (hT.blk.at (i:=2) rfl) ?_;refine ρ ?_;refine Jl (fun (k:Nat)=>[(0,.pointer (some ⟨b,0,none⟩)),(3,.int .i64 (-1)),(13,.slice R A.length rc),(14,.int .i64 (A.length:Int)),(15,.int .i64 (k:Int))]) (λk w'=>k<=A.length/\Ext w w') (λk=>A.length-k) 0 sB ⟨Nat.zero_le _,Ext.refl _⟩ ?_;rintro k w1 ⟨hk,y⟩;refine ρ ?_;refine ci (λh=>?_) (λh=>?_)
 .have D:k<A.length:=by have:=oT h;omega
  clear h;obtain⟨ce,ap,⟨vk,rfl,a9⟩,a5⟩:=a6 k D;have ah:(PT.ofP n A).rows[k]'(by rw[U];exact D)=(PT.ofP n A).rows.getD k []:=by simp[List.getD,List.getElem?_eq_getElem (show k<(PT.ofP n A).rows.length by rw[U];exact D)]
  rw[ah]at a9;have F:=Qbj hbin D;have af:=Qbk hbin D;generalize (PT.ofP n A).rows.getD k []=row at *
  obtain⟨K,kc,_,rfl,an,_,a8,_,aj⟩:=id a9.el;rw[F]at a5 a8;have a4:w1.cell? (adr R k)=some (.slice K (n+A.length+2) kc):=by
   have:=Xz y (a5 0 _ rfl);rwa [Nat.mul_one,add_zero]at this
  obtain⟨cr,_,a2,a3⟩:=aj (n+A.length+1) (by rw[F];omega);have er:row[n+A.length+1]'(by rw[F];omega)=PR.int 1:=by rw[<-af];simp[List.getD,List.getElem?_eq_getElem (show n+A.length+1<row.length by rw[F];omega)]
  rw[er]at a2;obtain⟨F1,f1,F2,f2,rfl,ae⟩:=a2.sl;refine ρ ?_;refine ix k (a7.ext y) D ?_;refine ρ ?_;refine ld a4 ?_;refine ρ ?_;refine cl (Gl (n:=n) (m:=A.length) (hT.blk.ext y) rfl rfl om om) ?_;rintro _ w2 ⟨rfl,O⟩;refine ρ ?_;refine ixq 3 (n+A.length+1) ((a8.ext y).ext O) om ?_;refine ρ ?_;refine lds (λj u hu=>Xz (y.trans O) (a3 j u hu)) ?_;refine ρ ?_;refine alc Zo ?_;intro w3 b6 ad ai ak;refine ρ ?_;refine stb (cs':=[.bool (PR.int 1).neg,.slice F1 _ f1,.slice F2 _ f2]) ak ?_ (Qz rfl rfl rfl);intro w4 aa ao ac;have a1:Ext w2 w4:=ac w2 ad ai;have G:=(y.trans O).trans a1;have J:Ext w4 w4.drew:=(Ext.refl w4).drew;refine ρ ?_;refine dr [(0,0),(1,1),(0,2),(0,3),(0,4),(0,5),(0,6),(0,7),(0,8),(0,9),(0,10),(0,11),(0,12),(0,13),(0,14),(0,15),(1,16),(0,17),(0,18),(1,19),(0,20),(0,21),(0,22)] kr ?_;refine ρd ?_;refine Qj (λj u hu=>(aa.ext J).at hu) ?_
  refine ρd ?_;refine dcl (Uw (ae.ext (G.trans J)) (by have:=Qm (n:=(PR.int 1).num) (by decide);omega)) ?_;rintro _ w5 ⟨rfl,Z⟩;refine⟨Z,?_⟩;refine ρd ?_;refine ρ ?_;exact Jg (k+1) sO ⟨om,(G.trans J).trans Z⟩ om
 refine ρ ?_;exact Jq ⟨rfl,y⟩
theorem Qbl: (PT.ofP n A).goal=mix (List.replicate n (PR.int (-1))++List.replicate (A.length+2) pr0) (List.replicate (n+A.length+2) pr0) n:=by
 unfold mix PT.ofP;simp only;rw[List.take_append_of_le_length (by simp),List.take_of_length_le (by simp),List.drop_replicate,show n+A.length+2-n=A.length+2 by omega]
theorem Qbp(hT:TbV w base b vr vg vb ⟨n,A.length,(PT.ofP n A).rows,g,(PT.ofP n A).basis⟩)(hC:GX 3 RtC N w vC (List.replicate n (PR.int 1)))(hNC:∀ k,TN b vr vb k->N k)(hbin:Bin n A)(hn:n<=64)(hm:A.length<=64):
  Ret Tryz.prog 85 [.pointer (some ⟨b,0,none⟩),vC] w λu w'=>u=.tuple #[]/\∃ vg',TbV w' base b vr vg' vb (PT.ofP n A)/\GrN (TN b vr vb) w w':=by
 obtain⟨CA,cc,_,rfl,b6,_,bi,_,bh⟩:=id hC.el;simp only[List.length_replicate]at hC b6 bi bh ⊢;have a1:=hT.lt;refine Jz Tryz.func85 Tryz.ntmps85 rfl kr rfl ?_;refine ρ ?_;refine cl (Gl (n:=n) (m:=A.length) hT.blk rfl rfl om om) ?_;rintro _ w1 ⟨rfl,G⟩;refine ρ ?_;refine Go.Wk.kv 10 (u:=.int .i64 ((n+A.length+2:Nat):Int)) (congrArg (Value.int .i64) (show((n+A.length+1:Nat):Int)+1=_ by omega)) ?_;refine cl (Jxm (n+A.length+2) om w1) ?_;rintro u w2 ⟨hU,a3⟩;obtain⟨U,uc,_,eu,bo,_,_⟩:=id hU.el;rw[List.length_replicate]at eu;subst eu;obtain⟨_,_,_,_,Z⟩:=id hU.form;have ah:=G.trans a3;have a7:=hT.ext G;generalize hu:Value.slice U (n+A.length+2) uc=u at *
 have bg:∀ k,(TN b vr vb k∨u.ownBlock=some k)->TN b vr vb k∨w1.heap.size<=k:=λk y=>y.elim .inl λh=>.inr (Z k h).1;have bf:=(a7.rows.old MxC.sta bg).ext MxC.sta a3;have bb:OX 84 3 RtC (λk=>TN b vr vb k∨u.ownBlock=some k) w2 w1.heap.size u (List.replicate (n+A.length+2) pr0):=hU.old RtC.sta λk y=>by
  rcases y with y|y
  .exact .inl (.inl (nM (a1 k y) G.size))
  exact .inl (.inr y)
 have aq:u.ownBlock≠some b:=λe=>by have:=(Z b e).1;have:=a7.blk.lt;omega
 have bd:=Jb a7.bas a3;have bm:=a7.blk.ext a3;refine ρ ?_;refine stF (i:=3) (v:=u) bm rfl ?_ rfl rfl rfl rfl rfl (by rw[<-hu];rfl);intro w3 bl b3;have O:GrN (λk=>k=b) w2 w3:=GrN.by b3 λk y=>by injection y with y;exact y.symm
 have be:=bf.gr MxC.sta O λk y=>⟨.inl (.inl y),λe=>hT.ne1 (by rw[e,y])⟩;have ba:=bb.gr RtC.sta O λk y=>⟨.inl (.inl y),λe=>aq (by rw[e,y])⟩;have bc:Qq w3 base vb (PT.ofP n A).basis:=Jo bd O λg h1 h2=>hT.ne2 (by rw[h1,h2]);have ao:GrN (TN b vr vb) w w3:=(GrN.ext ah).trans (O.mono λk _ y=>.inl y);have am:(List.replicate n (PR.int (-1))++List.replicate (A.length+2) pr0).length=(List.replicate (n+A.length+2) pr0).length:=by simp;omega
 refine ρ ?_;refine Jl (fun (j:Nat)=>[(0,.pointer (some ⟨b,0,none⟩)),(1,.slice CA n cc),(15,.int .i64 (n:Int)),(16,.int .i64 (j:Int))])
  (λj w'=>j<=n/\GrN (TN b vr vb) w w'/\Blk w' b 168 [.int .i64 (n:Int),.int .i64 (A.length:Int),vr,u,vb]/\OX 80 1 MxC (λk=>TN b vr vb k∨u.ownBlock=some k) w' base vr (PT.ofP n A).rows/\Qq w' base vb (PT.ofP n A).basis/\OX 84 3 RtC (λk=>TN b vr vb k∨u.ownBlock=some k) w' w1.heap.size u (mix (List.replicate n (PR.int (-1))++List.replicate (A.length+2) pr0) (List.replicate (n+A.length+2) pr0) j)) (λj=>n-j) 0 sB
  ⟨Nat.zero_le _,ao,bl,be,bc,by rw[Gu];exact ba⟩ ?_
 rintro j w4 ⟨hj,a4,ae,ad,av,a6⟩;have ak:(mix (List.replicate n (PR.int (-1))++List.replicate (A.length+2) pr0) (List.replicate (n+A.length+2) pr0) j).length=n+A.length+2:=by rw[Uh am (by simp;omega)];simp
 refine ρ ?_;refine ci (λh=>?_) (λh=>?_)
 .have J:j<n:=by have:=oT h;omega
  clear h;have aa:Ext w4 w4.drew:=(Ext.refl w4).drew;have bj:=(hC.gr RtC.sta (by decide) (a4.mono λk _ y=>hNC k y)).ext RtC.sta (by decide) aa;obtain⟨bs,br,_,ev,_,_,a9,_,aw⟩:=id bj.el;simp only[List.length_replicate]at ev a9;injection ev with ev1 ev2 ev3
  subst ev1;obtain⟨ce,_,ap,b5⟩:=aw j (by simpa using J);have e1:(List.replicate n (PR.int 1))[j]'(by simpa using J)=PR.int 1:=by simp
  simp only[e1]at ap;obtain⟨F1,f1,F2,f2,rfl,b7⟩:=ap.sl;have ai:(PR.int 1).opp=PR.int (-1):=by decide +kernel
  have ax:=ae.ext aa;have ay:∀ {w':World} {ls:List PR},OX 84 3 RtC (λk=>TN b vr vb k∨u.ownBlock=some k) w' w1.heap.size u ls->ls.length=n+A.length+2->∃ cs,Rd w' 3 U (n+A.length+2) cs:=fun {w' ls} h hl=>by
   obtain⟨U',bn,cs,ev,_,hd,_⟩:=id h.el;rw[hl]at ev hd;rw[<-hu]at ev;injection ev with ev1 ev2 ev3
   subst ev1;exact⟨cs,hd⟩
  refine ρ ?_;refine dr [(0,0),(0,1),(0,2),(0,3),(0,4),(0,5),(0,6),(0,7),(0,8),(1,9),(0,10),(2,11)] kr ?_;refine ρd ?_;refine dld (v:=.slice U (n+A.length+2) uc) (by rw[hu];exact ax.at (i:=3) rfl) ?_;refine ρd ?_;refine Qp 3 j a9 J ?_;refine ρd ?_;refine Qj (λk x hx=>b5 k x hx) ?_;refine ρd ?_;refine dcl (Jhp b7 (by decide) (by decide)) ?_;rintro r w5 ⟨hR,af⟩;refine⟨af,?_⟩;rw[ai]at hR;have F:=aa.trans af;have ac:=a6.ext RtC.sta F;obtain⟨_,b4⟩:=ay ac ak;obtain⟨G1,g1,G2,g2,rfl,b8⟩:=hR.cell;refine ρd ?_;refine Qp 3 j b4 om ?_;refine ρd ?_;refine Jf ?_;obtain⟨_,_,_,_,ar⟩:=id a6.form;have an:∀ w1' ,OX 84 3 RtC (λk=>TN b vr vb k∨u.ownBlock=some k) w1' w1.heap.size u ((mix (List.replicate n (PR.int (-1))++List.replicate (A.length+2) pr0) (List.replicate (n+A.length+2) pr0) j).set j (PR.int (-1)))->w5.grownBy w1' u.ownBlock->GrN (TN b vr vb) w w1'/\Blk w1' b 168 [.int .i64 (n:Int),.int .i64 (A.length:Int),vr,u,vb]/\OX 80 1 MxC (λk=>TN b vr vb k∨u.ownBlock=some k) w1' base vr (PT.ofP n A).rows/\Qq w1' base vb (PT.ofP n A).basis/\OX 84 3 RtC (λk=>TN b vr vb k∨u.ownBlock=some k) w1' w1.heap.size u (mix (List.replicate n (PR.int (-1))++List.replicate (A.length+2) pr0) (List.replicate (n+A.length+2) pr0) (j+1)):=λw6 a5 D=>by
   rw[Ug am (by simp;omega) (by rw[List.getElem?_append_left (by simpa using J)];simp[J])]at a5;have a8:GrN (λk=>u.ownBlock=some k) w5 w6:=GrN.by D λk y=>y
   refine⟨?_,?_,?_,?_,a5⟩
   .have h1:GrN (TN b vr vb) w w5:=a4.trans (GrN.ext F);refine⟨D.os.trans h1.os,D.tape.trans h1.tape,D.output.trans h1.output,Nat.le_trans h1.size D.size,λk y hn=>(D.block k (nM y h1.size) λe=>?_).trans (h1.block k y hn)⟩;have:=(Z k e.symm).1;have:=G.size;omega
   .exact(ae.ext F).grown D (λe=>aq e.symm)
   .obtain⟨_,_,_,_,h3⟩:=id ad.form;refine(ad.ext MxC.sta F).gr MxC.sta a8 λk y=>⟨.inr y,λe=>?_⟩;have:=a1 k (.inr (.inl e));have:=(Z k y).1;have:=G.size;omega
   exact Jo (Jb av F) a8 λg h1 h2=>by
    have:=a1 g (.inr (.inr h1));have:=(Z g h2).1;have:=G.size;omega
  rw[<-hu]at ac an ⊢;refine stX RtC.sta ac ak.symm (show j<_ by omega) (cs:=[.bool (PR.int (-1)).neg,.slice G1 _ g1,.slice G2 _ g2]) (a:=PR.int (-1)) (RtC.sta.old b8 λk y=>.inl ?_) (λg hg=>.inr hg) (Qz rfl rfl rfl) ?_
  .rcases y with y|y
   .exact nM (a1 k y) a4.size
   rw[hu]at y;exact(ar k y).2
  intro w6 a5 D;obtain⟨k1,k2,k3,k4,k5⟩:=an w6 a5 D;refine ρ ?_;exact Jg (j+1) sO ⟨om,k1,k2,k3,k4,k5⟩ om
 have J:j=n:=by have:=oF h;omega
 clear h;subst J;rw[<-Qbl]at a6;have b2:(PT.ofP j A).goal.length<=1100000:=by simp[PT.ofP];omega
 have a2:TbV w4 base b vr u vb (PT.ofP j A):=⟨ae,ad.old MxC.sta λk y=>.inl (.inl y),a6.gx RtC.sta b2 λk y=>⟨.inl y,λe=>by
  have:=a1 k y;have:=(Z k e).1;have:=G.size;omega⟩,av⟩
 obtain⟨S,sc,eS,bp,_⟩:=Jy a2.bas;have bq:(PT.ofP j A).basis.length=A.length:=by simp[PT.ofP]
 have b9:∀ k,k<A.length->(PT.ofP j A).basis.getD k 0=j+k:=λk y=>by simp[PT.ofP,List.getD,y]
 have au:=Rd.own (show w4.ownsRow base 3 1 (.slice S (PT.ofP j A).basis.length sc) (PT.ofP j A).basis.length (Jp (nz (PT.ofP j A).basis)) by rw[<-eS];exact a2.bas);subst eS;refine ρ ?_;refine ld (a2.blk.at (i:=4) rfl) ?_;refine ρ ?_;refine Jl (fun (k:Nat)=>[(0,.pointer (some ⟨b,0,none⟩)),(34,.slice S (PT.ofP j A).basis.length sc),(35,.int .i64 ((PT.ofP j A).basis.length:Int)),(36,.int .i64 (k:Int))]) (λk w'=>k<=A.length/\w'=w4) (λk=>A.length-k) 0 sB ⟨Nat.zero_le _,rfl⟩ ?_;rintro k w5 ⟨y,rfl⟩;refine ρ ?_;refine ci (λh=>?_) (λh=>?_)
 .have aj:k<(PT.ofP j A).basis.length:=by have:=oT h;omega
  clear h;refine ρ ?_;refine ix k au aj ?_;refine ρ ?_;refine ld (au.cell (Qn aj)) ?_;refine ρ ?_;refine ld (v:=.int .i64 (j:Int)) (a2.blk.at (i:=0) rfl) ?_;refine ρ ?_;refine cf ?_ ?_
  .rw[b9 k om];exact dF om
  refine ρ ?_;exact Jg (k+1) sO ⟨om,rfl⟩ om
 refine ρ ?_;exact Ve ⟨rfl,u,a2,a4⟩
end Go.Proofs.YtebiphhfkdbpfaaGreat
namespace Go.Wk
open Go.RowKit
theorem Jpl{α:Type}{sz:Nat}: ∀ {ps:List (List Value×α)} {k:Nat},(∀ p∈ps,p.1.length=sz)->k<=ps.length->Jd (ps.drop k)=(Jd ps).drop (k*sz)
 | ps,0,_,_=>by simp
 | [],k+1,_,h=>by simp at h
 | p::ps,k+1,h,hk=>by
  have hp:=h p (by simp);have ih:=Jpl (ps:=ps) (k:=k) (λx hx=>h x (by simp[hx])) (by simpa using hk);have e:Jd (p::ps)=p.1++Jd ps:=rfl;rw[List.drop_succ_cons,ih,e,Nat.succ_mul,List.drop_append,show p.1.drop (k*sz+sz)=[] from List.drop_of_length_le om,List.nil_append,hp,show k*sz+sz-sz=k*sz by omega]
theorem Jph{α:Type}{sz:Nat}: ∀ {ps:List (List Value×α)} {k:Nat},(∀ p∈ps,p.1.length=sz)->k<=ps.length->Jd (ps.take k)=(Jd ps).take (k*sz)
 | ps,0,_,_=>by simp[Jd]
 | [],k+1,_,h=>by simp at h
 | p::ps,k+1,h,hk=>by
  have hp:=h p (by simp);have ih:=Jph (ps:=ps) (k:=k) (λx hx=>h x (by simp[hx])) (by simpa using hk);have e:Jd (p::ps)=p.1++Jd ps:=rfl;have e2:Jd (p::ps.take k)=p.1++Jd (ps.take k):=rfl;rw[List.take_succ_cons,e2,ih,e,Nat.succ_mul,List.take_append,show p.1.take (k*sz+sz)=p.1 from List.take_of_length_le om,hp,show k*sz+sz-sz=k*sz by omega]
theorem OX.rd{α:Type}{e sz base m c:Nat}{A:Option Addr}{Φ:(Nat->Prop)->World->List Value->α->Prop}{N:Nat->Prop}{w:World}{ls:List α}(h:OX e sz Φ N w base (.slice A m c) ls)(hm:m=ls.length): ∃ L,Rd w sz A m L:=by
 obtain⟨ps,y,u,D⟩:=h;have:m=ps.length:=by rw[hm,y,List.length_map]
 subst this;exact⟨_,Rd.own u⟩
theorem GX.cut{α:Type}{sz:Nat}{Φ:(Nat->Prop)->World->List Value->α->Prop}{N:Nat->Prop}{w:World}{A:Option Addr}{L c:Nat}{ls:List α}(h:GX sz Φ N w (.slice A L c) ls)(hs:0<sz){k m:Nat}(hk:k<=m)(hm:m<=ls.length):
  GX sz Φ N w (.slice (if c=k then A else A.map (·.add (k*sz))) (m-k) (c-k)) ((ls.drop k).take (m-k)):=by
 obtain⟨⟨ps,A0,c0,e,U,e2,e3,O,G⟩,hn⟩:=h;injection U with h1 h2 h3
 subst h1;subst h3;have hl:ls.length=ps.length:=by rw[e,List.length_map]
 have hcut:=O.cut k m c hk om om;have D:((ps.drop k).take (m-k)).length=m-k:=by rw[List.length_take,List.length_drop];omega
 have J:Jd ((ps.drop k).take (m-k))=((Jd ps).drop (k*sz)).take ((m-k)*sz):=by
  rw[Jph (sz:=sz) (λp u=>(G p (List.mem_of_mem_drop u)).1) (by rw[List.length_drop];omega),Jpl (λp u=>(G p u).1) om]
 refine⟨⟨(ps.drop k).take (m-k),_,c-k,by rw[e];simp[List.map_drop,List.map_take],by rw[D],om,om,by rw[D,J];exact hcut,λp u=>G p (List.mem_of_mem_drop (List.mem_of_mem_take u))⟩,λh0 ad m' c' ev y=>?_⟩;injection ev with ev _ _
 have F:ls≠[]:=λZ=>h0 (by rw[Z];simp);split at ev
 .exact hn F ad L c (by rw[ev]) y
 cases A with
 | none=>cases ev
 | some a0=>
  simp only[Option.map_some,Option.some.injEq]at ev;subst ev;rw[Yg]at y;exact hn F a0 L c rfl y
end Go.Wk
namespace Go.Proofs.YtebiphhfkdbpfaaGreat
open Go.RowKit Pl Go.Wk Bl
attribute [local irreducible] WC WL QX WD WDB WP WN WG WH
variable {b base i:Nat}{t:PT}{vb vg vr:Value}{w:World}
def ptK(t:PT)(i:Nat): List PR:=(List.range t.n).map λv=>match(List.range i).reverse.find? λi=>t.basis.getD i 0 == v with
 | none=>pr0
 | some i=>(t.rows.getD i []).getD t.right pr0
theorem ptK_0(t:PT): ptK t 0=List.replicate t.n pr0:=by
 unfold ptK;exact List.eq_replicate_iff.2 ⟨by simp,λx u=>by obtain⟨_,_,e⟩:=List.mem_map.1 u;exact e.symm⟩
theorem Jyj(t:PT)(i:Nat): (ptK t i).length=t.n:=by simp[ptK]
theorem Qvj(h:t.basis.getD i 0<t.n): ptK t (i+1)=(ptK t i).set (t.basis.getD i 0) ((t.rows.getD i []).getD t.right pr0):=by
 refine List.ext_getElem? λv=>?_;have u:∀ k,(ptK t k)[v]?=if v<t.n then some (match(List.range k).reverse.find? λi=>t.basis.getD i 0 == v with|none=>pr0|some i=>(t.rows.getD i []).getD t.right pr0) else none:=λk=>by
  unfold ptK;rw[List.getElem?_map];by_cases hv:v<t.n
  .rw[if_pos hv,List.getElem?_range hv];rfl
  rw[if_neg hv,List.getElem?_eq_none (by simpa using hv)];rfl
 have y:(List.range (i+1)).reverse=i::(List.range i).reverse:=by rw[List.range_succ];simp
 by_cases hv:t.basis.getD i 0=v
 .subst hv;rw[List.getElem?_set_self (by rw[Jyj];exact h),u,if_pos h,y,List.find?_cons];simp only[beq_self_eq_true]
 rw[List.getElem?_set_ne hv,u,u,y,List.find?_cons];have:(t.basis.getD i 0 == v)=false:=by simpa using hv
 rw[this]
theorem Qvk(h:¬ t.basis.getD i 0<t.n): ptK t (i+1)=ptK t i:=by
 unfold ptK;refine List.map_congr_left λv u=>?_;have y:(List.range (i+1)).reverse=i::(List.range i).reverse:=by rw[List.range_succ];simp
 have:(t.basis.getD i 0 == v)=false:=by
  have:=List.mem_range.1 u;exact beq_eq_false_iff_ne.2 om
 rw[y,List.find?_cons,this]
theorem Jhx(t:PT): ptK t t.basis.length=t.point:=rfl
theorem Qvv(hT:TbV w base b vr vg vb t)(hp:POk t)(hn:t.n<=64)(hm:t.m<=64):
  Ret Tryz.prog 87 [.pointer (some ⟨b,0,none⟩)] w λu w'=>GX 3 RtC (TN b vr vb) w' u t.point/\(∀ k,u.ownBlock=some k->w.heap.size<=k)/\Ext w w':=by
 have ad:=hT.lt;have b2:t.rows.length=t.m:=hp.rows;have b6:t.basis.length=t.m:=hp.basis;have F:∀ i (hi:i<t.rows.length),t.rows[i].length=t.n+t.m+2:=λi hi=>by
  have:=(hp.row i (by rw[<-hp.rows];exact hi)).1;rwa [List.getD,List.getElem?_eq_getElem hi]at this
 refine Jz Tryz.func87 Tryz.ntmps87 rfl kr rfl ?_;refine ρ ?_;refine ld (hT.blk.at (i:=0) rfl) ?_;refine ρ ?_;refine cl (Jxm t.n om w) ?_;rintro u w1 ⟨hU,a5⟩;obtain⟨U,uc,_,eu,ax,_,_⟩:=id hU.el;rw[List.length_replicate]at eu;subst eu;obtain⟨_,_,_,_,a1⟩:=id hU.form;have aq:∀ k,(TN b vr vb k∨(Value.slice U t.n uc).ownBlock=some k)->TN b vr vb k∨w.heap.size<=k:=λk O=>O.elim .inl λh=>.inr (a1 k h).1;have hR:=hT.rows.old MxC.sta aq;have an:OX 84 3 RtC (λk=>TN b vr vb k∨(Value.slice U t.n uc).ownBlock=some k) w1 w.heap.size (.slice U t.n uc) (ptK t 0):=by
  rw[ptK_0];exact hU.old RtC.sta λk O=>.inl (O.elim (λh=>.inl (ad k h)) .inr)
 obtain⟨S,sc,eS,ay,_⟩:=Jy hT.bas;have ae:=Rd.own (show w.ownsRow base 3 1 (.slice S t.basis.length sc) t.basis.length (Jp (nz t.basis)) by rw[<-eS];exact hT.bas);subst eS;obtain⟨R,rc,_,eR,b3,ap,ao⟩:=id hR.el;subst eR;have aw:=hT.blk.ext a5;refine ρ ?_;refine ld (aw.at (i:=4) rfl) ?_;refine ρ ?_;refine Jl (fun (k:Nat)=>[(0,.pointer (some ⟨b,0,none⟩)),(3,.slice U t.n uc),(14,.slice S t.basis.length sc),(15,.int .i64 (t.basis.length:Int)),(16,.int .i64 (k:Int))]) (λk w'=>k<=t.m/\Ext w w'/\OX 84 3 RtC (λk=>TN b (.slice R t.rows.length rc) (.slice S t.basis.length sc) k∨(Value.slice U t.n uc).ownBlock=some k) w' w.heap.size (.slice U t.n uc) (ptK t k)) (λk=>t.m-k) 0 sB ⟨Nat.zero_le _,a5,an⟩ ?_;rintro k w2 ⟨O,G,a2⟩;refine ρ ?_;refine ci (λh=>?_) (λh=>?_)
 .have a8:k<t.basis.length:=by have:=oT h;omega
  clear h;refine ρ ?_;refine ix k (ae.ext G) a8 ?_;refine ρ ?_;refine ld ((ae.ext G).cell (Qn a8)) ?_;refine ρ ?_;refine ld ((hT.blk.ext G).at (i:=0) rfl) ?_;refine ρ ?_;refine ci (λh=>?_) (λh=>?_)
  .have Z:t.basis.getD k 0<t.n:=by have:=oT h;omega
   clear h;have a3:Ext w2 w2.drew:=(Ext.refl w2).drew;have y:=G.trans a3;have D:k<t.rows.length:=om
   obtain⟨ce,_,⟨vk,rfl,av⟩,aj⟩:=ao k D;obtain⟨K,kc,_,rfl,b5,_,au,_,ar⟩:=id av.el;rw[F k D]at *;have a9:w2.drew.cell? (adr R k)=some (.slice K (t.n+t.m+2) kc):=by
    have:=Xz y (aj 0 _ rfl);rwa [Nat.mul_one,add_zero]at this
   obtain⟨cr,_,a4,a7⟩:=ar (t.n+t.m+1) (by rw[F k D];omega);have er:t.rows[k][t.n+t.m+1]'(by rw[F k D];omega)=(t.rows.getD k []).getD t.right pr0:=by simp[PT.right,List.getD,List.getElem?_eq_getElem D,List.getElem?_eq_getElem (show t.n+t.m+1<t.rows[k].length by rw[F k D];omega)]
   rw[er]at a4;have af:=Qvj Z;generalize (t.rows.getD k []).getD t.right pr0=q at *
   obtain⟨F1,f1,F2,f2,rfl,b4⟩:=a4.sl;have ac:=a2.ext RtC.sta a3;have a6:t.n=(ptK t k).length:=(Jyj t k).symm;refine ρ ?_;refine dr [(0,0),(0,1),(0,2),(0,3),(0,4),(0,5),(0,6),(0,7),(0,8),(0,9),(1,10),(0,11),(0,12),(0,13),(2,14)] kr ?_;refine ρd ?_;refine dld ((hT.blk.ext y).at (i:=2) rfl) ?_;refine ρd ?_;refine dix k (ap.ext y) D ?_;refine ρd ?_;refine dld a9 ?_;refine ρd ?_;refine dcl (Gl (n:=t.n) (m:=t.m) (hT.blk.ext y) rfl rfl om om) ?_;rintro _ w3 ⟨rfl,J⟩;refine⟨J,?_⟩;refine ρd ?_;refine Qp 3 (t.n+t.m+1) ((au.ext y).ext J) om ?_;refine ρd ?_;refine Qj (λj u hu=>Xz (y.trans J) (a7 j u hu)) ?_;refine ρd ?_;have aa:=ac.ext RtC.sta J;obtain⟨_,ak⟩:=aa.rd a6;refine Qp 3 (t.basis.getD k 0) ak Z ?_;refine ρd ?_;refine Jf ?_;refine stX RtC.sta aa a6 (show t.basis.getD k 0<_ by omega) (cs:=[.bool q.neg,.slice F1 _ f1,.slice F2 _ f2]) (a:=q) (RtC.sta.gr a4 (GrN.ext (y.trans J))) (λg hg=>.inr hg) (Qz rfl rfl rfl) ?_
   intro w4 am ai;refine ρ ?_;exact Jg (k+1) sO ⟨om,Jr (G.trans (a3.trans J)) ai λk O=>(a1 k O).1,by rw[af];exact am⟩ om
  have Z:¬ t.basis.getD k 0<t.n:=by have:=oF h;omega
  refine ρ ?_;exact Jg (k+1) sO ⟨om,G,by rw[Qvk Z];exact a2⟩ om
 have ah:k=t.basis.length:=by have:=oF h;omega
 subst ah;rw[Jhx]at a2;refine ρ ?_;refine Jq ⟨a2.gx RtC.sta ?_ λk O=>⟨.inl O,λe=>by have:=ad k O;have:=(a1 k e).1;omega⟩,λk O=>(a1 k O).1,G⟩;rw[<-Jhx,Jyj];omega
theorem Qhf(hT:TbV w base b vr vg vb t)(hp:POk t)(hn:t.n<=64)(hm:t.m<=64)(h0:0<t.m):
  Ret Tryz.prog 84 [.pointer (some ⟨b,0,none⟩)] w λu w'=>GX 3 RtC (TN b vr vb) w' u t.dual/\(∀ k,u.ownBlock=some k->w.heap.size<=k)/\Ext w w':=by
 have a1:=hT.lt;have Z:t.goal.length=t.n+t.m+2:=hp.goal.1;refine Jz Tryz.func84 Tryz.ntmps84 rfl kr rfl ?_;refine ρ ?_;refine ld (hT.blk.at (i:=1) rfl) ?_;refine ρ ?_;refine cl (Jxm t.m om w) ?_;rintro u w1 ⟨hU,a2⟩;obtain⟨U,uc,_,eu,a8,_,_⟩:=id hU.el;rw[List.length_replicate]at eu;subst eu;obtain⟨_,_,_,_,F⟩:=id hU.form;have a7:∀ k,(TN b vr vb k∨(Value.slice U t.m uc).ownBlock=some k)->TN b vr vb k∨w.heap.size<=k:=λk D=>D.elim .inl λh=>.inr (F k h).1;have a6:OX 84 3 RtC (λk=>TN b vr vb k∨(Value.slice U t.m uc).ownBlock=some k) w1 w.heap.size (.slice U t.m uc) (List.replicate t.m pr0):=hU.old RtC.sta λk D=>.inl (D.elim (λh=>.inl (a1 k h)) .inr);have hG:=hT.goal.old RtC.sta (by decide) a7;obtain⟨G,gc,_,eG,a3,aa,a9⟩:=id hG.el;subst eG;have hcut:=hG.cut (by decide) (k:=t.n) (m:=t.n+t.m) om (by rw[Z];omega);rw[Z]at a3;rw[show t.n+t.m-t.n=t.m by omega]at hcut
 have O:Ext w1 w1.drew:=(Ext.refl w1).drew;have y:=a2.trans O;have J:=hT.ext y;refine ρ ?_;refine drC 14 [0,1,5,9,13] [(0,2),(0,3),(0,4),(0,6),(0,7),(0,8),(0,10),(0,11),(0,12),(0,14),(0,15),(0,16),(0,17),(0,18),(2,19)] kr ?_;refine ρp ?_;refine ρd ?_;refine dld (J.blk.at (i:=3) rfl) ?_;refine ρd ?_;refine dld (J.blk.at (i:=0) rfl) ?_;refine ρd ?_;refine dld (J.blk.at (i:=0) rfl) ?_;refine ρd ?_;refine dld (J.blk.at (i:=1) rfl) ?_;refine ρd ?_;refine Qhg Kt t.n (t.n+t.m) gc rfl rfl rfl rfl ⟨_,_,rfl,rfl⟩ ⟨_,_,rfl,by push_cast;rfl⟩ rfl (.inl rfl) om om (nR _) rfl ?_;rw[show t.n+t.m-t.n=t.m by omega];refine ρd ?_;refine Jf ?_;refine cpX RtC.sta (a6.ext RtC.sta O) (by simp) (hcut.ext RtC.sta (by decide) y) h0 (by decide) (λcs a h=>h) RtC.one (λg hg=>.inr hg) ?_;intro w2 a5 a4;refine ρ ?_;exact Jq ⟨a5.gx RtC.sta (by simp;omega) λk D=>⟨.inl D,λe=>by have:=a1 k D;have:=(F k e).1;omega⟩,λk D=>(F k D).1,Jr y a4 λk D=>(F k D).1⟩
open Go.RowKit Pl Go.Wk Bl
variable {b fuel n t:Nat}{N:Nat->Prop}{v vA vB vC:Value}{w:World}
abbrev Nn: Nat->Prop:=λ_=>False
theorem zSol: Qu Tryz.prog 126=some (.agg #[.int .i64 0,.slice none 0 0,.slice none 0 0,.slice none 0 0,.bool false,.slice none 0 0,.slice none 0 0]):=kr
theorem Qnb(A B C D:Option Addr)(m c m' c' k d k' d':Nat)(b:Bool)(w:World): (Instr.build 126 #[(0,.int .i64 0),(1,.slice A m c),(2,.slice B m' c'),(4,.agg #[.bool b,.slice C k d,.slice D k' d'])]).run Tryz.prog w=.ok (.agg #[.int .i64 0,.slice A m c,.slice B m' c',.slice none 0 0,.bool b,.slice C k d,.slice D k' d']) w:=kr
theorem Jkl{ls:List PR}{cs:List Value}(h:GX 3 RtC N w v ls)(hB:Blk w b t cs)(hc:∀ u∈cs,∀ z,u≠.int .u32 z)(hv:v.ownBlock≠some b): GX 3 RtC (λk=>N k∨k=b) w v ls:=by
 obtain⟨⟨ps,A,c,e,e1,Z,U,O,F⟩,hn⟩:=h;refine⟨⟨ps,A,c,e,e1,Z,U,O,λp G=>⟨(F p G).1,?_⟩⟩,λh0 ad m c' ev D=>D.elim (hn h0 ad m c' ev) λD=>hv (by rw[ev,<-D];rfl)⟩;obtain⟨x,y,q1,q2,J⟩:=(F p G).2;exact⟨x,y,q1,q2.box hB hc,J.box hB hc⟩
theorem noS: ∀ u∈[Value.int .i64 0,.slice none 0 0,.slice none 0 0,.slice none 0 0,.bool false,.slice none 0 0,.slice none 0 0],∀ z,u≠.int .u32 z:=λu y z e=>by
 simp only[List.mem_cons,List.not_mem_nil,or_false]at y;rcases y with rfl|rfl|rfl|rfl|rfl|rfl|rfl<;>cases e
theorem Qzn{A:List (List PR)}{t':PT}(hC:GX 3 RtC N w vC (List.replicate n (PR.int 1)))(hA:GX 1 MxC N w vA A)(hB:GX 3 RtC N w vB (List.replicate A.length (PR.int 1)))(hNw:∀ k,N k->k<w.heap.size)(hbin:Bin n A)(h1:∀ j,j<n->∃ i,i<A.length/\Xp A i j=1)(hn:n<=64)(hm:A.length<=5)(h0:0<A.length)(hf:(n+A.length)^A.length<=fuel)(hmx:PT.maxim (n+A.length) fuel (PT.ofP n A)=some t'):
  Ret Tryz.prog 53 [.agg #[vC,vA,vB]] w λu w'=>∃ X Y q1 q2,u=.tuple #[.agg #[.int .i64 0,X,Y,.slice none 0 0,.bool (t'.goal.getD t'.right pr0).neg,q1,q2],.int .i64 0]/\GX 3 RtC Nn w' X t'.point/\GX 3 RtC Nn w' Y t'.dual/\NatX Nn w' q1 (t'.goal.getD t'.right pr0).num/\NatX Nn w' q2 (t'.goal.getD t'.right pr0).den/\Ext w w':=by
 obtain⟨c8,ce,S,b6,hS,co⟩:=Jln hbin h1 hf;rw[hmx]at b6;cases b6
 obtain⟨i1,i2,i3⟩:=Qyh hbin;have br:∀ t S,PSt n A.length (pck n (Xp A)) t S->TSl t:=λt S h=>Qqt h i1 i2 i3 rfl om hm;have am:=hS.agr.ok;have cm:=hS.en;have cn:=hS.em;obtain⟨CA,cc,_,rfl,bv,_,_,_,_⟩:=id hC.el;obtain⟨AA,ac,_,rfl,cu,_,_,_,_⟩:=id hA.el;obtain⟨BA,bc,_,rfl,bw,_,_,_,_⟩:=id hB.el;simp only[List.length_replicate]at hC hB bv bw ⊢;refine Jz Tryz.func53 Tryz.ntmps53 rfl kr rfl ?_;refine ρ ?_;refine bx ?_;intro w1 b1 ay cq bl;refine ρ ?_;refine alc zSol ?_;intro w2 b2 aw bz ap;have U:=ay.trans aw;have af:=bl.ext aw;have c9:b1≠b2:=by have:=bl.lt;omega
 have bh:=hC.ext RtC.sta (by decide) U;have bm:=hA.ext MxC.sta (by decide) U;have ae:=hB.ext RtC.sta (by decide) U;refine ρ ?_;refine lds (cs:=[.slice CA n cc,.slice AA A.length ac,.slice BA A.length bc]) (λj u hu=>af.at hu) ?_;refine ρ ?_;refine cl (Qqm bh bm ae hbin om) ?_;rintro _ w3 ⟨rfl,D⟩;have O:=af.ext D;refine ρ ?_;refine ld (O.at (i:=0) rfl) ?_;refine ρ ?_;refine kf 15 ?_ ?_
 .simp;omega
 refine ρ ?_;refine ld (O.at (i:=2) rfl) ?_;refine ρ ?_;refine cf ?_ ?_
 .simp;omega
 have a3:=U.trans D;refine ρ ?_;refine lds (cs:=[.slice CA n cc,.slice AA A.length ac,.slice BA A.length bc]) (λj u hu=>O.at hu) ?_;refine ρ ?_;refine cl (Qcf (bh.ext RtC.sta (by decide) D) (bm.ext MxC.sta (by decide) D) (ae.ext RtC.sta (by decide) D) hbin hn om) ?_;rintro _ w4 ⟨base,b,vr,vb,rfl,ad,bd,bb,a9,ak⟩;refine ρ ?_;refine cl (Qgq a9 hbin hn om) ?_;rintro _ w5 ⟨rfl,Z⟩;have b3:=a3.trans (ak.trans Z);have bi:=(O.ext ak).ext Z;refine ρ ?_;refine ld (bi.at (i:=0) rfl) ?_;refine ρ ?_;have c5:=a9.ext Z;have an:∀ k,TN b vr vb k->w3.heap.size<=k:=λk y=>by
  rcases y with y|y|y
  .rw[y];exact bd
  .obtain⟨_,_,_,_,h⟩:=id a9.rows.form;exact nL ad (h k y).1
  obtain⟨_,_,_,_,h⟩:=Jy a9.bas;exact nL ad (h k y).1
 refine cl (Qbp (N:=TN b vr vb) c5 ((hC.old RtC.sta (by decide) λk y=>.inr (nL a3.size (an k y))).ext RtC.sta (by decide) b3) (λk y=>y) hbin hn om) ?_;rintro _ w6 ⟨rfl,vg,c4,b8⟩;have a2:Ext w3 w6:=b8.old (ak.trans Z) an;have cb:=O.ext a2;have ca:=(ap.ext D).ext a2;have ba:base<=w6.heap.size:=nL bb (nL Z.size b8.size);have aj:Ext w6 w6.drew:=(Ext.refl w6).drew;have a5:=c4.ext aj;have av:=a2.trans aj;refine ρ ?_;refine drH (λi=>i == 10) ?_;refine Jjb (fuel':=6) 17 [(0,0),(0,1),(0,2),(0,3),(0,4),(0,5),(0,6),(0,7),(0,8),(0,9)] #[true,true,true,true,true,true,true,true,true,true,false,false,false,false,false,false] kr kr rfl ?_;refine ρd ?_;refine dld (a5.blk.at (i:=0) rfl) ?_;refine ρd ?_;refine dld (a5.blk.at (i:=1) rfl) ?_;refine ρd ?_;refine Jjc ?_;refine Zn 10 kr rfl rfl ?_;refine Go.Wk.kv 45 (u:=.int .i64 ((n+A.length:Nat):Int)) (congrArg (Value.int .i64) ((Vf ⟨by show _<=((n:Nat):Int)+((A.length:Nat):Int);omega,by show((n:Nat):Int)+((A.length:Nat):Int)<=_;omega⟩).trans (by show((n:Nat):Int)+((A.length:Nat):Int)=_;omega))) ?_
 refine cl (Qcr a5 (PSt.start hbin) br c8 hmx om om (nL ba aj.size)) ?_;rintro _ w7 ⟨rfl,cd,ao,bu⟩;have a1:Ext w3 w7:=bu.old av an;refine Qk (Qe (λh=>by cases h) ?_);refine Zn 11 kr rfl rfl ?_;refine ρ ?_;refine Qe (λ_=>Ext.refl _) ?_;refine hmkS 17 0 _ #[true,true,true,true,true,true,true,true,true,true,true,true,true,true,true,true] [12,13,14,15] [47,48,5,6] [SF.eq (.int .i64 0),SF.eq (.bool true),SF.eq (.int .i64 0),SF.eq (.bool true)] kr (by rfl) ?_ ?_
 .refine gsc (λvs v1 ai hd=>?_) ?_
  .simp only[slM];refine ρ ?_;exact Vx (Ext.refl _) rfl
  refine gsc (λvs v1 ai hd=>?_) ?_
  .simp only[slM];refine ρ ?_;exact Vx (Ext.refl _) rfl
  refine gsc (λvs v1 ai hd=>?_) ?_
  .have e0:vs 0=_:=hd 0;simp only[slM,e0];refine ρ ?_;exact Vx (Ext.refl _) rfl
  refine gsc (λvs v1 ai hd=>?_) gse
  have e1:vs 1=_:=hd 1;simp only[slM,e1];refine ρ ?_;exact Vx (Ext.refl _) rfl
 intro vs bn aq hd;have e0:vs 0=_:=hd 0;have e1:vs 1=_:=hd 1;have e2:vs 2=_:=hd 2;have e3:vs 3=_:=hd 3;simp only[slM,e0,e1,e2,e3];clear e0 e1 e2 e3 hd;have ao:=ao.ext aq;have a1:=a1.trans aq;generalize bn=w7 at *
 refine Zx kr ?_;refine ρ ?_;have au:Ext w7 w7.drew:=(Ext.refl w7).drew;have a4:=ao.ext au;have aa:=a1.trans au;refine ρ ?_;refine drC 18 [0,2,4,8] [(0,5),(0,6),(0,7),(1,1),(1,3),(1,9),(0,10),(0,11),(0,12),(2,13),(2,14)] kr ?_;refine ρp ?_;refine ρd ?_;refine dld (a4.blk.at (i:=3) rfl) ?_;refine ρd ?_;refine dcl (Qvv a4 am om om) ?_;rintro X w8 ⟨hX,c2,a7⟩;refine⟨a7,?_⟩;have bf:=a4.ext a7;refine ρd ?_;refine dcl (Qhf bf am om om om) ?_;rintro Y w9 ⟨hY,c0,a6⟩;refine⟨a6,?_⟩;have be:=bf.ext a6;refine ρd ?_;refine dcl (Gl (n:=t'.n) (m:=t'.m) be.blk rfl rfl om om) ?_;rintro _ ah ⟨rfl,F⟩;refine⟨F,?_⟩;have bg:=be.ext F;refine ρd ?_;obtain⟨G,gc,_,eG,cp,_,c7,_,c6⟩:=id bg.goal.el;have b7:t'.goal.length=t'.n+t'.m+2:=am.goal.1;rw[b7]at eG;subst eG;have ar:Ext w3 ah:=aa.trans (a7.trans (a6.trans F));have J:=(ap.ext D).ext ar
 obtain⟨cr,_,b4,b5⟩:=c6 (t'.n+t'.m+1) om;have er:t'.goal[t'.n+t'.m+1]'(by omega)=t'.goal.getD t'.right pr0:=by simp[PT.right,List.getD,List.getElem?_eq_getElem (show t'.n+t'.m+1<t'.goal.length by omega)]
 rw[er]at b4;generalize t'.goal.getD t'.right pr0=q at *
 obtain⟨F1,f1,F2,f2,rfl,bs⟩:=b4.sl;have bt:Rd ah 3 G (t'.n+t'.m+2) _:=b7 ▸ c7;refine Qp 3 (t'.n+t'.m+1) bt om ?_;refine ρd ?_;refine Qj (λj u hu=>b5 j u hu) ?_;refine ρd ?_;obtain⟨X1,X2,_,rfl,_,_,_,_,_⟩:=id hX.el;obtain⟨Y1,Y2,_,rfl,_,_,_,_,_⟩:=id hY.el;refine dbld (λw=>Qnb _ _ _ _ _ _ _ _ _ _ _ _ _ w) ?_;refine ρd ?_;refine Jf ?_;have ck:=ap.lt;have cj:=D.size;have ch:=aa.size;have cg:=a7.size;have c3:=Jkl (hX.ext RtC.sta (by decide) (a6.trans F)) J noS (λe=>by have:=c2 b2 e;omega);have c1:=Jkl (hY.ext RtC.sta (by decide) F) J noS (λe=>by have:=c0 b2 e;omega);obtain⟨_,_,ev,q2,q3⟩:=bs;cases ev
 have bq:=q2.box J noS;have bp:=q3.box J noS;refine stb (cs':=[.int .i64 0,.slice X1 _ X2,.slice Y1 _ Y2,.slice none 0 0,.bool q.neg,.slice F1 _ f1,.slice F2 _ f2]) J ?_ (λu hu=>by
  simp only[List.mem_cons,List.not_mem_nil,or_false]at hu;rcases hu with rfl|rfl|rfl|rfl|rfl|rfl|rfl<;>rfl)
 intro bo bj b9 ax;have a8:GrN (λk=>TN b vr vb k∨k=b2) ah bo:=GrN.by b9 λk y=>by injection y with y;exact .inr y.symm
 refine ρ ?_;refine Qh ?_;refine Jf ?_;refine ρ ?_;exact Zz bj ⟨_,_,_,_,rfl,(c3.gr RtC.sta (by decide) a8).old RtC.sta (by decide) λk y=>y.elim,(c1.gr RtC.sta (by decide) a8).old RtC.sta (by decide) λk y=>y.elim,(bq.gr a8).old λk y=>y.elim,(bp.gr a8).old λk y=>y.elim,ax w (a3.trans ar) (nL ay.size bz)⟩
end Go.Proofs.YtebiphhfkdbpfaaGreat
namespace Go.Wk
open Go.RowKit
variable {base d e k n s ty:Nat}{N:Nat->Prop}{v v':Value}{w w1 w2:World}
theorem Jfx{P:Program}{al:AL}{Q:Exit->Act->World->Prop}{ops:Array Oper}{rest:List Oper}{pos:String}{aft:Array Edge}{x y:Operand}{t yt:TypeId}{k2:IntKind}{v:Nat}(hv:v<=32)(kk:WL P n ops Q rest ((d,.int .u32 ((s / 2^v:Nat):Int))::al) w)(hx:ev al x=some (.int .u32 (s:Int)):=by rfl)(hy:ev al y=some (.int k2 (v:Int)):=by rfl)(hd:Nat.blt d n=true:=by rfl):
  WL P n ops Q (⟨some d,.binOp .shr t x y yt,ty,pos,aft,none⟩::rest) al w:=by
 rw[<-Jgj s v hv]at kk;exact wop hd (λa u=>Jgq hx hy om u (some d) w) kk
theorem Ud{sz m base' e' sz' m':Nat}{xs xs':List Value}(h:w.ownsRow base e sz v m xs)(h':w.ownsRow base' e' sz' v' m' xs')(hne:Nat.beq e e'=false)(hk:v.ownBlock=some k): v'.ownBlock≠some k:=by
 have y:e≠e':=by intro u;subst u;simp at hne
 rcases h.2 with⟨rfl,_⟩|⟨g,cap,cur,rfl,_,hh,_⟩
 .simp[Value.ownBlock]at hk
 intro D;rcases h'.2 with⟨rfl,_⟩|⟨g',cap',cur',rfl,_,hh',_⟩
 .simp[Value.ownBlock]at D
 have G:g=k:=by simpa [Value.ownBlock] using hk
 have F:g'=k:=by simpa [Value.ownBlock] using D
 grind
theorem OX.own{α:Type}{sz:Nat}{Φ:(Nat->Prop)->World->List Value->α->Prop}{ls:List α}(h:OX e sz Φ N w base v ls): ∃ m xs,w.ownsRow base e sz v m xs:=by
 obtain⟨ps,_,u,_⟩:=h;exact⟨_,_,u⟩
theorem GrN.by2{g:Option Nat}(h:GrN N w w1)(hg:w1.grownBy w2 g)(ho:∀ k,g=some k->w.heap.size<=k∨N k): GrN N w w2 :=
 ⟨hg.os.trans h.os,hg.tape.trans h.tape,hg.output.trans h.output,Nat.le_trans h.size hg.size,λk u hn=>(hg.block k (nM u h.size) λe=>(ho k e.symm).elim (λy=>om) hn).trans (h.block k u hn)⟩
end Go.Wk
namespace Go.Proofs.YtebiphhfkdbpfaaGreat
open Go.RowKit Pl Go.Wk Bl
attribute [local irreducible] WC WL QX WD WDB WP WN WG WH
theorem Qlb(n:Nat)(hn:n<=1000)(w:World): Ret Tryz.prog 54 [.int .i64 (n:Int)] w λu w'=>OX 84 3 RtC (Ov w u) w' w.heap.size u (List.replicate n pr0)/\Ext w w':=by
 refine Jz Tryz.func54 Tryz.ntmps54 rfl kr rfl ?_;refine ρ ?_;refine mkRt n hn ?_;intro w1 A a2 hO hA;have hO:=hO (Ov w (.slice A n n));refine ρ ?_;refine Jl (fun (k:Nat)=>[(3,.slice A n n),(8,.int .i64 (n:Int)),(9,.int .i64 (k:Int))]) (λk w'=>k<=n/\Ext w w'/\OX 84 3 RtC (Ov w (.slice A n n)) w' w.heap.size (.slice A n n) (mix (List.replicate n pr0) (List.replicate n prz) k)) (λk=>n-k) 0 sB ⟨Nat.zero_le _,a2,by rw[Gu];exact hO⟩ ?_;rintro k w2 ⟨hk,F,y⟩;have Z:(mix (List.replicate n pr0) (List.replicate n prz) k).length=n:=by rw[Uh (by simp) (by simpa using hk)];simp
 refine ρ ?_;refine ci (λh=>?_) (λh=>?_)
 .have G:k<n:=by have:=oT h;omega
  clear h;refine ρ ?_;refine cl (Gp 0 (by decide) (by decide) w2) ?_;rintro r w3 ⟨hr,O⟩;have e0:PR.int 0=pr0:=rfl;rw[e0]at hr;obtain⟨C,e,D,f,rfl,hc⟩:=hr.cell;have J:=y.ext RtC.sta O;obtain⟨A',c',cs,ev,_,U,_⟩:=id J.el;rw[Z]at ev U;injection ev with ev1 ev2 ev3
  subst ev1;refine ρ ?_;refine ixq 3 k U G ?_;refine ρ ?_;obtain⟨_,_,_,_,a3⟩:=id J.form;have a5:k<(mix (List.replicate n pr0) (List.replicate n prz) k).length:=om
  refine stX RtC.sta J Z.symm a5 (cs:=[.bool pr0.neg,.slice C _ e,.slice D _ f]) (a:=pr0) (RtC.sta.old hc λj hj=>.inl ?_) (λg hg=>.inr hg) (Qz rfl rfl rfl) ?_
  .rcases hj with hj|hj
   .exact nM hj F.size
   obtain⟨_,_,_,_,h3⟩:=id y.form;exact(h3 j hj).2
  intro w4 a1 a6;rw[Ug (l':=List.replicate n pr0) (l:=List.replicate n prz) (x:=pr0) (by simp) (by simpa using G) (by simp[G])]at a1;refine ρ ?_;exact Jg (k+1) sO ⟨om,Jr (F.trans O) a6 (λg hg=>(a3 g hg).1),a1⟩ om
 have a4:k=n:=by have:=oF h;omega
 subst a4;have e:=Jqq (l':=List.replicate k pr0) (l:=List.replicate k prz) (by simp);rw[List.length_replicate]at e;rw[e]at y;refine ρ ?_;exact Jq ⟨y,F⟩
theorem Qqk{w:World}{A:Option Addr}{c n:Nat}{es:List Nat}(hn:n<=32): Ret Tryz.prog 51 [.agg (grC A c n es).toArray] w λu w'=>u=.int .u32 ((2^n-1:Nat):Int)/\Ext w w':=by
 have G:=Ga hn;have D:0<2^n:=Nat.two_pow_pos n;refine Jz Tryz.func51 Tryz.ntmps51 rfl kr rfl ?_;refine ρ ?_;refine bx (cs:=grC A c n es) ?_;intro w1 b y J F;refine ρ ?_;refine ld (F.at (i:=0) rfl) ?_;refine ρ ?_;refine sl64 (v:=n) om ?_;refine ρ ?_;refine Jq ⟨?_,y⟩;generalize 2^n=p at *
 congr 1
 rw[IntKind.wrap_u64,IntKind.wrap_u32];omega
open Go.RowKit Pl Go.Wk Bl
variable {E es:List Nat}{c i k n p s set v:Nat}
theorem zBl: Qu Tryz.prog 4=some (.bool false):=kr
theorem wfU(h:p<4294967296): (Lit.int .u32 (p:Int)).wf=true:=by
 simp only[Lit.wf,Bool.and_eq_true,decide_eq_true_eq];exact⟨by show(0:Int)<=_;omega,by show _<=(4294967295:Int);omega⟩
theorem Qnn(hs:s<4294967296): bits .and .u32 ((s / 2^v:Nat):Int) 1=((s.testBit v).toNat:Int):=by
 have D:s / 2^v<4294967296:=nN (Nat.div_le_self _ _) hs;have u:=u32_and_nat (s / 2^v) 1 D om;have y:s / 2^v &&& 1=(s.testBit v).toNat:=by
  rw[Nat.and_one_is_mod,Nat.toNat_testBit]
 rw[y]at u;exact u
theorem KU: Maps.Keyed Tryz.prog 25:=Maps.int_keyed Tryz.underlying25
theorem Jcp(b:Bool)(A B:Option Addr)(m c m' c':Nat)(w:World): (Instr.buildSlice 80 1 #[(0,.agg #[.bool b,.slice A m c,.slice B m' c'])]).run Tryz.prog w=.ok (.slice (some ⟨w.heap.size,0,none⟩) 1 1) (w.alloc (.cells #[.bool b,.slice A m c,.slice B m' c'] 84)):=kr
def pkA(n:Nat)(E:List Nat)(set i:Nat): List (List PR):=(Jh E set i).map λi=>(Jw n set).map λv=>PR.int (((E.getD i 0) &&& set).testBit v).toNat
theorem Jkq(E:List Nat)(set:Nat): ∀ i,(Jh E set i).length<=i
 | 0=>by simp[Jh]
 | i+1=>by
  have:=Jkq E set i;unfold Jh;simp only;split<;>simp<;>omega
def Vm(E:List Nat)(set i p:Nat): Bool:=(List.range i).any λk=>(E.getD k 0) &&& set == p
theorem Jqw(h:(E.getD i 0) &&& set=0∨Vm E set i ((E.getD i 0) &&& set)=true): Jh E set (i+1)=Jh E set i:=by
 rw[Jh];exact if_pos h
theorem Jkp(h0:(E.getD i 0) &&& set≠0)(h1:Vm E set i ((E.getD i 0) &&& set)=false): Jh E set (i+1)=Jh E set i++[i]:=by
 rw[Jh];exact if_neg (by rintro(h|h);exact h0 h;unfold Vm at h1;rw[h1]at h;cases h)
theorem Jvq(E:List Nat)(set i p:Nat): Vm E set (i+1) p=(Vm E set i p || ((E.getD i 0) &&& set == p)):=by
 unfold Vm;rw[List.range_succ,List.any_append];simp
abbrev N2(s:Nat)(vF vA vB:Value): Nat->Prop:=λk=>k<s∨vA.ownBlock=some k∨vB.ownBlock=some k∨vF.ownBlock=some k
abbrev N1(s:Nat)(vM vC:Value): Nat->Prop:=λk=>k<s∨vC.ownBlock=some k∨vM.ownBlock=some k
theorem zPb: Qu Tryz.prog 122=some (.agg #[.slice none 0 0,.slice none 0 0,.slice none 0 0]):=kr
theorem Ir(k set:Nat): Jw (k+1) set=if set.testBit k then Jw k set++[k] else Jw k set:=by
 unfold Jw;rw[List.range_succ,List.filter_append];cases h:set.testBit k<;>simp[h]
theorem Jml(h:v∈Jw k set): v<k:=List.mem_range.1 (List.mem_filter.1 h).1
theorem Kj(k set:Nat): (Jw k set).length<=k:=by
 unfold Jw;exact nL (List.length_filter_le _ _) (by simp)
theorem Qyt{w:World}{A:Option Addr}(h:GrV w A c n es)(hs:set<2^n)(hm:es.length<=5):
  Ret Tryz.prog 52 [.agg (grC A c n es).toArray,.int .u32 (set:Int)] w λu w'=>∃ vC vA vB MA mc FA fc,u=.tuple #[.agg #[vC,vA,vB],.slice MA (Jw n set).length mc,.slice FA (Jh es set es.length).length fc] /\
   GX 3 RtC Nn w' vC (List.replicate (Jw n set).length (PR.int 1))/\GX 1 MxC Nn w' vA (Vq n es set)/\GX 3 RtC Nn w' vB (List.replicate (Vq n es set).length (PR.int 1))/\Rd w' 1 MA (Jw n set).length (Jp (nz (Jw n set)))/\Rd w' 1 FA (Jh es set es.length).length (Jp (nz (Jh es set es.length)))/\Ext w w':=by
 have hn:=h.n32;have bi:set<4294967296:=nM hs (Ga hn);refine Jz Tryz.func52 Tryz.ntmps52 rfl kr rfl ?_;refine ρ ?_;refine bx (cs:=grC A c n es) ?_;intro w1 b1 cp gw et;refine ρ ?_;refine alc zPb ?_;intro w2 b2 co fj em;refine ρ ?_;refine alc zPb ?_;intro w3 b3 cn fi av;have dg:=cp.trans (co.trans cn);have b9:=(et.ext co).ext cn;have ek:=em.ext cn;refine ρ ?_;refine ld (b9.at (i:=0) rfl) ?_;refine ρ ?_;refine Zk (fun (k:Nat) (vM vC:Value)=>[(1,.int .u32 (set:Int)),(2,.pointer (some ⟨b1,0,none⟩)),(4,.pointer (some ⟨b2,0,none⟩)),(7,.pointer (some ⟨b3,0,none⟩)),(8,vM),(9,.slice none 0 0),(19,.int .i64 (n:Int)),(20,.int .i64 (k:Int))])
  (λk vM vC w'=>k<=n/\GrN (λi=>i=b3) w3 w'/\Qq w' w3.heap.size vM (Jw k set)/\OX 84 3 RtC (N1 w3.heap.size vM vC) w' w3.heap.size vC (List.replicate (Jw k set).length (PR.int 1))/\Blk w' b3 122 [vC,.slice none 0 0,.slice none 0 0]) (λk _ _=>n-k) 0 (.slice none 0 0) (.slice none 0 0) sB ⟨Nat.zero_le _,GrN.refl _ _,by simp[Jw,Qq];exact Xj _ _ _ _,by simp[Jw];exact OX.nil _ _,av⟩ ?_
 rintro k vM vC w4 ⟨hk,a7,ap,ar,d9⟩;refine ρ ?_;refine ci (λhc=>?_) (λhc=>?_)
 .have c2:k<n:=by have:=oT hc;omega
  clear hc;refine ρ ?_;refine Jfx (s:=set) (v:=k) om ?_;refine ρ ?_;rw[Jxj bi];refine ci (λhc=>?_) (λhc=>?_)
  .have cv:set.testBit k=true:=hc;have hmk:Jw (k+1) set=Jw k set++[k]:=by rw[Ir,if_pos cv]
   have f9:=Kj k set;refine ρ ?_;refine bsl (Um _) ?_;intro w5 b5 Z gu fp;refine ρ ?_;refine apI (z:=k) (Jb ap Z) fp om (nL a7.size Z.size) ?_;intro cm w6 ad a1 f8;rw[<-hmk]at ad;refine ρ ?_;have ah:¬ vC.ownBlock=some b3:=λe=>by
    obtain⟨_,_,_,_,h3⟩:=id ar.form;have:=(h3 b3 e).1;have:=av.lt;omega
   have ak:Ext w6 w6.drew:=(Ext.refl w6).drew;have cb:∀ k,vM.ownBlock=some k->w3.heap.size<=k:=λk e=>by
    obtain⟨_,_,_,_,h3⟩:=Jy ap;exact(h3 k e).1
   have dm:some b3≠vM.ownBlock:=λe=>by
    have:=cb b3 e.symm;have:=av.lt;omega
   have au:=((d9.ext Z).grown a1 dm).ext ak;have c5:=(((ar.ext RtC.sta Z).old RtC.sta (N':=λk=>N1 w3.heap.size vM vC k∨cm.ownBlock=some k) λk hk=>hk.elim .inl λhk=>(f8 k hk).imp (λhk=>.inr (.inr hk)) id).gr RtC.sta (GrN.by a1 λk e=>e) (M:=λk=>vM.ownBlock=some k) λk hk=>⟨.inl (.inr (.inr hk)),by
    obtain⟨_,_,ho⟩:=ar.own;exact Ud ap ho rfl hk⟩)
   refine drN (λk=>vC.ownBlock=some k) 18 [(0,0),(0,1),(1,2),(1,3),(1,4),(0,5),(2,6)] kr ?_;refine ρn ?_;refine nld (λw' hg=>(Ja au hg ah).at (i:=0) rfl) ?_;refine ρn ?_;refine nop ?_;refine cl (Gp 1 (by decide) (by decide) _) ?_;rintro r w7 ⟨hr,bg⟩;obtain⟨D,e,F,f,rfl,hc⟩:=hr.cell;refine Qk (Qg (GrN.ext bg) ?_);refine ρn ?_;refine nop ?_;refine bsl (Jcp _ _ _ _ _ _ _) ?_;intro w8 b8 G fh d7;refine Qk (Qg (GrN.ext G) ?_);have ay:=ak.trans (bg.trans G);have ec:=(c5.ext RtC.sta ay).old RtC.sta (N':=λk=>(N1 w3.heap.size vM vC k∨cm.ownBlock=some k)∨w8.heap.size<=k) λk hk=>hk;have gt:(List.replicate (Jw k set).length (PR.int 1)).length=(Jw k set).length:=by simp
   refine ρn ?_;refine nop ?_;refine apX ERt RtC.sta ec d7 rfl (Qz rfl rfl rfl) (RtC.sta.old (RtC.sta.gr hc (GrN.ext G)) λj hj=>?_) (λg hg=>.inl (.inl (.inr (.inl hg)))) om (by decide) (nL a7.size (nL Z.size (nL a1.size ay.size))) ?_
   .have z1:=a7.size;have z2:=Z.size;have z3:=a1.size;have z4:=ak.size;rcases hj with((hj|hj|hj)|hj)|hj
    .exact .inl (show j<w6.drew.heap.size by omega)
    .obtain⟨_,_,_,_,h3⟩:=id c5.form;have:=(h3 j hj).2;exact .inl (show j<w6.drew.heap.size by omega)
    .obtain⟨_,_,_,_,h3⟩:=Jy ap;have:=(h3 j hj).2;exact .inl (show j<w6.drew.heap.size by omega)
    .obtain⟨_,_,_,_,h3⟩:=Jy ad;have:=(h3 j hj).2;exact .inl (show j<w6.drew.heap.size by omega)
    exact .inr hj
   intro gd w9 bd a5 c1;obtain⟨_,ga,bs⟩:=ec.own;have d0:=Zq (Jb ad ay) bs a5 rfl;have bj:List.replicate (Jw k set).length (PR.int 1)++[PR.int 1]=List.replicate (Jw (k+1) set).length (PR.int 1):=by rw[hmk,List.length_append,List.length_singleton,List.replicate_succ']
   rw[bj]at bd;obtain⟨U,uc,eU,gi,_⟩:=id bd.form;subst eU;have cy:¬ (Value.slice U (List.replicate (Jw (k+1) set).length (PR.int 1)).length uc).ownBlock=some b3:=λe=>by
    obtain⟨_,_,_,_,h3⟩:=id bd.form;have:=(h3 b3 e).1;have:=av.lt;omega
   have cx:¬ cm.ownBlock=some b3:=λe=>by
    obtain⟨_,_,_,_,h3⟩:=Jy ad;have:=(h3 b3 e).1;have:=av.lt;omega
   refine Qk (Qg (GrN.by a5 λk e=>e) ?_);have d6:=(au.ext (bg.trans G)).grown a5 λe=>ah e.symm;refine ρn ?_;refine Xm ?_;refine stF (i:=0) d6 rfl ?_;intro ck ba c8;have bo:GrN (λi=>i=b3) w9 ck:=GrN.by c8 λk hk=>by injection hk with hk;exact hk.symm
   have eg:=bd.gr RtC.sta bo λk hk=>⟨.inl (.inl (.inl (by rw[hk];exact av.lt))),by rw[hk];exact cy⟩;have e5:=Jo d0 bo λg hg e=>cx (e ▸ hg);refine Qk (Uf ?_);refine ρn ?_;refine ρ ?_;refine Qa (k+1) _ _ sO ⟨om,?_,e5,eg.old RtC.sta λi hi=>?_,ba⟩ om
   .exact((((a7.trans (GrN.ext Z)).by2 a1 λk e=>.inl (cb k e)).trans (GrN.ext ay)).by2 a5 λi e=>.inl (by
     obtain⟨_,_,_,_,h3⟩:=id ar.form;exact(h3 i e).1)).by2 c8 λi e=>.inr (by injection e with e;exact e.symm)
   rcases hi with hi|hi|hi
   .exact .inl (.inl (.inl (.inl hi)))
   .exact .inl ((c1 i hi).elim (λh=>.inl (.inl (.inr (.inl h)))) .inr)
   exact .inl (.inl (.inr hi))
  have cv:¬ set.testBit k=true:=by rw[hc];decide
  have hmk:Jw (k+1) set=Jw k set:=by rw[Ir,if_neg cv]
  refine ρ ?_;exact Qa (k+1) _ _ sO ⟨om,a7,by rw[hmk];exact ap,by rw[hmk];exact ar,d9⟩ om
 have fa:k=n:=by have:=oF hc;omega
 subst fa;clear hk hc;have gs:=a7;refine ρ ?_;refine mkm 25 ?_;intro w5 bm Z cw cr;have gq:=et.lt;have gp:=em.lt;have gn:=av.lt;have gg:=a7.size;have ep:=Ja b9 (a7.trans (GrN.ext Z)) om;have cq:w.heap.size<=b3:=nL (cp.trans co).size fi;have ax:Ext w w4:=a7.old dg λk e=>by rw[e];exact cq
 have e0:Jh es set 0=[]:=rfl;refine ρ ?_;refine ld (ep.at (i:=1) rfl) ?_;obtain⟨MA,mc,eM,gm,cz⟩:=Jy ap;have dx:=Jb ap Z;subst eM;have f9:=Kj k set;refine ρ ?_;refine Gb (fun (i:Nat) (vF vA vB:Value)=>[(1,.int .u32 (set:Int)),(2,.pointer (some ⟨b1,0,none⟩)),(4,.pointer (some ⟨b2,0,none⟩)),(7,.pointer (some ⟨b3,0,none⟩)),(8,.slice MA (Jw k set).length mc),(9,vF),(11,.map (some bm)),(41,.slice A es.length c),(42,.int .i64 (es.length:Int)),(43,.int .i64 (i:Int))])
  (λi vF vA vB w'=>i<=es.length/\GrN (λi=>i=b3∨i=bm) w5 w'/\Qq w' w5.heap.size vF (Jh es set i)/\OX 80 1 MxC (N2 w5.heap.size vF vA vB) w' w5.heap.size vA (pkA k es set i)/\OX 84 3 RtC (N2 w5.heap.size vF vA vB) w' w5.heap.size vB (List.replicate (Jh es set i).length (PR.int 1))/\Blk w' b3 122 [vC,vA,vB]/\(∃ m f,m<=i/\MapS Tryz.prog 25 w' bm m f/\∀ p:Nat,0<p->p<4294967296->(f (.int .u32 (p:Int))).getD (.bool false)=.bool (Vm es set i p)))
  (λi _ _ _=>es.length-i) 0 (.slice none 0 0) (.slice none 0 0) (.slice none 0 0) sB ⟨Nat.zero_le _,GrN.refl _ _,by rw[e0];exact Xj _ _ _ _,by rw[pkA,e0];exact OX.nil _ _,by rw[e0];exact OX.nil _ _,d9.ext Z,0,_,Nat.le_refl _,cr,λp _ _=>rfl⟩ ?_
 rintro i vF vA vB w6 ⟨hi,a1,aq,be,ac,au,m,f,gl,ad,c3⟩;have gf:=Z.size;refine ρ ?_;refine ci (λhc=>?_) (λhc=>?_)
 .have c2:i<es.length:=by have:=oT hc;omega
  clear hc;have bf:Ext w w6:=a1.old (ax.trans Z) λk e=>e.elim (λe=>by rw[e];exact cq) λe=>by rw[e];exact nL ax.size cw
  have hm:=getD_mem' 0 es c2;have h6:=h.ext bf;refine ρ ?_;refine ix i h6.rd c2 ?_;refine ρ ?_;refine ld (h6.rd.cell (Jdc c2)) ?_;refine ρ ?_;have dk:=h6.lt32 hm;have c0:es.getD i 0 &&& set<4294967296:=nN Nat.and_le_right bi;have fd:=Jkq es set i;have fg:bits .and .u32 ((es.getD i 0:Nat):Int) ((set:Nat):Int)=((es.getD i 0 &&& set:Nat):Int):=u32_and_nat _ _ dk bi;rw[fg];have gj:Jh es set (i+1)=Jh es set i->∀ w',GrN (λi=>i=b3∨i=bm) w5 w'->True:=λ_ _ _=>trivial;by_cases hp0:es.getD i 0 &&& set=0
  .refine kt 53 ?_ ?_
   .rw[hp0];rfl
   refine ρ ?_;have hk:=Jqw (E:=es) (set:=set) (i:=i) (.inl hp0);refine Yk (i+1) _ _ _ sO ⟨om,a1,by rw[hk];exact aq,by rw[pkA,hk];exact be,by rw[hk];exact ac,au,m,f,om,ad,λp h1 h2=>?_⟩ om;rw[c3 p h1 h2,Jvq,hp0,show(0 == p)=false from beq_eq_false_iff_ne.2 om,Bool.or_false]
  refine kf 53 ?_ ?_
  .exact beq_eq_false_iff_ne.2 om
  refine ρ ?_;refine mlk KU ad zBl (Maps.keyOf_int_mk Tryz.underlying25 (a:=((es.getD i 0 &&& set:Nat):Int)) (wfU c0)) ?_;rw[c3 (es.getD i 0 &&& set) om c0];refine ρ ?_;refine ci (λhc=>?_) (λhc=>?_)
  .refine ρ ?_;have hk:=Jqw (E:=es) (set:=set) (i:=i) (.inr hc);refine Yk (i+1) _ _ _ sO ⟨om,a1,by rw[hk];exact aq,by rw[pkA,hk];exact be,by rw[hk];exact ac,au,m,f,om,ad,λp h1 h2=>?_⟩ om;rw[c3 p h1 h2,Jvq];by_cases e:es.getD i 0 &&& set=p
   .subst e;rw[hc];rfl
   rw[beq_eq_false_iff_ne.2 e,Bool.or_false]
  have hk:=Jkp hp0 hc;have b7:∀ k,vF.ownBlock=some k->w5.heap.size<=k:=λk e=>by
   obtain⟨_,_,_,_,h3⟩:=Jy aq;exact(h3 k e).1
  have aj:∀ k,vA.ownBlock=some k->w5.heap.size<=k/\k<w6.heap.size:=λk e=>by
   obtain⟨_,_,_,_,h3⟩:=id be.form;exact h3 k e
  have aa:∀ k,vB.ownBlock=some k->w5.heap.size<=k/\k<w6.heap.size:=λk e=>by
   obtain⟨_,_,_,_,h3⟩:=id ac.form;exact h3 k e
  have dl:bm<w5.heap.size:=cr.lt;refine ρ ?_;refine mup KU ad (by unfold maxLen;omega) (Maps.keyOf_int_mk Tryz.underlying25 (a:=((es.getD i 0 &&& set:Nat):Int)) (wfU c0)) ?_;intro w7 d1 af;have a2:GrN (λi=>i=bm) w6 w7:=GrN.by af λk e=>by injection e with e;exact e.symm
  have br:=Jo aq a2 λg hg e=>by have:=b7 g hg;omega
  have c6:=be.gr MxC.sta a2 λk e=>⟨.inl om,λe'=>by have:=(aj k e').1;omega⟩;have c4:=ac.gr RtC.sta a2 λk e=>⟨.inl om,λe'=>by have:=(aa k e').1;omega⟩;have d8:=Ja au a2 om;refine ρ ?_;refine bsl (Um _) ?_;intro w8 b8 G fh d7;refine ρ ?_;refine apI (z:=i) (Jb br G) d7 om (nL a1.size (nL af.size G.size)) ?_;intro a3 w9 d2 a5 c1;rw[<-hk]at d2;have bl:GrN (λi=>i=b3∨i=bm) w5 w9:=((a1.by2 af λq e=>.inr (by injection e with e;exact .inr e.symm)).trans (GrN.ext G)).by2 a5 λq e=>.inl (b7 q e);have d0:=Jo dx bl λg hg e=>by
   have:=cz g hg;omega
  have dt:=Rd.own d0;refine ρ ?_;refine Qd (fun (j:Nat) (vR:Value)=>[(1,.int .u32 (set:Int)),(2,.pointer (some ⟨b1,0,none⟩)),(4,.pointer (some ⟨b2,0,none⟩)),(7,.pointer (some ⟨b3,0,none⟩)),(8,.slice MA (Jw k set).length mc),(9,a3),(11,.map (some bm)),(14,.int .u32 ((es.getD i 0 &&& set:Nat):Int)),(15,vR),(41,.slice A es.length c),(42,.int .i64 (es.length:Int)),(43,.int .i64 (i:Int)),(64,.slice MA (Jw k set).length mc),(65,.int .i64 ((Jw k set).length:Int)),(66,.int .i64 (j:Int))])
   (λj vR w'=>j<=(Jw k set).length/\Ext w9 w'/\OX 84 3 RtC (λq=>q<w9.heap.size∨vR.ownBlock=some q) w' w9.heap.size vR (((Jw k set).take j).map λv=>PR.int (((es.getD i 0) &&& set).testBit v).toNat)) (λj _=>(Jw k set).length-j) 0 (.slice none 0 0) sB ⟨Nat.zero_le _,Ext.refl _,OX.nil _ _⟩ ?_
  rintro j vR ck ⟨hj,O,ai⟩;refine ρ ?_;refine ci (λhc=>?_) (λhc=>?_)
  .have am:j<(Jw k set).length:=by have:=oT hc;omega
   clear hc;refine ρ ?_;refine ix j (dt.ext O) am ?_;refine ρ ?_;refine ld ((dt.ext O).cell (Qn am)) ?_;refine ρ ?_;have gh:(Jw k set).getD j 0<k:=Jml (getD_mem' 0 _ am);refine Jfx (s:=es.getD i 0 &&& set) (v:=(Jw k set).getD j 0) om ?_;refine ρ ?_;refine Go.Wk.kv 75 (u:=.int .i64 (((es.getD i 0 &&& set).testBit ((Jw k set).getD j 0)).toNat:Int)) (congrArg (Value.int .i64) ?_) ?_
   .rw[Qnn c0];exact Vf (by cases (es.getD i 0 &&& set).testBit ((Jw k set).getD j 0)<;>decide)
   refine cl (Gp ((((es.getD i 0 &&& set).testBit ((Jw k set).getD j 0)).toNat:Nat):Int) (by cases (es.getD i 0 &&& set).testBit ((Jw k set).getD j 0)<;>decide) (by cases (es.getD i 0 &&& set).testBit ((Jw k set).getD j 0)<;>decide) _) ?_;rintro r bc ⟨hr,J⟩;obtain⟨D,e,F,f',rfl,fe⟩:=hr.cell;refine ρ ?_;refine bsl (Jcp _ _ _ _ _ _ _) ?_;intro cj gz b6 g8 bv;have dn:=((ai.ext RtC.sta J).ext RtC.sta b6).old RtC.sta (N':=λq=>(q<w9.heap.size∨vR.ownBlock=some q)∨cj.heap.size<=q) λq y=>y;have bp:∀ q,vR.ownBlock=some q->w9.heap.size<=q/\q<ck.heap.size:=λq e=>by
    obtain⟨_,_,_,_,h3⟩:=id ai.form;exact h3 q e
   refine ρ ?_;refine apX ERt RtC.sta dn bv rfl (Qz rfl rfl rfl) (RtC.sta.old (RtC.sta.gr fe (GrN.ext b6)) λq y=>?_) (λg hg=>.inl (.inr hg)) (by simp;omega) (by decide) (nL O.size (nL J.size b6.size)) ?_
   .rcases y with(y|y)|y
    .exact .inl (nM y O.size)
    .exact .inl (bp q y).2
    exact .inr y
   intro gc bb c9 a8 dj;refine ρ ?_;refine Qv (j+1) _ sO ⟨om,Jr (O.trans (J.trans b6)) a8 λq e=>(bp q e).1,?_⟩ om;have e1:((Jw k set).take j).map (λv=>PR.int (((es.getD i 0) &&& set).testBit v).toNat)++[PR.int ((((es.getD i 0 &&& set).testBit ((Jw k set).getD j 0)).toNat:Nat):Int)]=((Jw k set).take (j+1)).map λv=>PR.int (((es.getD i 0) &&& set).testBit v).toNat:=by
    rw[List.take_add_one,List.getElem?_eq_getElem am,List.map_append];simp[List.getD,List.getElem?_eq_getElem am]
   rw[e1]at c9;exact c9.old RtC.sta λq y=>.inl (y.elim (λy=>.inl (.inl y)) λy=>(dj q y).elim (λy=>.inl (.inr y)) .inr)
  have am:j=(Jw k set).length:=by have:=oF hc;omega
  subst am;rw[List.take_length]at ai;clear hc hj;have eb:∀ q,vB.ownBlock=some q->q<w9.heap.size:=λq e=>by have:=(aa q e).2;have:=af.size;have:=G.size;have:=a5.size;omega
  have eu:∀ q,vA.ownBlock=some q->q<w9.heap.size:=λq e=>by have:=(aj q e).2;have:=af.size;have:=G.size;have:=a5.size;omega
  have bq:∀ q,a3.ownBlock=some q->w5.heap.size<=q/\q<w9.heap.size:=λq e=>by
   obtain⟨_,_,_,_,h3⟩:=Jy d2;exact h3 q e
  have g6:b3<w5.heap.size:=om
  have e6:∀ q,vF.ownBlock=some q->q<w9.heap.size:=λq e=>by
   obtain⟨_,_,_,_,h3⟩:=Jy aq;have:=(h3 q e).2;have:=af.size;have:=G.size;have:=a5.size;omega
  have g0:=bl.size;have g5:=O.size;have d6:=(d8.ext G).grown a5 λe=>by have:=b7 b3 e.symm;omega
  have ba:=d6.ext O;have du:=(d1.ext G).kept a5 λe=>by have:=b7 bm e.symm;omega
  have fr:=(((c6.ext MxC.sta G).old MxC.sta (N':=λq=>N2 w5.heap.size vF vA vB q∨a3.ownBlock=some q) λq y=>y.elim .inl λy=>(c1 q y).imp (λy=>.inr (.inr (.inr y))) id).gr MxC.sta (GrN.by a5 λq e=>e) (M:=λq=>vF.ownBlock=some q) λq y=>⟨.inl (.inr (.inr (.inr y))),by
   obtain⟨_,_,ho⟩:=(c6.ext MxC.sta G).own;exact Ud (Jb br G) ho rfl y⟩)
  have bd:=(((c4.ext RtC.sta G).old RtC.sta (N':=λq=>N2 w5.heap.size vF vA vB q∨a3.ownBlock=some q) λq y=>y.elim .inl λy=>(c1 q y).imp (λy=>.inr (.inr (.inr y))) id).gr RtC.sta (GrN.by a5 λq e=>e) (M:=λq=>vF.ownBlock=some q) λq y=>⟨.inl (.inr (.inr (.inr y))),by
   obtain⟨_,_,ho⟩:=(c4.ext RtC.sta G).own;exact Ud (Jb br G) ho rfl y⟩)
  have dq:∀ q,(N2 w5.heap.size vF vA vB q∨a3.ownBlock=some q)->q<w9.heap.size:=λq y=>by
   rcases y with(y|y|y|y)|y
   .omega
   .exact eu q y
   .exact eb q y
   .exact e6 q y
   exact(bq q y).2
  obtain⟨RA,rc,eR,_,bp⟩:=id ai.form;subst eR;refine ρ ?_;refine ld (ba.at (i:=1) rfl) ?_;refine ρ ?_;refine bsl (Jsn _ _ _) ?_;intro bc h4 J g9 er;have g4:=J.size;have cg:=((fr.ext MxC.sta O).ext MxC.sta J).old MxC.sta (N':=λq=>(N2 w5.heap.size vF vA vB q∨a3.ownBlock=some q)∨bc.heap.size<=q) λq y=>y;have cd:=((bd.ext RtC.sta O).ext RtC.sta J).old RtC.sta (N':=λq=>(N2 w5.heap.size vF vA vB q∨a3.ownBlock=some q)∨bc.heap.size<=q) λq y=>y;generalize hrow:(Jw k set).map (λv=>PR.int (((es.getD i 0) &&& set).testBit v).toNat)=row at *
  have gk:row.length=(Jw k set).length:=by rw[<-hrow];simp
  have fl:GX 3 RtC (λq=>(N2 w5.heap.size vF vA vB q∨a3.ownBlock=some q)∨bc.heap.size<=q) bc (.slice RA row.length rc) row:=((ai.ext RtC.sta J).old RtC.sta (N':=λq=>(q<w9.heap.size∨(Value.slice RA row.length rc).ownBlock=some q)∨bc.heap.size<=q) λq y=>y).gx RtC.sta om λq y=>by
   rcases y with y|y
   .have:=dq q y;exact⟨.inl (.inl this),λe=>by have:=(bp q e).1;omega⟩
   exact⟨.inr y,λe=>by have:=(bp q e).2;omega⟩
  have dh:(pkA k es set i).length=(Jh es set i).length:=by simp[pkA]
  refine ρ ?_;refine apX EMx MxC.sta cg er rfl (λu hu=>by rw[List.mem_singleton.1 hu];rfl) ⟨_,rfl,fl⟩ (λg hg=>.inl (.inl (.inr (.inl hg)))) om (by decide) om ?_;intro ae cj bw a9 c7;have f7:pkA k es set i++[row]=pkA k es set (i+1):=by rw[pkA,pkA,hk,List.map_append,<-hrow];rfl
  rw[f7]at bw;obtain⟨A',fz,fy,_,aw⟩:=id bw.form;subst fy;have g3:=a9.size;obtain⟨_,_,bz⟩:=cg.own;obtain⟨_,_,d5⟩:=cd.own;have ea:=Zq (Jb d2 (O.trans J)) bz a9 rfl;have ef:=cd.gr RtC.sta (GrN.by a9 λq e=>e) (M:=λq=>vA.ownBlock=some q) λq y=>⟨.inl (.inl (.inr (.inl y))),Ud bz d5 rfl y⟩;have bv:=(ba.ext J).grown a9 λe=>by have:=(aj b3 e.symm).1;omega
  have e4:=((du.ext O).ext J).kept a9 λe=>by have:=(aj bm e.symm).1;omega
  refine ρ ?_;refine stF (i:=1) bv rfl ?_;intro bb b9 a8;have ao:GrN (λq=>q=b3) cj bb:=GrN.by a8 λq e=>by injection e with e;exact e.symm
  have g2:=a8.size;generalize hvA:Value.slice A' (pkA k es set (i+1)).length fz=ae at *
  have ey:=(bw.old MxC.sta (N':=λq=>(N2 w5.heap.size vF vA vB q∨a3.ownBlock=some q)∨ae.ownBlock=some q) λq y=>.inl (y.elim .inl λy=>(c7 q y).imp (λy=>.inl (.inr (.inl y))) id)).gr MxC.sta ao λq y=>⟨.inl (.inl (.inl om)),λe=>by have:=(aw q e).1;omega⟩;have ee:=(ef.old RtC.sta (N':=λq=>(N2 w5.heap.size vF vA vB q∨a3.ownBlock=some q)∨ae.ownBlock=some q) λq y=>.inl (y.elim .inl λy=>(c7 q y).imp (λy=>.inl (.inr (.inl y))) id)).gr RtC.sta ao λq y=>⟨.inl (.inl (.inl om)),λe=>by have:=(aa q e).1;omega⟩;have e9:=Jo ea ao λg hg e=>by have:=(bq g hg).1;omega
  have e3:=e4.kept a8 λe=>by injection e with e;omega
  have fk:∀ q,((N2 w5.heap.size vF vA vB q∨a3.ownBlock=some q)∨ae.ownBlock=some q)->q<bb.heap.size:=λq y=>by
   rcases y with y|y
   .have:=dq q y;omega
   have:=(aw q y).2;omega
  have ak:Ext bb bb.drew:=(Ext.refl bb).drew;have f5:=ak.size;have eh:=b9.ext ak;have ah:¬ vB.ownBlock=some b3:=λe=>by have:=(aa b3 e).1;omega
  refine ρ ?_;refine drN (λq=>vB.ownBlock=some q) 18 [(0,0),(0,1),(1,2),(1,3),(1,4),(0,5),(2,6)] kr ?_;refine ρn ?_;refine nld (λw' hg=>(Ja eh hg ah).at (i:=2) rfl) ?_;refine ρn ?_;refine nop ?_;refine cl (Gp 1 (by decide) (by decide) _) ?_;rintro r gb ⟨hr,bh⟩;obtain⟨D,e,F,f',rfl,ff⟩:=hr.cell;refine Qk (Qg (GrN.ext bh) ?_);refine ρn ?_;refine nop ?_;refine bsl (Jcp _ _ _ _ _ _ _) ?_;intro ch gy b4 g7 da;have a4:=ak.trans (bh.trans b4);have f6:=a4.size;have cc:=(ee.ext RtC.sta a4).old RtC.sta (N':=λq=>((N2 w5.heap.size vF vA vB q∨a3.ownBlock=some q)∨ae.ownBlock=some q)∨ch.heap.size<=q) λq y=>y;have ce:=(ey.ext MxC.sta a4).old MxC.sta (N':=λq=>((N2 w5.heap.size vF vA vB q∨a3.ownBlock=some q)∨ae.ownBlock=some q)∨ch.heap.size<=q) λq y=>y;refine Qk (Qg (GrN.ext b4) ?_);refine ρn ?_;refine nop ?_;refine apX ERt RtC.sta cc da rfl (Qz rfl rfl rfl) (RtC.sta.old (RtC.sta.gr ff (GrN.ext b4)) λq y=>y.elim (λy=>.inl (nM (fk q y) f5)) .inr) (λg hg=>.inl (.inl (.inl (.inr (.inr (.inl hg)))))) (by simp;omega) (by decide) om ?_
  intro df f4 bt a6 di;have bj:List.replicate (Jh es set i).length (PR.int 1)++[PR.int 1]=List.replicate (Jh es set (i+1)).length (PR.int 1):=by rw[hk,List.length_append,List.length_singleton,List.replicate_succ']
  rw[bj]at bt;obtain⟨_,_,bu⟩:=cc.own;obtain⟨_,_,db⟩:=ce.own;have e8:=Zq (Jb e9 a4) bu a6 rfl;have ex:=ce.gr MxC.sta (GrN.by a6 λq e=>e) (M:=λq=>vB.ownBlock=some q) λq y=>⟨.inl (.inl (.inl (.inr (.inr (.inl y))))),Ud bu db rfl y⟩;have eo:=(eh.ext (bh.trans b4)).grown a6 λe=>ah e.symm;have e2:=(e3.ext a4).kept a6 λe=>by have:=(aa bm e.symm).1;omega
  obtain⟨U,uc,eU,_,d3⟩:=id bt.form;subst eU;have g1:=a6.size;refine Qk (Qg (GrN.by a6 λq e=>e) ?_);refine ρn ?_;refine Xm ?_;refine stF (i:=2) eo rfl ?_;intro de en bn;have an:GrN (λq=>q=b3) f4 de:=GrN.by bn λq e=>by injection e with e;exact e.symm
  generalize hvB:Value.slice U (List.replicate (Jh es set (i+1)).length (PR.int 1)).length uc=df at *
  have ca:∀ q,N2 w5.heap.size a3 ae df q->(((N2 w5.heap.size vF vA vB q∨a3.ownBlock=some q)∨ae.ownBlock=some q)∨ch.heap.size<=q):=λq y=>by
   rcases y with y|y|y|y
   .exact .inl (.inl (.inl (.inl y)))
   .exact .inl (.inr y)
   .exact(di q y).imp (λy=>.inl (.inl (.inr (.inr (.inl y))))) id
   exact .inl (.inl (.inr y))
  have ew:=(ex.gr MxC.sta an λq y=>⟨.inl (.inl (.inl (.inl om))),λe=>by have:=(aw q e).1;omega⟩).old MxC.sta λq y=>.inl (ca q y);have ed:=(bt.gr RtC.sta an λq y=>⟨.inl (.inl (.inl (.inl om))),λe=>by have:=(d3 q e).1;omega⟩).old RtC.sta λq y=>.inl (ca q y);have e7:=Jo e8 an λg hg e=>by have:=(bq g hg).1;omega
  have dz:=e2.kept bn λe=>by injection e with e;omega
  have cu:GrN (λi=>i=b3∨i=bm) w5 de:=((((bl.trans (GrN.ext (O.trans J))).by2 a9 λq e=>.inl (aj q e).1).by2 a8 λq e=>.inr (by injection e with e;exact .inl e.symm)).trans (GrN.ext a4)).by2 a6 (λq e=>.inl (aa q e).1) |>.by2 bn λq e=>.inr (by injection e with e;exact .inl e.symm);refine Qk (Uf ?_);refine ρn ?_;refine ρ ?_;refine Yk (i+1) _ _ _ sO ⟨om,cu,e7,ew,ed,en,m+1,_,om,dz,λp h1 h2=>?_⟩ om;rw[Jvq];by_cases e:es.getD i 0 &&& set=p
  .subst e;rw[Jjw (by trivial)];simp
  rw[Jjv (λe'=>e (by injection e' with _ e';omega)),c3 p h1 h2,beq_eq_false_iff_ne.2 e,Bool.or_false]
 have fb:i=es.length:=by have:=oF hc;omega
 subst fb;obtain⟨f0,ez,fu,_,bs⟩:=id ar.form;obtain⟨f3,f2,fx,_,fq⟩:=id be.form;obtain⟨dd,dc,fw,_,fn⟩:=id ac.form;obtain⟨h7,h5,ft,_,fm⟩:=Jy aq;have dl:bm<w5.heap.size:=cr.lt;have c5:=((ar.old RtC.sta (N':=λq=>N1 w3.heap.size (.slice MA (Jw k set).length mc) vC q∨q=bm) λq y=>y.imp id λy=>by rw[y];exact cw).ext RtC.sta Z).gr RtC.sta a1 λq y=>y.elim (λy=>⟨.inl (.inl om),λe=>by have:=(bs q e).1;omega⟩) λy=>⟨.inr y,λe=>by have:=(bs q e).2;omega⟩;have dw:=Jo dx a1 λg hg e=>by
  have:=cz g hg;omega
 have ej:=Ja (Ja (ek.ext (Ext.refl _)) (a7.trans (GrN.ext Z)) om) a1 om;subst fu;subst fx;subst fw;subst ft;refine ρ ?_;refine lds (cs:=[.slice f0 _ ez,.slice f3 _ f2,.slice dd _ dc]) (λj u hu=>au.at hu) ?_;refine ρ ?_;refine stb (cs':=[.slice f0 _ ez,.slice f3 _ f2,.slice dd _ dc]) ej ?_ (λu hu=>by
  simp only[List.mem_cons,List.not_mem_nil,or_false]at hu;rcases hu with rfl|rfl|rfl<;>rfl)
 intro w7 d8 af bg;have a2:GrN (λq=>q=b2) w6 w7:=GrN.by af λq e=>by injection e with e;exact e.symm
 have ge:=a1.size;have c4:=(c5.gr RtC.sta a2 λq y=>⟨.inl (.inl om),λe=>by have:=(bs q e).1;omega⟩).gx (N':=Nn) RtC.sta (by simp;omega) λq y=>y.elim;have dh:(pkA k es set es.length).length=(Jh es set es.length).length:=by simp[pkA]
 have fd:=Jkq es set es.length;have c6:=(be.gr MxC.sta a2 λq y=>⟨.inl om,λe=>by have:=(fq q e).1;omega⟩).gx (N':=Nn) MxC.sta om λq y=>y.elim;have ei:=(ac.gr RtC.sta a2 λq y=>⟨.inl om,λe=>by have:=(fn q e).1;omega⟩).gx (N':=Nn) RtC.sta (by simp;omega) λq y=>y.elim;have d1:=Rd.own (Jo dw a2 λg hg e=>by have:=cz g hg;omega);have br:=Rd.own (Jo aq a2 λg hg e=>by have:=fm g hg;omega);have bf:Ext w w6:=a1.old (ax.trans Z) λq e=>e.elim (λe=>by rw[e];exact cq) λe=>by rw[e];exact nL ax.size cw
 have fo:GX 3 RtC Nn w7 (.slice dd (List.replicate (Jh es set es.length).length (PR.int 1)).length dc) (List.replicate (Vq k es set).length (PR.int 1)):=by
  rw[show(Vq k es set).length=(Jh es set es.length).length from dh];exact ei
 refine ρ ?_;exact Jpq d8 ⟨_,_,_,_,_,_,_,rfl,c4,c6,fo,d1,br,bg w bf (nL cp.size fj)⟩
open Go.RowKit Pl Go.Wk Bl
variable {E es is:List Nat}{l l1 l2 xs:List PR}{b i j n s set:Nat}
theorem Jzm(n:Nat)(E:List Nat)(set:Nat): (Vq n E set).length=(Jh E set E.length).length:=by simp[Vq]
theorem Jlk(hi:i<(Jh E set E.length).length): (Vq n E set).getD i []=(Jw n set).map λv=>PR.int (((E.getD (Jh E set E.length)[i] 0) &&& set).testBit v).toNat:=by
 unfold Vq;simp[List.getD,List.getElem?_map,List.getElem?_eq_getElem hi]
theorem Jlm(hi:i<(Jh E set E.length).length)(hj:j<(Jw n set).length): ((Vq n E set).getD i []).getD j pr0=PR.int (((E.getD (Jh E set E.length)[i] 0) &&& set).testBit (Jw n set)[j]).toNat:=by
 rw[Jlk hi];simp[List.getD,List.getElem?_map,List.getElem?_eq_getElem hj]
theorem Jll(n:Nat)(E:List Nat)(set:Nat): Bin (Jw n set).length (Vq n E set):=λi hi=>by
 rw[Jzm]at hi;refine⟨by rw[Jlk hi];simp,λj u=>?_⟩;rw[Jlm hi u];cases ((E.getD (Jh E set E.length)[i] 0) &&& set).testBit (Jw n set)[j]
 .exact .inl rfl
 exact .inr rfl
theorem Jbn(E:List Nat)(set:Nat): ∀ {i k:Nat},k<i->(E.getD k 0) &&& set≠0->∃ x∈Jh E set i,(E.getD x 0) &&& set=(E.getD k 0) &&& set
 | i+1,k,hk,h0=>by
  by_cases e:k=i
  .subst e;cases hs:Vm E set k ((E.getD k 0) &&& set) with
   | true=>
    obtain⟨x,hx,e⟩:=List.any_eq_true.1 hs;have e:=eq_of_beq e;obtain⟨y,hy,e2⟩:=Jbn E set (List.mem_range.1 hx) (by rw[e];exact h0);exact⟨y,by rw[Jqw (.inr hs)];exact hy,e2.trans e⟩
   | false=>exact⟨k,by rw[Jkp h0 hs];simp,rfl⟩
  obtain⟨x,hx,e2⟩:=Jbn E set (show k<i by omega) h0;refine⟨x,?_,e2⟩;by_cases h1:(E.getD i 0) &&& set=0∨Vm E set i ((E.getD i 0) &&& set)=true
  .rw[Jqw h1];exact hx
  rw[Jkp (λe=>h1 (.inl e)) (by cases hs:Vm E set i ((E.getD i 0) &&& set);rfl;exact absurd (.inr hs) h1)];simp[hx]
theorem Jbm{E:List Nat}{set:Nat}: ∀ {i x:Nat},x∈Jh E set i->x<i
 | i+1,x,h=>by
  by_cases h1:(E.getD i 0) &&& set=0∨Vm E set i ((E.getD i 0) &&& set)=true
  .rw[Jqw h1]at h;have:=Jbm h;omega
  rw[Jkp (λe=>h1 (.inl e)) (by cases hs:Vm E set i ((E.getD i 0) &&& set);rfl;exact absurd (.inr hs) h1)]at h;rcases List.mem_append.1 h with h|h
  .have:=Jbm h;omega
  rw[List.mem_singleton.1 h];omega
theorem noC: ∀ u∈[Value.slice none 0 0,.slice none 0 0,.bool false,.slice none 0 0,.slice none 0 0],∀ z,u≠.int .u32 z:=λu y z e=>by
 simp only[List.mem_cons,List.not_mem_nil,or_false]at y;rcases y with rfl|rfl|rfl|rfl|rfl<;>cases e
def Covd(n:Nat)(E:List Nat)(set:Nat): Prop:=∀ v,v<n->set.testBit v=true->∃ k,k<E.length/\(E.getD k 0).testBit v=true
theorem Jym(h:Covd n E set): ∀ j,j<(Jw n set).length->∃ i,i<(Vq n E set).length/\Xp (Vq n E set) i j=1:=λj U=>by
 have J:(Jw n set)[j]∈Jw n set:=List.getElem_mem _;obtain⟨G,D⟩:=List.mem_filter.1 J;obtain⟨k,O,y⟩:=h _ (List.mem_range.1 G) D;have u:((E.getD k 0) &&& set).testBit (Jw n set)[j]=true:=by rw[Nat.testBit_and,y,D];rfl
 obtain⟨x,F,e⟩:=Jbn E set O (λe=>by rw[e]at u;simp at u);obtain⟨i,hi,Z⟩:=List.getElem_of_mem F;refine⟨i,by rw[Jzm];exact hi,?_⟩;unfold Xp;rw[Jlm hi U,Z,e,u];decide +kernel
def Vw(l:List PR)(is:List Nat)(xs:List PR)(i:Nat): List PR:=Yn l (is.take i) (xs.take i)
theorem Jhw(l:List PR)(is:List Nat)(xs:List PR): Vw l is xs 0=l:=by simp[Vw,Yn]
theorem Jzj(h:is.length=xs.length): Vw l is xs is.length=Yn l is xs:=by
 rw[Vw,List.take_length,h,List.take_length]
theorem Jhv(hi:i<is.length)(hx:i<xs.length): Vw l is xs (i+1)=(Vw l is xs i).set is[i] xs[i]:=by
 unfold Vw Yn;rw[List.take_add_one,List.take_add_one,List.getElem?_eq_getElem hi,List.getElem?_eq_getElem hx,List.zip_append (by simp;omega),List.foldl_append];rfl
theorem Jzh(l:List PR)(is:List Nat)(xs:List PR)(i:Nat): (Vw l is xs i).length=l.length:=by
 unfold Vw Yn;generalize (is.take i).zip (xs.take i)=z
 induction z generalizing l with
 | nil=>rfl
 | cons p z ih=>rw[List.foldl_cons,ih,List.length_set]
abbrev NZ(s b:Nat)(v1 v2:Value): Nat->Prop:=λk=>k<s∨k=b∨v1.ownBlock=some k∨v2.ownBlock=some k
structure TwoZ(s b:Nat)(w:World)(v1 v2:Value)(l1 l2:List PR): Prop where
 o1:∃ base,OX 84 3 RtC (NZ s b v1 v2) w base v1 l1
 o2:∃ base,OX 84 3 RtC (NZ s b v1 v2) w base v2 l2
 ne:∀ k,v1.ownBlock=some k->v2.ownBlock≠some k
 f1:∀ k,v1.ownBlock=some k->s<=k
 f2:∀ k,v2.ownBlock=some k->s<=k
theorem TwoZ.ext{s b:Nat}{w w':World}{v1 v2:Value}{l1 l2:List PR}(h:TwoZ s b w v1 v2 l1 l2)(hx:Ext w w'): TwoZ s b w' v1 v2 l1 l2:=by
 obtain⟨⟨_,G⟩,⟨_,F⟩,D,y,u⟩:=h;exact⟨⟨_,G.ext RtC.sta hx⟩,⟨_,F.ext RtC.sta hx⟩,D,y,u⟩
theorem twoZ{wa w1 wb w2:World}{v1 v2:Value}(hs:s<=wa.heap.size)(h1:OX 84 3 RtC (Ov wa v1) w1 wa.heap.size v1 l1)(hx0:Ext wa w1)(hx1:Ext w1 wb)(h2:OX 84 3 RtC (Ov wb v2) w2 wb.heap.size v2 l2)(hx2:Ext wb w2)(hb:b<wa.heap.size∨(w1.heap.size<=b/\b<wb.heap.size)∨w2.heap.size<=b): TwoZ s b w2 v1 v2 l1 l2:=by
 obtain⟨_,_,_,_,f1⟩:=id h1.form;obtain⟨_,_,_,_,y⟩:=id h2.form;have z0:=hx0.size;have G:=hx1.size;have F:=hx2.size;refine⟨⟨_,(h1.old RtC.sta (N':=NZ s b v1 v2) λk u=>?_).ext RtC.sta (hx1.trans hx2)⟩,⟨_,h2.old RtC.sta λk u=>?_⟩,λk e D=>?_,λk e=>nL hs (f1 k e).1,λk e=>?_⟩
 .rcases u with u|u|u|u
  .exact .inl (.inl om)
  .rcases hb with hb|hb|hb
   .exact .inl (.inl om)
   .exact .inr om
   exact .inr om
  .exact .inl (.inr u)
  exact .inr (by have:=(y k u).1;omega)
 .rcases u with u|u|u|u
  .exact .inl (.inl om)
  .rcases hb with hb|hb|hb
   .exact .inl (.inl om)
   .exact .inl (.inl om)
   exact .inr om
  .exact .inl (.inl (by have:=(f1 k u).2;omega))
  exact .inl (.inr u)
 .have:=(f1 k e).2;have:=(y k D).1;omega
 have:=(y k e).1;omega
theorem Kg: Qu Tryz.prog 86=some (.agg #[.slice none 0 0,.slice none 0 0,.bool false,.slice none 0 0,.slice none 0 0]):=kr
theorem Jwh(A B C D:Option Addr)(m c m' c' k d k' d':Nat)(b:Bool)(w:World): (Instr.build 86 #[(0,.slice A m c),(1,.slice B m' c'),(2,.agg #[.bool b,.slice C k d,.slice D k' d'])]).run Tryz.prog w=.ok (.agg #[.slice A m c,.slice B m' c',.bool b,.slice C k d,.slice D k' d']) w:=kr
theorem Jlr{E:List Nat}: ∀ {i v:Nat},i<=E.length->(((List.range i).foldl (λa k=>a ||| E.getD k 0) 0).testBit v=true↔∃ k,k<i/\(E.getD k 0).testBit v=true)
 | 0,v,_=>by simp
 | i+1,v,h=>by
  rw[List.range_succ,List.foldl_append,List.foldl_cons,List.foldl_nil,Nat.testBit_or,Bool.or_eq_true,Jlr om];constructor
  .rintro(⟨k,hk,e⟩|e)
   .exact⟨k,om,e⟩
   exact⟨i,om,e⟩
  rintro⟨k,hk,e⟩;by_cases h1:k=i
  .subst h1;exact .inr e
  exact .inl ⟨k,om,e⟩
def orK(E:List Nat)(i:Nat): Nat:=(List.range i).foldl (λa k=>a ||| E.getD k 0) 0
theorem Jls(E:List Nat)(i:Nat): orK E (i+1)=orK E i ||| E.getD i 0:=by unfold orK;rw[List.range_succ,List.foldl_append];rfl
theorem Qlc{w:World}{A:Option Addr}{c fuel:Nat}{pc:PC}(h:GrV w A c n es)(hs:set<2^n)(h0:set≠0)(hm:es.length<=5)(hcv:Covd n es set)(hf:((Jw n set).length+(Jh es set es.length).length)^(Jh es set es.length).length<=fuel)(hpc:cvr fuel n es set=some pc):
  Ret Tryz.prog 27 [.agg (grC A c n es).toArray,.int .u32 (set:Int)] w λu w'=>∃ W P q1 q2,u=.tuple #[.agg #[W,P,.bool pc.val.neg,q1,q2],.int .i64 0]/\GX 3 RtC Nn w' W pc.ws/\GX 3 RtC Nn w' P pc.ps/\NatX Nn w' q1 pc.val.num/\NatX Nn w' q2 pc.val.den/\Ext w w':=by
 have hn:=h.n32;have f6:=Ga hn;have au:set<4294967296:=om
 obtain⟨t',c4,eb⟩:=Option.map_eq_some_iff.1 hpc;rw[<-Jzm n]at c4 hf;have f9:=Kj n set;have f7:=Jzm n es set;have fd:=Jkq es set es.length;have ez:0<(Vq n es set).length:=by
  obtain⟨v,hv⟩:=Nat.exists_testBit_of_ne_zero h0;have ar:v<n:=Nat.lt_of_not_le λc5=>by
   rw[Nat.testBit_lt_two_pow (nM hs (Nat.pow_le_pow_right (n:=2) (by decide) c5))]at hv;cases hv
  have e8:v∈Jw n set:=List.mem_filter.2 ⟨List.mem_range.2 ar,hv⟩;obtain⟨j,hj,_⟩:=List.getElem_of_mem e8;obtain⟨i,hi,_⟩:=Jym hcv j hj;omega
 obtain⟨d0,cy⟩:t'.point.length=(Jw n set).length/\t'.dual.length=(Jh es set es.length).length:=by
  obtain⟨_,t2,S,cx,hS,_⟩:=Jln (Jll n es set) (Jym hcv) hf;rw[c4]at cx;cases cx
  have h1:=hS.en;have h2:=hS.em;have h3:=hS.agr.ok.goal.1;refine⟨by simp[PT.point,h1],?_⟩;simp only[PT.dual,List.length_take,List.length_drop,h3];simp only[PT.right];omega
 refine Jz Tryz.func27 Tryz.ntmps27 rfl kr rfl ?_;refine ρ ?_;refine bx (cs:=grC A c n es) ?_;intro w1 b1 c3 fe ey;refine ρ ?_;refine alc Kg ?_;intro w2 b2 c0 ee de;have a4:=ey.ext c0;refine ρ ?_;refine lds (cs:=grC A c n es) (λj u F=>a4.at F) ?_;refine ρ ?_;refine cl (Qgc ((h.ext c3).ext c0)) ?_;rintro u w3 ⟨rfl,bc⟩;have an:=a4.ext bc;refine ρ ?_;refine lds (cs:=grC A c n es) (λj u F=>an.at F) ?_;refine ρ ?_;refine cl (Qqk (w:=w3) hn) ?_;rintro u w4 ⟨rfl,bb⟩;have b9:=an.ext bb;have f8:0<2^n:=Nat.two_pow_pos n;refine ρ ?_;refine cf ?_ ?_
 .rw[Jcw au om,Jtp hs hn];rfl
 refine ρ ?_;refine ld (b9.at (i:=1) rfl) ?_;have bh:=c3.trans (c0.trans (bc.trans bb));have h4:=h.ext bh;refine ρ ?_;refine Jl (fun (i:Nat)=>[(1,.int .u32 (set:Int)),(2,.pointer (some ⟨b1,0,none⟩)),(4,.pointer (some ⟨b2,0,none⟩)),(7,.int .u32 ((orK es i:Nat):Int)),(33,.slice A es.length c),(34,.int .i64 (es.length:Int)),(35,.int .i64 (i:Int))]) (λi w'=>i<=es.length/\w'=w4/\orK es i<4294967296) (λi=>es.length-i) 0 sB ⟨Nat.zero_le _,rfl,show 0<4294967296 by decide⟩ ?_;rintro i w5 ⟨hi,rfl,ho⟩;refine ρ ?_;refine ci (λhc=>?_) (λhc=>?_)
 .have a1:i<es.length:=by have:=oT hc;omega
  clear hc;refine ρ ?_;refine ix i h4.rd a1 ?_;refine ρ ?_;refine ld (h4.rd.cell (Jdc a1)) ?_;have bn:=h4.lt32 (getD_mem' 0 es a1);refine ρ ?_;rw[Qnl ho bn,<-Jls];exact Jg (i+1) sO ⟨om,rfl,by rw[Jls];exact Qbb ho bn⟩ om
 have ax:i=es.length:=by have:=oF hc;omega
 subst ax;clear hc hi;have d3:Jxk set (orK es es.length)=0:=by
  apply Nat.eq_of_testBit_eq
  intro v;rw[Jtq au ho,Nat.zero_testBit];cases hb:set.testBit v with
  | false=>rfl
  | true=>
   have hv:v<n:=Nat.lt_of_not_le λc5=>by
    rw[Nat.testBit_lt_two_pow (nM hs (Nat.pow_le_pow_right (n:=2) (by decide) c5))]at hb;cases hb
   have:=(Jlr (E:=es) (v:=v) (nR _)).2 (hcv v hv hb);unfold orK;rw[this];rfl
 refine ρ ?_;refine cf ?_ ?_
 .rw[Jcw au ho,d3];rfl
 refine ρ ?_;refine lds (cs:=grC A c n es) (λj u F=>b9.at F) ?_;refine ρ ?_;refine cl (Qyt h4 hs hm) ?_;rintro _ w6 ⟨vC,vA,vB,MA,mc,FA,fc,rfl,dd,dj,bw,et,eu,co⟩;obtain⟨dn,dm,_,rfl,_,_,_,_,_⟩:=id dd.el;obtain⟨dw,du,_,rfl,_,_,_,_,_⟩:=id dj.el;obtain⟨dt,dq,_,rfl,_,_,_,_,_⟩:=id bw.el;refine ρ ?_;refine alc zPb ?_;intro w7 b7 e6 ed ex;refine ρ ?_;refine stb (cs':=[.slice dn _ dm,.slice dw _ du,.slice dt _ dq]) ex ?_ (λu F=>by
  simp only[List.mem_cons,List.not_mem_nil,or_false]at F;rcases F with rfl|rfl|rfl<;>rfl)
 intro w8 ew fb e5;have ac:Ext w6 w8:=e5 w6 e6 ed;have f0:=co.trans ac;refine ρ ?_;refine lds (cs:=[.slice dn _ dm,.slice dw _ du,.slice dt _ dq]) (λj u F=>ew.at F) ?_;refine cl (Qzn (dd.ext RtC.sta (by decide) ac) (dj.ext MxC.sta (by decide) ac) (bw.ext RtC.sta (by decide) ac) (λk J=>J.elim) (Jll n es set) (Jym hcv) om om ez hf c4) ?_;rintro _ w9 ⟨X,Y,q1,q2,rfl,d6,d5,cv,cu,e4⟩;generalize hq:t'.goal.getD t'.right pr0=q at *
 obtain⟨X1,X2,_,rfl,_,_,_,_,_⟩:=id d6.el;obtain⟨Y1,Y2,_,rfl,_,_,_,_,_⟩:=id d5.el;obtain⟨Q1,c1,rfl⟩:=cv.1.sl;obtain⟨Q2,c2,rfl⟩:=cu.1.sl;refine ρ ?_;refine alc zSol ?_;intro f4 ck cr d2 di;refine ρ ?_;refine stb (cs':=[.int .i64 0,.slice X1 _ X2,.slice Y1 _ Y2,.slice none 0 0,.bool q.neg,.slice Q1 _ c1,.slice Q2 _ c2]) di ?_ (λu F=>by
  simp only[List.mem_cons,List.not_mem_nil,or_false]at F;rcases F with rfl|rfl|rfl|rfl|rfl|rfl|rfl<;>rfl)
 intro a5 dh f3 cq;have aq:Ext w9 a5:=cq w9 cr d2;have ap:Ext a5 a5.drew:=(Ext.refl a5).drew;have af:=ac.trans (e4.trans aq);have aj:=co.trans (af.trans ap);have bz:=b9.ext aj;have ad:=dh.ext ap;refine ρ ?_;refine drH (λi=>i == 11) ?_;refine Jjb (fuel':=5) 18 [(0,0),(0,1),(0,2),(0,4),(0,5),(0,7),(0,8)] #[true,true,true,false,true,true,false,true,true,false,false,false] kr kr rfl ?_;refine ρd ?_;refine dld (bz.at (i:=1) rfl) ?_;refine ρd ?_;refine dld (bz.at (i:=0) rfl) ?_;refine ρd ?_;refine Qj (cs:=[.bool q.neg,.slice Q1 (Jj q.num).length c1,.slice Q2 (Jj q.den).length c2]) (λj u F=>match j,F with
  | 0,F=>by injection F with F;subst F;exact ad.at (i:=4) rfl
  | 1,F=>by injection F with F;subst F;exact ad.at (i:=5) rfl
  | 2,F=>by injection F with F;subst F;exact ad.at (i:=6) rfl
  | j+3,F=>by cases F) ?_
 refine ρd ?_;refine Jjc ?_;refine hcut 1 (lst 12 11) (fun (y:(Option Addr×Nat)×(Option Addr×Nat)×Nat)=>[(73,.agg #[.slice y.1.1 es.length y.1.2,.slice y.2.1.1 n y.2.1.2,.bool q.neg,.slice Q1 (Jj q.num).length c1,.slice Q2 (Jj q.den).length c2]),(15,.pointer (some ⟨y.2.2,0,none⟩)),(2,.pointer (some ⟨b1,0,none⟩)),(4,.pointer (some ⟨b2,0,none⟩)),(11,.slice MA (Jw n set).length mc),(12,.slice FA (Jh es set es.length).length fc),(13,.pointer (some ⟨ck,0,none⟩))])
  (λy W=>Ext a5.drew W/\TwoZ a5.drew.heap.size y.2.2 W (.slice y.1.1 es.length y.1.2) (.slice y.2.1.1 n y.2.1.2) (List.replicate es.length pr0) (List.replicate n pr0)/\Blk W y.2.2 86 [.slice none 0 0,.slice none 0 0,.bool false,.slice none 0 0,.slice none 0 0]/\a5.drew.heap.size<=y.2.2) ?_ ?_
 rotate_left
 .intro rest;have zl (m:Nat) (W:World) (hm:m<=64):=Qlb m (show m<=1000 by omega) W;refine Jqt 3 10 kr rfl rfl rfl ?_ ?_
  .refine cl (zl es.length _ om) ?_;rintro W v1 ⟨hW,a2⟩;obtain⟨W1,W2,_,eW,_,_⟩:=id hW.el;rw[List.length_replicate]at eW;subst eW;refine Qk (Qe (λ_=>a2) ?_);refine Jqt 6 10 kr rfl rfl rfl ?_ ?_
   .refine cl (zl n _ om) ?_;rintro P v2 ⟨hP,Z⟩;obtain⟨P1,P2,_,eP,_,_⟩:=id hP.el;rw[List.length_replicate]at eP;subst eP;have hZ (b:Nat) (hb:v2.heap.size<=b):=twoZ (b:=b) (nR _) hW a2 (Ext.refl _) hP Z (.inr (.inr hb));refine Qk (Qe (λ_=>Z) ?_);refine Jqt 9 10 kr rfl rfl rfl ?_ ?_
    .refine bld (Jwh _ _ _ _ _ _ _ _ _ _ _ _ _ _) ?_;refine Qk (Qe (λ_=>Ext.refl _) ?_);refine Zn 10 kr rfl rfl ?_;refine alc Kg ?_;intro v3 D O G U;refine Qk (Qe (λ_=>O) ?_);refine hlist (listed':=lst 12 11) kr ?_;exact rest ((W1,W2),(P1,P2),D) _ _ ⟨a2.trans (Z.trans O),(hZ D G).ext O,U,Nat.le_trans (a2.trans Z).size G⟩ sB
    refine alc Kg ?_;intro v3 D O G U;refine Qk (Qe (λ_=>O) ?_);refine Zn 9 kr rfl rfl ?_;refine bld (Jwh _ _ _ _ _ _ _ _ _ _ _ _ _ _) ?_;refine Qk (Qe (λ_=>Ext.refl _) ?_);refine hlist (listed':=lst 12 11) kr ?_;exact rest ((W1,W2),(P1,P2),D) _ _ ⟨a2.trans (Z.trans O),(hZ D G).ext O,U,Nat.le_trans (a2.trans Z).size G⟩ sB
   refine alc Kg ?_;intro v2 D Z G U;refine Qk (Qe (λ_=>Z) ?_);refine Zn 6 kr rfl rfl ?_;refine cl (zl n _ om) ?_;rintro P v3 ⟨hP,O⟩;obtain⟨P1,P2,_,eP,_,_⟩:=id hP.el;rw[List.length_replicate]at eP;subst eP;have hZ:=twoZ (b:=D) (nR _) hW a2 Z hP O (.inr (.inl ⟨G,U.lt⟩));refine Qk (Qe (λ_=>O) ?_);refine Zn 9 kr rfl rfl ?_;refine bld (Jwh _ _ _ _ _ _ _ _ _ _ _ _ _ _) ?_;refine Qk (Qe (λ_=>Ext.refl _) ?_);refine hlist (listed':=lst 12 11) kr ?_;exact rest ((W1,W2),(P1,P2),D) _ _ ⟨a2.trans (Z.trans O),hZ,U.ext O,Nat.le_trans a2.size G⟩ sB
  refine alc Kg ?_;intro v1 D a2 G U;refine Qk (Qe (λ_=>a2) ?_);refine Zn 3 kr rfl rfl ?_;refine cl (zl es.length _ om) ?_;rintro W v2 ⟨hW,Z⟩;obtain⟨W1,W2,_,eW,_,_⟩:=id hW.el;rw[List.length_replicate]at eW;subst eW;refine Qk (Qe (λ_=>Z) ?_);refine Zn 6 kr rfl rfl ?_;refine cl (zl n _ om) ?_;rintro P v3 ⟨hP,O⟩;obtain⟨P1,P2,_,eP,_,_⟩:=id hP.el;rw[List.length_replicate]at eP;subst eP;have hZ:=twoZ (b:=D) a2.size hW Z (Ext.refl _) hP O (.inl U.lt);refine Qk (Qe (λ_=>O) ?_);refine Zn 9 kr rfl rfl ?_;refine bld (Jwh _ _ _ _ _ _ _ _ _ _ _ _ _ _) ?_;refine Qk (Qe (λ_=>Ext.refl _) ?_);refine hlist (listed':=lst 12 11) kr ?_;exact rest ((W1,W2),(P1,P2),D) _ _ ⟨a2.trans (Z.trans O),hZ,(U.ext Z).ext O,G⟩ sB
 rintro⟨⟨W1,W2⟩,⟨P1,P2⟩,D⟩ e0 ⟨bg,bo,a4,G⟩;simp only at bo a4 G ⊢;refine Zn 11 kr rfl rfl ?_;refine stb (cs':=[.slice W1 es.length W2,.slice P1 n P2,.bool q.neg,.slice Q1 (Jj q.num).length c1,.slice Q2 (Jj q.den).length c2]) a4 ?_ (λu F=>by
  simp only[List.mem_cons,List.not_mem_nil,or_false]at F;rcases F with rfl|rfl|rfl|rfl|rfl<;>rfl)
 intro cn an bm bf;have e3:Ext a5.drew cn:=bf _ bg G;obtain⟨⟨dl,b5⟩,⟨dk,b8⟩,cw,c9,c8⟩:=bo;have ah:GrN (λk=>k=D) e0 cn:=GrN.by bm λk e=>by injection e with e;exact e.symm
 obtain⟨_,_,bd⟩:=b5.own;obtain⟨_,_,be⟩:=b8.own;have br:=b5.gr RtC.sta ah λk e=>⟨.inr (.inl e),by rw[e];exactλe'=>a4.ne_own bd kr e'.symm⟩;have bu:=b8.gr RtC.sta ah λk e=>⟨.inr (.inl e),by rw[e];exactλe'=>a4.ne_own be kr e'.symm⟩;refine Qk (Qe (λh=>by cases h) ?_);refine Zx kr ?_;generalize hsz:a5.drew.heap.size=s at *
 clear b5 b8 bd be a4 bg bf bm ah;have cg:=br.old RtC.sta (N':=λk=>k=D∨(Value.slice W1 es.length W2).ownBlock=some k∨(Value.slice P1 n P2).ownBlock=some k) λk J=>.inl (.inr J);have cj:=bu.old RtC.sta (N':=λk=>k=D∨(Value.slice W1 es.length W2).ownBlock=some k∨(Value.slice P1 n P2).ownBlock=some k) λk J=>.inl (.inr J);clear br bu;have er:∀ k,(k=D∨(Value.slice W1 es.length W2).ownBlock=some k∨(Value.slice P1 n P2).ownBlock=some k)->s<=k:=λk J=>by
  rcases J with J|J|J
  .omega
  .exact c9 k J
  exact c8 k J
 generalize hNN:(λk=>k=D∨(Value.slice W1 es.length W2).ownBlock=some k∨(Value.slice P1 n P2).ownBlock=some k)=NN at *
 have da:∀ k,(Value.slice W1 es.length W2).ownBlock=some k->NN k:=λk J=>by rw[<-hNN];exact .inr (.inl J)
 have d9:∀ k,(Value.slice P1 n P2).ownBlock=some k->NN k:=λk J=>by rw[<-hNN];exact .inr (.inr J)
 have bv:∀ k,NN k->s<=k:=λk J=>er k (by rw[<-hNN]at J;exact J);have ai:Ext w9 a5.drew:=aq.trans ap;have ek:=(d6.ext RtC.sta (by decide) ai).old RtC.sta (by decide) (N':=NN) λk J=>.inr (by rw[hsz];exact bv k J);have eh:=(d5.ext RtC.sta (by decide) ai).old RtC.sta (by decide) (N':=NN) λk J=>.inr (by rw[hsz];exact bv k J);have db:=et.ext (af.trans ap);have dc:=eu.ext (af.trans ap);have d1:t'.point.length=(Jw n set).length:=d0;have cz:t'.dual.length=(Jh es set es.length).length:=cy;obtain⟨XA,XC,_,eX,_,_,ei,_,ej⟩:=id ek.el;injection eX with eXa _ eXc
 subst eXa;obtain⟨YA,YC,_,eY,_,_,ef,_,eg⟩:=id eh.el;injection eY with eYa _ eYc
 subst eYa;refine ρ ?_;refine Jl (fun (i:Nat)=>[(2,.pointer (some ⟨b1,0,none⟩)),(4,.pointer (some ⟨b2,0,none⟩)),(11,.slice MA (Jw n set).length mc),(12,.slice FA (Jh es set es.length).length fc),(13,.pointer (some ⟨ck,0,none⟩)),(15,.pointer (some ⟨D,0,none⟩)),(74,.slice MA (Jw n set).length mc),(75,.int .i64 ((Jw n set).length:Int)),(76,.int .i64 (i:Int))])
  (λi w'=>i<=(Jw n set).length/\Ext a5.drew w'/\OX 84 3 RtC NN w' dl (.slice W1 es.length W2) (List.replicate es.length pr0)/\OX 84 3 RtC NN w' dk (.slice P1 n P2) (Vw (List.replicate n pr0) (Jw n set) t'.point i)/\Blk w' D 86 [.slice W1 es.length W2,.slice P1 n P2,.bool q.neg,.slice Q1 (Jj q.num).length c1,.slice Q2 (Jj q.den).length c2]) (λi=>(Jw n set).length-i) 0 sB ⟨Nat.zero_le _,e3,cg,by rw[Jhw];exact cj,an⟩ ?_
 rintro i ba ⟨hi,ak,bq,b6,aa⟩;refine ρ ?_;refine ci (λhc=>?_) (λhc=>?_)
 .have a1:i<(Jw n set).length:=by have:=oT hc;omega
  clear hc;refine ρ ?_;refine ix i (db.ext ak) a1 ?_;refine ρ ?_;refine ld ((db.ext ak).cell (Qn a1)) ?_;refine ρ ?_;have cc:i<t'.point.length:=om
  have ar:(Jw n set).getD i 0<n:=Jml (getD_mem' 0 _ a1);have a3:Ext ba ba.drew:=(Ext.refl ba).drew;have a8:=ak.trans a3;have ch:=b6.ext RtC.sta a3;have bj:n=(Vw (List.replicate n pr0) (Jw n set) t'.point i).length:=by rw[Jzh];simp
  obtain⟨ce,_,av,ca⟩:=ej i cc;have aw:=Jhv (l:=List.replicate n pr0) a1 cc;rw[show(Jw n set)[i]=(Jw n set).getD i 0 by simp[List.getD,List.getElem?_eq_getElem a1]]at aw;generalize t'.point[i]=x at *
  obtain⟨F1,f1,F2,f2,rfl,e9⟩:=av.sl;refine dr [(0,0),(0,1),(0,2),(0,3),(0,4),(0,5),(0,6),(0,7),(0,8),(2,9)] kr ?_;refine ρd ?_;refine dld ((aa.ext a3).at (i:=1) rfl) ?_;refine ρd ?_;refine dld ((ad.ext a8).at (i:=1) rfl) ?_;refine ρd ?_;refine Qp 3 i (ei.ext a8) cc ?_;refine ρd ?_;refine Qj (λj u F=>Xz a8 (ca j u F)) ?_;refine ρd ?_;obtain⟨_,ep⟩:=ch.rd bj;refine Qp 3 ((Jw n set).getD i 0) ep ar ?_;refine ρd ?_;refine Jf ?_;refine stX RtC.sta ch bj (show(Jw n set).getD i 0<_ by omega) (cs:=[.bool x.neg,.slice F1 _ f1,.slice F2 _ f2]) (a:=x) (RtC.sta.gr av (GrN.ext a8)) d9 (Qz rfl rfl rfl) ?_;intro dz bt b3;have c7:GrN (λk=>(Value.slice P1 n P2).ownBlock=some k) ba.drew dz:=GrN.by b3 λk e=>e
  rw[<-aw]at bt;obtain⟨_,_,be⟩:=ch.own;have d7:=(bq.ext RtC.sta a3).gr RtC.sta c7 λk e=>⟨d9 k e,λe'=>cw k e' e⟩;have U:=(aa.ext a3).grown b3 λe=>(aa.ext a3).ne_own be kr e;refine ρ ?_;exact Jg (i+1) sO ⟨om,Jr a8 b3 λk J=>by rw[hsz];exact c8 k J,d7,bt,U⟩ om
 have ax:i=(Jw n set).length:=by have:=oF hc;omega
 subst ax;clear hc hi;rw[Jzj d1.symm]at b6;refine ρ ?_;refine Jl (fun (i:Nat)=>[(2,.pointer (some ⟨b1,0,none⟩)),(4,.pointer (some ⟨b2,0,none⟩)),(12,.slice FA (Jh es set es.length).length fc),(13,.pointer (some ⟨ck,0,none⟩)),(15,.pointer (some ⟨D,0,none⟩)),(91,.slice FA (Jh es set es.length).length fc),(92,.int .i64 ((Jh es set es.length).length:Int)),(93,.int .i64 (i:Int))])
  (λi w'=>i<=(Jh es set es.length).length/\Ext a5.drew w'/\OX 84 3 RtC NN w' dl (.slice W1 es.length W2) (Vw (List.replicate es.length pr0) (Jh es set es.length) t'.dual i)/\OX 84 3 RtC NN w' dk (.slice P1 n P2) (Yn (List.replicate n pr0) (Jw n set) t'.point)/\Blk w' D 86 [.slice W1 es.length W2,.slice P1 n P2,.bool q.neg,.slice Q1 (Jj q.num).length c1,.slice Q2 (Jj q.den).length c2]) (λi=>(Jh es set es.length).length-i) 0 sB ⟨Nat.zero_le _,ak,by rw[Jhw];exact bq,b6,aa⟩ ?_
 rintro i ao ⟨hi,a7,b4,bs,am⟩;refine ρ ?_;refine ci (λhc=>?_) (λhc=>?_)
 .have a1:i<(Jh es set es.length).length:=by have:=oT hc;omega
  clear hc;refine ρ ?_;refine ix i (dc.ext a7) a1 ?_;refine ρ ?_;refine ld ((dc.ext a7).cell (Qn a1)) ?_;refine ρ ?_;have cb:i<t'.dual.length:=om
  have ar:(Jh es set es.length).getD i 0<es.length:=Jbm (getD_mem' 0 _ a1);have a3:Ext ao ao.drew:=(Ext.refl ao).drew;have a6:=a7.trans a3;have cd:=b4.ext RtC.sta a3;have bi:es.length=(Vw (List.replicate es.length pr0) (Jh es set es.length) t'.dual i).length:=by rw[Jzh];simp
  obtain⟨ce,_,av,ca⟩:=eg i cb;have aw:=Jhv (l:=List.replicate es.length pr0) a1 cb;rw[show(Jh es set es.length)[i]=(Jh es set es.length).getD i 0 by simp[List.getD,List.getElem?_eq_getElem a1]]at aw;generalize t'.dual[i]=x at *
  obtain⟨F1,f1,F2,f2,rfl,e9⟩:=av.sl;refine dr [(0,0),(0,1),(0,2),(0,3),(0,4),(0,5),(0,6),(0,7),(0,8),(2,9)] kr ?_;refine ρd ?_;refine dld ((am.ext a3).at (i:=0) rfl) ?_;refine ρd ?_;refine dld ((ad.ext a6).at (i:=2) rfl) ?_;refine ρd ?_;refine Qp 3 i (ef.ext a6) cb ?_;refine ρd ?_;refine Qj (λj u F=>Xz a6 (ca j u F)) ?_;refine ρd ?_;obtain⟨_,eo⟩:=cd.rd bi;refine Qp 3 ((Jh es set es.length).getD i 0) eo ar ?_;refine ρd ?_;refine Jf ?_;refine stX RtC.sta cd bi (show(Jh es set es.length).getD i 0<_ by omega) (cs:=[.bool x.neg,.slice F1 _ f1,.slice F2 _ f2]) (a:=x) (RtC.sta.gr av (GrN.ext a6)) da (Qz rfl rfl rfl) ?_;intro dx bp ay;have c6:GrN (λk=>(Value.slice W1 es.length W2).ownBlock=some k) ao.drew dx:=GrN.by ay λk e=>e
  rw[<-aw]at bp;obtain⟨_,_,bd⟩:=cd.own;have d8:=(bs.ext RtC.sta a3).gr RtC.sta c6 λk e=>⟨da k e,λe'=>cw k e e'⟩;have dg:=(am.ext a3).grown ay λe=>(am.ext a3).ne_own bd kr e;refine ρ ?_;exact Jg (i+1) sO ⟨om,Jr a6 ay λk J=>by rw[hsz];exact c9 k J,bp,d8,dg⟩ om
 have ax:i=(Jh es set es.length).length:=by have:=oF hc;omega
 subst ax;clear hc hi;rw[Jzj cz.symm]at b4;have ae:=((de.ext (bc.trans bb)).ext (aj)).ext a7;refine ρ ?_;refine lds (cs:=[.slice W1 es.length W2,.slice P1 n P2,.bool q.neg,.slice Q1 (Jj q.num).length c1,.slice Q2 (Jj q.den).length c2]) (λj u F=>am.at F) ?_;refine ρ ?_;refine stb (cs':=[.slice W1 es.length W2,.slice P1 n P2,.bool q.neg,.slice Q1 (Jj q.num).length c1,.slice Q2 (Jj q.den).length c2]) ae ?_ (λu F=>by
  simp only[List.mem_cons,List.not_mem_nil,or_false]at F;rcases F with rfl|rfl|rfl|rfl|rfl<;>rfl)
 intro cm df bl cp;have ec:GrN (λk=>NN k∨k=b2) ao cm:=GrN.by bl λk e=>by injection e with e;exact .inr e.symm
 refine ρ ?_;have fa:=de.lt;have f5:w2.heap.size<=s:=by rw[<-hsz];exact((bc.trans bb).trans aj).size
 have ea:(Yn (List.replicate n pr0) (Jw n set) t'.point).length=n:=by rw[<-Jzj d1.symm,Jzh];simp
 have e7:(Yn (List.replicate es.length pr0) (Jh es set es.length) t'.dual).length=es.length:=by rw[<-Jzj cz.symm,Jzh];simp
 have e2:=(cv.ext (ai.trans a7)).box ae noC;have e1:=(cu.ext (ai.trans a7)).box ae noC;have g1:=Jkl (b4.gx (N':=Nn) RtC.sta om λk J=>J.elim) ae noC (λe=>by have:=c9 b2 e;omega);have g2:=Jkl (bs.gx (N':=Nn) RtC.sta om λk J=>J.elim) ae noC (λe=>by have:=c8 b2 e;omega);have a9:GrN (λk=>Nn k∨k=b2) ao cm:=GrN.by bl λk e=>by injection e with e;exact .inr e.symm
 subst eb;subst hq;exact Zz df ⟨_,_,_,_,rfl,(g1.gr RtC.sta (by decide) a9).old RtC.sta (by decide) λk J=>J.elim,(g2.gr RtC.sta (by decide) a9).old RtC.sta (by decide) λk J=>J.elim,(e2.gr a9).old λk J=>J.elim,(e1.gr a9).old λk J=>J.elim,cp w (bh.trans (aj.trans a7)) (nL c3.size ee)⟩
open Go.RowKit Pl Go.Wk Bl
variable {m n:Nat}{v vl x y:Value}{w:World}
theorem Jfc{fid:FuncId}{cap:Array Value}{ls:List PR}(Inv:Nat->World->Prop)(hx:∀ i w w',Inv i w->Ext w w'->Inv i w')(hl:∀ i w,Inv i w->GX 3 RtC Nn w vl ls)(step:∀ i (hi:i<ls.length) w v,Inv i w->RtX Nn w v ls[i]->Ret Tryz.prog fid ([.int .i64 (i:Int),v]++cap.toList) w λu w'=>Inv (i+1) w')(h0:Inv 0 w):
  Ret Tryz.prog 91 [vl,.func (.func fid) #[] cap] w λu w'=>Inv ls.length w':=by
 obtain⟨A,c,_,rfl,_,a7,_⟩:=id (hl 0 w h0).el;refine Jz Tryz.func91 Tryz.ntmps91 rfl kr rfl ?_;refine ρ ?_;refine Jl (fun (i:Nat)=>[(1,.func (.func fid) #[] cap),(6,.slice A ls.length c),(7,.int .i64 (ls.length:Int)),(8,.int .i64 (i:Int))]) (λi w'=>i<=ls.length/\Inv i w') (λi=>ls.length-i) 0 sB ⟨Nat.zero_le _,h0⟩ ?_;rintro i w1 ⟨hi,hI⟩;refine ρ ?_;refine ci (λF=>?_) (λF=>?_)
 .have D:i<ls.length:=by have:=oT F;omega
  clear F;obtain⟨A',c',_,ev,_,_,hr,_,he⟩:=id (hl i w1 hI).el;injection ev with ev1 _ ev3
  subst ev1;obtain⟨ce,_,U,a2⟩:=he i D;obtain⟨F1,f1,F2,f2,rfl,Z⟩:=U.sl;refine ρ ?_;refine ixq 3 i hr D ?_;refine ρ ?_;refine lds (λj u O=>a2 j u O) ?_;refine ρ ?_;refine alc Zo ?_;intro w2 b2 J a3 a6;refine ρ ?_;refine stb (cs':=[.bool ls[i].neg,.slice F1 _ f1,.slice F2 _ f2]) a6 ?_ (Qz rfl rfl rfl);intro w3 a5 a8 G;have y:Ext w1 w3:=G w1 J a3;refine ρ ?_;refine lds (cs:=[.bool ls[i].neg,.slice F1 _ f1,.slice F2 _ f2]) (λj u O=>a5.at O) ?_;refine ρ ?_;refine clv (step i D w3 _ (hx i _ _ hI y) (Z.ext y)) ?_;rintro u w4 a4;refine ρ ?_;exact Jg (i+1) sO ⟨om,a4⟩ om
 have a1:i=ls.length:=by have:=oF F;omega
 subst a1;refine ρ ?_;exact Ve hI
theorem Jpt(hv:NatV w v n)(hn:n<=2147483648): Ret Tryz.prog 57 [v] w λr w'=>r=.tuple #[.int .i64 (n:Int),.int .i64 0]/\w'=w:=by
 refine Jz Tryz.func57 Tryz.ntmps57 rfl kr rfl ?_;refine ρ ?_;refine cl (Jyr hv om) ?_;rintro _ w1 ⟨rfl,rfl⟩;refine ρ ?_;refine cf ?_ ?_
 .simp;omega
 refine ρ ?_;rw[Vf (z:=(n:Int)) om];exact Xx ⟨rfl,rfl⟩
theorem Qhk(hx:NatX Nn w x n)(hy:NatX Nn w y m)(hn:n<4294967296)(hm:m<4294967296)(h0:0<m): Ret Tryz.prog 95 [x,y] w λr w'=>NatX Nn w' r (Nat.gcd n m)/\Ext w w':=by
 have hl:∀ {k:Nat},k<4294967296->(Jj k).length<=1000:=fun {k} h=>by have:=Qm (n:=k) om;omega
 refine Jz Tryz.func95 Tryz.ntmps95 rfl kr rfl ?_;refine ρ ?_;refine Gb (fun (a b:Nat) (J vb:Value)=>[(0,J),(1,vb)]) (λa b J vb w'=>Ext w w'/\NatX Nn w' J a/\NatX Nn w' vb b/\a<4294967296/\b<4294967296/\Nat.gcd a b=Nat.gcd n m) (λ_ b _ _=>b) n m x y sB ⟨Ext.refl _,hx,hy,hn,hm,rfl⟩ ?_;rintro a b J vb w1 ⟨F,ha,U,Z,u,O⟩;refine ρ ?_;refine cl (Yv U.1 (hl u)) ?_;rintro _ w2 ⟨rfl,rfl⟩;refine ρ ?_;refine ci (λh=>?_) (λh=>?_)
 .have G:b≠0:=by rintro rfl;revert h;decide
  clear h;refine ρ ?_;refine cl (Ip ha.1 U.1 (hl Z) om u) ?_;rintro _ w3 ⟨⟨q,r,rfl,hq,hr⟩,D⟩;refine ρ ?_;exact Yk b (a % b) _ _ sO ⟨F.trans D,U.ext D,hr.old λk hk=>hk.elim,u,Nat.lt_of_lt_of_le (Nat.mod_lt _ om) om,by rw[<-O,Nat.gcd_comm a b,Nat.gcd_rec b a];exact Nat.gcd_comm _ _⟩ (Nat.mod_lt _ om)
 have G:b=0:=by
  rcases Nat.eq_zero_or_pos b with h1|h1
  .exact h1
  have:=(Gq (x:=b) om).1;simp at h;omega
 subst G;rw[Nat.gcd_zero_right]at O;subst O;refine ρ ?_;exact Jq ⟨ha,F⟩
end Go.Proofs.YtebiphhfkdbpfaaGreat
namespace Go.Wk
open Go.RowKit
variable {i:Nat}{x:Operand}{t:TypeId}{u v:Value}
section
variable {P:Program} {n:Nat} {al:AL} {w:World} {Q:Exit->Act->World->Prop} {ops:Array Oper} {rest:List Oper} {drest:List (Nat×Oper)} {d ty:Nat} {pos:String} {aft:Array Edge}
theorem fld(hb:∀ w,(Instr.field t v i).run P w=.ok u w)(kk:WL P n ops Q rest ((d,u)::al) w)(hx:ev al x=some v:=by rfl)(hd:Nat.blt d n=true:=by rfl):
  WL P n ops Q (⟨some d,.field t x i,ty,pos,aft,none⟩::rest) al w:=wop hd (λa y=>by simp[execOp,y.ev hx,hb]) kk
theorem dfld(hb:∀ w,(Instr.field t v i).run P w=.ok u w)(kk:WD P n ops Q drest ((d,u)::al) w)(hx:ev al x=some v:=by rfl)(hd:Nat.blt d n=true:=by rfl):
  WD P n ops Q ((0,⟨some d,.field t x i,ty,pos,aft,none⟩)::drest) al w:=dy (λw' _ a y=>by simp[execOp,y.ev hx,hb]) hd kk
end
end Go.Wk
namespace Go.Proofs.YtebiphhfkdbpfaaGreat
open Go.RowKit Pl Go.Wk Bl
attribute [local irreducible] WC WL QX WD WDB WP WN WG WH
variable {ws:List PR}{d i sc:Nat}{P1 Q1 Q2 SA:Option Addr}{v vW vd vl:Value}{w:World}
theorem fldD(b:Bool)(A B:Option Addr)(m c m' c':Nat)(w:World): (Instr.field 84 (.agg #[.bool b,.slice A m c,.slice B m' c']) 2).run Tryz.prog w=.ok (.slice B m' c') w:=kr
theorem fldN(b:Bool)(A B:Option Addr)(m c m' c':Nat)(w:World): (Instr.field 84 (.agg #[.bool b,.slice A m c,.slice B m' c']) 1).run Tryz.prog w=.ok (.slice A m c) w:=kr
theorem Qmp{b:Bool}{P2 P3 m1 c1 m2 c2:Nat}{sizes:List Nat}(hW:GX 3 RtC Nn w vW ws)(hS:Rd w 1 SA sizes.length (Jp (nz sizes)))(hl:sizes.length=ws.length)(hn:∀ q∈ws,0<=q.sign/\q.num<18446744073709551616):
  Ret Tryz.prog 55 [.agg #[vW,.slice P1 P2 P3,.bool b,.slice Q1 m1 c1,.slice Q2 m2 c2],.slice SA sizes.length sc] w λu w'=>u=.int .i64 0/\Ext w w':=by
 obtain⟨W1,W2,_,rfl,_,a6,a4,_,a5⟩:=id hW.el;refine Jz Tryz.func55 Tryz.ntmps55 rfl kr rfl ?_;refine ρ ?_;refine bx (cs:=[.slice W1 ws.length W2,.slice P1 P2 P3,.bool b,.slice Q1 m1 c1,.slice Q2 m2 c2]) ?_;intro w1 b1 Z a8 O;refine ρ ?_;refine ld (O.at (i:=0) rfl) ?_;refine ρ ?_;refine cf ?_ ?_
 .simp;omega
 refine ρ ?_;refine Jl (fun (i:Nat)=>[(2,.pointer (some ⟨b1,0,none⟩)),(13,.slice SA sizes.length sc),(14,.int .i64 (sizes.length:Int)),(15,.int .i64 (i:Int))]) (λi w'=>i<=sizes.length/\Ext w1 w') (λi=>sizes.length-i) 0 sB ⟨Nat.zero_le _,Ext.refl _⟩ ?_;rintro i w2 ⟨hi,D⟩;have y:=Z.trans D;refine ρ ?_;refine ci (λhc=>?_) (λhc=>?_)
 .have J:i<sizes.length:=by have:=oT hc;omega
  clear hc;have F:i<ws.length:=om
  obtain⟨ce,_,a1,a3⟩:=a5 i F;obtain⟨F1,f1,F2,f2,rfl,a2⟩:=a1.sl;obtain⟨a7,G⟩:=hn _ (List.getElem_mem F);refine ρ ?_;refine ix i (hS.ext y) J ?_;refine ρ ?_;refine ld ((hS.ext y).cell (Qn J)) ?_;refine ρ ?_;refine kf 22 ?_ ?_
  .simp
  refine ρ ?_;refine ld ((O.ext D).at (i:=0) rfl) ?_;refine ρ ?_;refine ixq 3 i (a4.ext y) F ?_;refine ρ ?_;refine lds (λj u hu=>Xz y (a3 j u hu)) ?_;refine ρ ?_;refine cl (Uw (a2.ext y) (by have:=Qm G;omega)) ?_;rintro _ w3 ⟨rfl,U⟩;refine ρ ?_;refine cf ?_ ?_
  .simp;omega
  refine ρ ?_;exact Jg (i+1) sO ⟨om,D.trans U⟩ om
 refine ρ ?_;exact Jq ⟨rfl,y⟩
def dnK(ws:List PR)(i:Nat): Nat:=dnm (ws.take i)
theorem Qhh(hi:i<ws.length): dnK ws (i+1)=dnK ws i / Nat.gcd (dnK ws i) ws[i].norm.den*ws[i].norm.den:=by
 unfold dnK dnm;rw[List.take_add_one,List.getElem?_eq_getElem hi,Option.toList_some,List.foldl_append];rfl
theorem Qhz{b:Nat}{q:PR}{i:Int}(hB:Blk w b 82 [vd])(hd:NatX (λk=>k=b) w vd d)(hq:RtX Nn w v q)(hd1:d<4294967296)(hqn:q.num<18446744073709551616)(hqd:q.den<4294967296)(h0:0<q.norm.den)(hqd':q.norm.den<4294967296):
  Ret Tryz.prog 92 [.int .i64 i,v,.pointer (some ⟨b,0,none⟩)] w λu w'=>∃ vd',Blk w' b 82 [vd']/\NatX (λk=>k=b) w' vd' (d / Nat.gcd d q.norm.den*q.norm.den)/\GrN (λk=>k=b) w w':=by
 obtain⟨A1,c1,A2,c2,rfl,a8,a7⟩:=hq.sl;refine Jz Tryz.func92 Tryz.ntmps92 rfl kr rfl ?_;refine ρ ?_;refine bx ?_;intro w1 b1 U ak ai;refine ρ ?_;refine lds (cs:=[.bool q.neg,.slice A1 _ c1,.slice A2 _ c2]) (λj u hu=>ai.at hu) ?_;refine ρ ?_;refine cl (Zh (N:=Nn) (q:=q) ⟨_,_,rfl,a8.ext U,a7.ext U⟩ hqn hqd) ?_;rintro r w2 ⟨hr,a4⟩;have aa:=hB.lt;obtain⟨R1,r1,R2,r2,rfl,a5,Z⟩:=hr.sl;obtain⟨_,_,er,a5,Z⟩:=hr;cases er
 have a2:=U.trans a4;have ae:0<Nat.gcd d q.norm.den:=Nat.gcd_pos_of_pos_right _ h0;have hl:∀ {k:Nat},k<4294967296->(Jj k).length<=1000:=fun {k} h=>by have:=Qm (n:=k) om;omega
 refine ρ ?_;refine fld (fldD _ _ _ _ _ _ _) ?_;have J:Ext w2 w2.drew:=(Ext.refl w2).drew;have y:=a2.trans J;refine ρ ?_;refine dr [(0,0),(0,1),(0,2),(1,3),(1,4),(0,5),(0,6),(0,7),(0,8),(0,9),(0,10),(0,11)] kr ?_;refine ρd ?_;refine dld ((hB.ext y).at (i:=0) rfl) ?_;refine ρd ?_;refine dld ((hB.ext y).at (i:=0) rfl) ?_;refine ρd ?_;refine dcl (Qhk ((hd.ext y).old λk hk=>hk.elim) ((Z.ext J).old λk hk=>hk.elim) hd1 hqd' h0) ?_;rintro g w3 ⟨hg,F⟩;refine⟨F,?_⟩;refine ρd ?_;refine dcl (Ip ((hd.ext y).ext F).1 hg.1 (hl hd1) ae (nN (Nat.gcd_le_right _ h0) hqd')) ?_;rintro _ w4 ⟨⟨qv,rv,rfl,a6,aj⟩,O⟩;refine⟨O,?_⟩;refine ρd ?_;have D:=y.trans (F.trans O);refine ρ ?_;refine cl (Vb a6.1 ((Z.ext J).ext (F.trans O)).1 (hl (nN (Nat.div_le_self _ _) hd1)) (hl hqd')) ?_;rintro mv w5 ⟨a3,af,a1⟩;have a9:NatX (Ol w4) w5 mv (d / Nat.gcd d q.norm.den*q.norm.den):=⟨a3,λ_ ad m c e hk=>by have:=af ad m c e;exact absurd (show ad.block<w4.heap.size from hk) om⟩
 obtain⟨M1,m1,rfl⟩:=a3.sl;refine ρ ?_;refine stF (i:=0) (hB.ext (D.trans a1)) rfl ?_;intro w6 ah ac;have G:GrN (λk=>k=b) w5 w6:=GrN.by ac λk e=>by injection e with e;exact e.symm
 refine ρ ?_;exact Ve ⟨_,ah,(a9.old λk hk=>.inl (show k<w4.heap.size by rw[hk];exact nM aa D.size)).gr G,(GrN.ext (D.trans a1)).trans G⟩
theorem Qhx(hl:GX 3 RtC Nn w vl ws)(hd:∀ i,i<=ws.length->dnK ws i<4294967296)(hq:∀ q∈ws,q.num<18446744073709551616/\q.den<4294967296/\0<q.norm.den/\q.norm.den<4294967296):
  Ret Tryz.prog 56 [vl] w λu w'=>NatX Nn w' u (dnm ws)/\Ext w w':=by
 obtain⟨A,c,_,rfl,_,a8,_⟩:=id hl.el;refine Jz Tryz.func56 Tryz.ntmps56 rfl kr rfl ?_;refine ρ ?_;refine cl (Xn 1 (by decide) _) ?_;rintro o w1 ⟨ho,a1⟩;obtain⟨O1,o1,rfl⟩:=ho.1.sl;refine ρ ?_;refine alc (z:=.slice none 0 0) kr ?_;intro w2 b a4 G a7;refine ρ ?_;refine stF (i:=0) a7 rfl ?_;intro w3 a6 a5;have D:Ext w1 w3:=Jr a4 a5 λk e=>by injection e with e;rw[<-e];exact G
 have F:=a1.trans D;have a2:w.heap.size<=b:=nL a1.size G;refine ρ ?_;refine cl (Jfc (λi w'=>Ext w w'/\GX 3 RtC (λk=>k=b) w' (.slice A ws.length c) ws/\∃ O,Blk w' b 82 [O]/\NatX (λk=>k=b) w' O (dnK ws i)) (λi v v' ⟨h1,Z,O,U,J⟩ hy=>⟨h1.trans hy,Z.ext RtC.sta (by decide) hy,O,U.ext hy,J.ext hy⟩) (λi v ⟨h1,Z,U⟩=>Z.old RtC.sta (by decide) λk y=>y.elim) (λi hi v u ⟨h1,Z,O,U,J⟩ hu=>?_) ⟨F,(hl.old RtC.sta (by decide) λk y=>.inr (by rw[y];exact a2)).ext RtC.sta (by decide) F,_,a6,?_⟩) ?_
 .obtain⟨e1,e2,e3,e4⟩:=hq _ (List.getElem_mem hi);refine(Qhz U J hu (hd i om) e1 e2 e3 e4).mono λr v' ⟨a3,g1,g2,g3⟩=>?_;rw[<-Qhh hi]at g2;exact⟨g3.old h1 λk y=>by rw[y];exact a2,Z.gr RtC.sta (by decide) g3,a3,g1,g2⟩
 .exact(ho.old λk y=>.inr (by rw[y];exact G)).ext D
 rintro u w4 ⟨h1,Z,O,U,J⟩;have e5:dnK ws ws.length=dnm ws:=by unfold dnK;rw[List.take_length]
 rw[e5]at J;obtain⟨D1,d1,rfl⟩:=J.1.sl;refine ρ ?_;refine ld (U.at (i:=0) rfl) ?_;refine ρ ?_;exact Jq ⟨J.old λk y=>False.elim y,h1⟩
open Go.RowKit Pl Go.Wk Bl
variable {K a n:Nat}{u v:Value}{w:World}
theorem Va(h:n<2^K)(hK:K<=30000): (Jj n).length<=1000:=by
 by_cases h0:n=0
 .subst h0;rw[limbs_0];decide
 have u:=Jkh h0;refine Nat.le_of_not_lt λy=>?_;have F:(4294967296:Nat)=2^32:=by decide
 rw[F,<-Nat.pow_mul]at u;have D:2^K<=2^(32*((Jj n).length-1)):=Nat.pow_le_pow_right (by decide) om;exact absurd (nM (nM h D) u) (Nat.lt_irrefl _)
theorem Jnj(h:n<2^K): Jv n<=K:=by
 by_cases h0:n=0
 .subst h0;exact Nat.zero_le _
 refine Nat.le_of_not_lt λu=>?_;have D:=(Gq h0).2;have y:2^K<=2^(Jv n-1):=Nat.pow_le_pow_right (by decide) om;exact absurd (nM (nM h y) D) (Nat.lt_irrefl _)
theorem Qnq: ∀ q:Nat,q<=400->(bits .and .i64 (q:Int) 1 == 1)=decide (q % 2=1):=by decide +kernel
theorem Qvt(hv:NatV w v a)(hn:n<=400)(ha:a<4294967296)(hb:a^n<2^K)(hK:K<=30000): Ret Tryz.prog 134 [v,.int .i64 (n:Int)] w λr w'=>(∃ u,r=.tuple #[u,.int .i64 0]/\NatX (Ol w) w' u (a^n))/\Ext w w':=by
 have la:(Jj a).length<=1000:=by have:=Qm (n:=a) om;omega
 refine Jz Tryz.func134 Tryz.ntmps134 rfl kr rfl ?_;refine ρ ?_;refine cl (Zt hv) ?_;rintro v' w' ⟨⟨A,rfl,hA⟩,rfl⟩;have a1:NatV w' (.slice A (Jj a).length (Jj a).length) a:=⟨A,_,rfl,Nat.le_refl _,om,hA⟩;refine ρ ?_;refine cl (Yv a1 la) ?_;rintro _ w1 ⟨rfl,rfl⟩;refine ρ ?_;by_cases hn0:n=0
 .subst hn0;refine kt 17 ?_ ?_
  .rfl
  refine ρ ?_;refine cl (Xn 1 (by decide) _) ?_;rintro o w2 ⟨ho,F⟩;refine ρ ?_;exact Xx ⟨⟨_,rfl,by rw[Nat.pow_zero];exact ho⟩,F⟩
 refine kf 17 ?_ ?_
 .exact beq_eq_false_iff_ne.2 om
 refine ρ ?_;refine ci (λy=>?_) (λy=>?_)
 .have h1:Jv a=1:=by have:=eq_of_beq y;omega
  have U:a=1:=by
   have h2:=Yt (x:=a);rw[h1]at h2;have:a≠0:=by rintro rfl;revert h1;decide
   omega
  subst U;refine ρ ?_;refine cl (Xn 1 (by decide) _) ?_;rintro o w2 ⟨ho,F⟩;refine ρ ?_;exact Xx ⟨⟨_,rfl,by rw[Nat.one_pow];exact ho⟩,F⟩
 have a9:Jv a≠1:=λe=>by rw[e]at y;revert y;decide
 clear y;refine ρ ?_;refine ci (λy=>?_) (λy=>?_)
 .have h1:Jv a=0:=by have:=eq_of_beq y;omega
  have a6:a=0:=by
   have h2:=Yt (x:=a);rw[h1]at h2;omega
  subst a6;refine ρ ?_;refine Xx ⟨⟨_,rfl,?_⟩,Ext.refl _⟩;rw[Nat.zero_pow om];exact⟨NatV.nil _,λh=>absurd rfl h⟩
 have aa:Jv a≠0:=λe=>by rw[e]at y;revert y;decide
 clear y;have am:2<=a:=by
  have a6:a≠0:=by rintro rfl;exact aa (by decide)
  have U:a≠1:=by rintro rfl;exact a9 (by decide)
  omega
 have aj:Jv a<=32:=Yb om;have ak:(Jv a-1)*n<65536:=nN (Nat.mul_le_mul (show Jv a-1<=31 by omega) hn) (by decide);refine ρ ?_;refine kf 26 ?_ ?_
 .exact dF om
 refine ρ ?_;refine kf 30 ?_ ?_
 .exact dF om
 refine ρ ?_;have a4:((Jv a:Int)-1)*(n:Int)=(((Jv a-1)*n:Nat):Int):=by
  rw[Int.natCast_mul,Int.natCast_sub om];rfl
 refine cf ?_ ?_
 .rw[a4,Vf om];exact dF om
 have U:0<a:=om
 have O:∀ k,k<=n->(Jj (a^k)).length<=1000:=λk hk=>Va (nN (Nat.pow_le_pow_right U hk) hb) hK;refine ρ ?_;refine cl (Xn 1 (by decide) _) ?_;rintro o w2 ⟨ho,F⟩;refine ρ ?_;rw[Yh (z:=(n:Int)) om];refine cl (Jcx n om _) ?_;rintro _ w3 ⟨rfl,rfl⟩;have hL:Jv n<=9:=Yb om;refine ρ ?_;refine Qd (fun (t:Nat) (ov:Value)=>[(0,.slice A (Jj a).length (Jj a).length),(1,.int .i64 (n:Int)),(7,ov),(8,.int .i64 ((t:Int)-1))])
  (λt ov w'=>t<=9/\NatX (Ol w1) w' ov (a^(n / 2^t))/\Ext w1 w') (λt _=>t) (Jv n) o sB ⟨hL,by rw[Nat.div_eq_of_lt Yt];exact ho,F⟩ ?_
 rintro t ov w4 ⟨ht,G,D⟩;have a3:n / 2^t<=n:=Nat.div_le_self _ _;refine ρ ?_;refine ci (λy=>?_) (λy=>?_)
 .obtain⟨t,rfl⟩:∃ s,t=s+1:=⟨t-1,by have:=oT y;omega⟩;clear y;rw[show((t+1:Nat):Int)-1=(t:Int) by omega];have hd:n / 2^t=2*(n / 2^(t+1))+n / 2^t % 2:=by rw[Nat.pow_succ,<-Nat.div_div_eq_div_mul];omega
  have af:n / 2^t<=n:=Nat.div_le_self _ _;refine ρ ?_;refine cl (Vb G.1 G.1 (O _ a3) (O _ a3)) ?_;rintro o5 w5 ⟨Z,ae,J⟩;have ai:=D.size;rw[<-Nat.pow_add]at Z;have a7:NatX (Ol w1) w5 o5 (a^(n / 2^(t+1)+n / 2^(t+1))):=⟨Z,λ_ ad m c e hk=>by have:=ae ad m c e;exact absurd (show ad.block<w1.heap.size from hk) om⟩;refine ρ ?_;refine Zs rfl rfl om rfl ?_;have es:((n:Int)).fdiv (2^min ((t:Nat):Int).toNat IntKind.i64.bits)=((n / 2^t:Nat):Int):=by rw[Gg n t IntKind.i64.bits,Nat.min_eq_left (by show t<=64;omega)]
  refine Go.Wk.kv 51 (u:=.int .i64 ((n / 2^t:Nat):Int)) (congrArg (Value.int .i64) es) ?_;have a5:=Qnq (n / 2^t) om;refine ρ ?_;refine ci (λy=>?_) (λy=>?_)
  .have h1:n / 2^t % 2=1:=by rw[a5]at y;exact oT y
   refine ρ ?_;refine cl (Vb Z (a1.ext (D.trans J)) (O _ om) la) ?_;rintro o6 w6 ⟨a2,ac,a8⟩;have ah:=J.size;rw[<-Nat.pow_succ,show(n / 2^(t+1)+n / 2^(t+1)).succ=n / 2^t by omega]at a2;refine ρ ?_;exact Qv t o6 sB ⟨om,⟨a2,λ_ ad m c e hk=>by have:=ac ad m c e;exact absurd (show ad.block<w1.heap.size from hk) om⟩,(D.trans J).trans a8⟩ om
  have h1:n / 2^t % 2=0:=by
   rw[a5]at y;have:=oF y;omega
  rw[show n / 2^(t+1)+n / 2^(t+1)=n / 2^t by omega]at a7;refine ρ ?_;exact Qv t o5 sB ⟨om,a7,D.trans J⟩ om
 have h0:t=0:=by have:=oF y;omega
 clear y;subst h0;rw[Nat.pow_zero,Nat.div_one]at G;refine ρ ?_;refine cl (Yv G.1 (O n (nR _))) ?_;rintro _ w5 ⟨rfl,rfl⟩;have hl:Jv (a^n)<=K:=Jnj hb;refine ρ ?_;refine cf ?_ ?_
 .exact dF om
 refine ρ ?_;exact Xx ⟨⟨_,rfl,G⟩,D⟩
theorem Qvr(hv:NatV w v a)(hu:NatV w u n)(hn:n<=400)(ha:a<4294967296)(hb:a^n<2^K)(hK:K<=30000): Ret Tryz.prog 101 [v,u] w λr w'=>(∃ u,r=.tuple #[u,.int .i64 0]/\NatX (Ol w) w' u (a^n))/\Ext w w':=by
 refine Jz Tryz.func101 Tryz.ntmps101 rfl kr rfl ?_;refine ρ ?_;refine cl (Jpt hu om) ?_;rintro _ w1 ⟨rfl,rfl⟩;refine ρ ?_;refine cl (Qvt hv hn ha hb hK) ?_;rintro _ w2 ⟨⟨r,rfl,D⟩,y⟩;refine ρ ?_;exact Xx ⟨⟨_,rfl,D⟩,y⟩
open Go.RowKit Pl Go.Wk Bl
variable {sizes:List Nat}{ws:List PR}{K d i sc:Nat}{SA:Option Addr}{v vd vl vr:Value}{w:World}
def Kk(q:PR)(d:Nat): Nat:=(PR.norm (PR.mul q (PR.norm ⟨false,d,0⟩))).num
def prK(ws:List PR)(sizes:List Nat)(d i:Nat): Nat:=Gt (ws.take i) (sizes.take i) d
theorem Qvq(hi:i<ws.length)(hs:i<sizes.length): prK ws sizes d (i+1)=prK ws sizes d i*sizes[i]^Kk ws[i] d:=by
 unfold prK Gt;rw[List.take_add_one,List.take_add_one,List.getElem?_eq_getElem hi,List.getElem?_eq_getElem hs,Option.toList_some,Option.toList_some,List.zip_append (by simp;omega),List.foldl_append];rfl
structure EOk(q:PR)(d:Nat): Prop where
 d64:d<18446744073709551616
 h1:q.num<4294967296
 h2:q.den<4294967296
 h3:(PR.norm ⟨false,d,0⟩).num<4294967296
 h4:(PR.norm ⟨false,d,0⟩).den<4294967296
 h5:q.norm.den*(PR.norm ⟨false,d,0⟩).norm.den<4294967296
 m1:(PR.mul q (PR.norm ⟨false,d,0⟩)).num<18446744073709551616
 m2:(PR.mul q (PR.norm ⟨false,d,0⟩)).den<4294967296
 e:Kk q d<=400
structure PrOk(ws:List PR)(sizes:List Nat)(d K:Nat): Prop where
 k:K<=30000
 len:sizes.length=ws.length
 q:∀ q∈ws,EOk q d
 s:∀ s∈sizes,s<4294967296
 p:∀ i,i<=ws.length->prK ws sizes d i<2^K
 f:∀ i (h1:i<ws.length) (h2:i<sizes.length),sizes[i]^Kk ws[i] d<2^K
theorem Qvn{b1 b2 b3 b4 r:Nat}{q:PR}(hF:Blk w b1 38 [.int .i64 0])(hD:Blk w b2 82 [vd])(hS:Blk w b3 28 [.slice SA sizes.length sc])(hR:Blk w b4 82 [vr])(hd:NatX (λk=>k=b4) w vd d)(hr:NatX (λk=>k=b4) w vr r)(hs:Rd w 1 SA sizes.length (Jp (nz sizes)))(hq:RtX Nn w v q)(hi:i<sizes.length)(he:EOk q d)(hs32:sizes[i]<4294967296)(hrK:r<2^K)(hfK:sizes[i]^Kk q d<2^K)(hK:K<=30000):
  Ret Tryz.prog 98 [.int .i64 (i:Int),v,.pointer (some ⟨b1,0,none⟩),.pointer (some ⟨b2,0,none⟩),.pointer (some ⟨b3,0,none⟩),.pointer (some ⟨b4,0,none⟩)] w λu w'=>∃ vr',Blk w' b4 82 [vr']/\NatX (λk=>k=b4) w' vr' (r*sizes[i]^Kk q d)/\GrN (λk=>k=b4) w w':=by
 obtain⟨A1,c1,A2,c2,rfl,ac,aa⟩:=hq.sl;refine Jz Tryz.func98 Tryz.ntmps98 rfl kr rfl ?_;refine ρ ?_;refine bx ?_;intro w1 bq a3 aq an;refine ρ ?_;refine ld ((hF.ext a3).at (i:=0) rfl) ?_;have O:Ext w1 w1.drew:=(Ext.refl w1).drew;have y:=a3.trans O;have aj:=hR.lt;have a5:NatX Nn w vd d:=hd.old λk hk=>False.elim hk;obtain⟨D1,d1,rfl⟩:=a5.1.sl;refine ρ ?_;refine dr [(0,0),(0,1),(1,2),(1,3),(1,4),(0,5),(0,6)] kr ?_;refine ρd ?_;refine Qj (cs:=[.bool q.neg,.slice A1 (Jj q.num).length c1,.slice A2 (Jj q.den).length c2]) (λj u hu=>(an.ext O).at hu) ?_;refine ρd ?_;refine dld ((hD.ext y).at (i:=0) rfl) ?_;refine ρd ?_;refine dcl (Qwx (a5.ext y).1 he.d64) ?_;rintro x1 w2 ⟨a7,G⟩;refine⟨G,?_⟩;obtain⟨B1,e1,B2,e2,rfl,aw,av⟩:=a7.sl;refine ρd ?_;refine dcl (Jyh (N:=Nn) (p:=q) ⟨_,_,rfl,(ac.ext y).ext G,(aa.ext y).ext G⟩ a7 he.h1 he.h2 he.h3 he.h4 he.h5) ?_
 rintro x2 w3 ⟨a6,a2⟩;refine⟨a2,?_⟩;obtain⟨C1,f1,C2,f2,rfl,au,ar⟩:=a6.sl;refine ρd ?_;refine dcl (Zh a6 he.m1 he.m2) ?_;rintro x3 w4 ⟨ak,a1⟩;refine⟨a1,?_⟩;obtain⟨E1,g1,E2,g2,rfl,am,ax⟩:=ak.sl;refine ρd ?_;refine dfld (fldN _ _ _ _ _ _ _) ?_;refine ρd ?_;have F:=y.trans (G.trans (a2.trans a1));refine ρ ?_;refine ld ((hS.ext F).at (i:=0) rfl) ?_;refine ρ ?_;refine ix i (hs.ext F) hi ?_;refine ρ ?_;refine ld ((hs.ext F).cell (Qn hi)) ?_;have ap:sizes.getD i 0=sizes[i]:=by simp[List.getD,List.getElem?_eq_getElem hi]
 rw[ap];refine ρ ?_;rw[Yh (z:=(sizes[i]:Int)) om];refine cl (Xn sizes[i] om _) ?_;rintro sv w5 ⟨a9,Z⟩;refine ρ ?_;refine cl (Qvr a9.1 (am.ext Z).1 he.e hs32 hfK hK) ?_;rintro _ w6 ⟨⟨pv,rfl,ae⟩,a8⟩;have D:=F.trans (Z.trans a8);refine ρ ?_;refine ld ((hR.ext D).at (i:=0) rfl) ?_;refine ρ ?_;refine cl (Vb (hr.ext D).1 ae.1 (Va hrK hK) (Va hfK hK)) ?_;rintro mv w7 ⟨a4,ai,U⟩;have af:NatX (Ol w6) w7 mv (r*sizes[i]^Kk q d):=⟨a4,λ_ ad m c e hk=>by have:=ai ad m c e;exact absurd (show ad.block<w6.heap.size from hk) om⟩;obtain⟨M1,m1,rfl⟩:=a4.sl;refine ρ ?_;refine stF (i:=0) (hR.ext (D.trans U)) rfl ?_;intro w8 ao ah;have J:GrN (λk=>k=b4) w7 w8:=GrN.by ah λk e=>by injection e with e;exact e.symm
 refine ρ ?_;exact Ve ⟨_,ao,(af.old λk hk=>.inl (show k<w6.heap.size by rw[hk];exact nM aj D.size)).gr J,(GrN.ext (D.trans U)).trans J⟩
theorem Qvl(hl:GX 3 RtC Nn w vl ws)(hd:NatX Nn w vd d)(hs:Rd w 1 SA sizes.length (Jp (nz sizes)))(ho:PrOk ws sizes d K):
  Ret Tryz.prog 58 [vl,.slice SA sizes.length sc,vd] w λu w'=>(∃ v,u=.tuple #[v,.int .i64 0]/\NatX Nn w' v (Gt ws sizes d))/\Ext w w':=by
 obtain⟨A,c,_,rfl,_,ao,_⟩:=id hl.el;obtain⟨D1,d1,rfl⟩:=hd.1.sl;refine Jz Tryz.func58 Tryz.ntmps58 rfl kr rfl ?_;refine ρ ?_;refine bx (cs:=[.slice SA sizes.length sc]) ?_;intro w1 b4 a6 aw ai;refine ρ ?_;refine bx (cs:=[.slice D1 _ d1]) ?_;intro w2 b5 a1 av ah;refine ρ ?_;refine cl (Xn 1 (by decide) _) ?_;rintro o w3 ⟨a9,G⟩;obtain⟨O1,o1,rfl⟩:=a9.1.sl;refine ρ ?_;refine alc (z:=.slice none 0 0) kr ?_;intro w4 b8 a4 am af;refine ρ ?_;refine alc (z:=.int .i64 0) kr ?_;intro w5 b9 a3 au an;have ap:=af.lt;have ar:=ai.lt;have aq:=ah.lt;have z2:=a1.size;have z3:=G.size;have z4:=a4.size;have z1:=a6.size;refine ρ ?_;refine stF (i:=0) (af.ext a3) rfl ?_;intro w6 ae ak;have Z:GrN (λk=>k=b8) w5 w6:=GrN.by ak λk e=>by injection e with e;exact e.symm
 have ac:=Ja an Z om;refine ρ ?_;refine stF (i:=0) ac rfl ?_;intro w7 aa aj;have U:GrN (λk=>k=b9) w6 w7:=GrN.by aj λk e=>by injection e with e;exact e.symm
 have ad:=Ja ae U om;have a5:Ext w3 w6:=Z.old (a4.trans a3) λk e=>by omega
 have y:Ext w3 w7:=U.old a5 λk e=>by omega
 have a7:=a6.trans (a1.trans G);have D:=a7.trans y;have a2:w.heap.size<=b8:=om
 have a8:NatX (λk=>k=b8) w7 (.slice O1 (Jj 1).length o1) 1:=(a9.old λk F=>.inr (by rw[F];exact am)).ext y;refine ρ ?_;refine cl (Jfc (λi w'=>Ext w w'/\GX 3 RtC (λk=>k=b8) w' (.slice A ws.length c) ws/\Blk w' b9 38 [.int .i64 0]/\Blk w' b5 82 [.slice D1 (Jj d).length d1]/\Blk w' b4 28 [.slice SA sizes.length sc]/\NatX (λk=>k=b8) w' (.slice D1 (Jj d).length d1) d/\∃ vr,Blk w' b8 82 [vr]/\NatX (λk=>k=b8) w' vr (prK ws sizes d i)) (λi v v' ⟨h1,h2,h3,h4,h5,h6,vr,h7,h8⟩ O=>⟨h1.trans O,h2.ext RtC.sta (by decide) O,h3.ext O,h4.ext O,h5.ext O,h6.ext O,vr,h7.ext O,h8.ext O⟩) (λi v ⟨h1,h2,h3⟩=>h2.old RtC.sta (by decide) λk F=>False.elim F) (λi hi v u ⟨h1,h2,h3,h4,h5,h6,vr,h7,h8⟩ hu=>?_)
  ⟨D,(hl.old RtC.sta (by decide) λk F=>.inr (by rw[F];exact a2)).ext RtC.sta (by decide) D,aa,(ah.ext G).ext y,((ai.ext a1).ext G).ext y,(hd.old λk F=>.inr (by rw[F];exact a2)).ext D,_,ad,a8⟩) ?_
 .have J:i<sizes.length:=by rw[ho.len];exact hi
  refine(Qvn h3 h4 h5 h7 h6 h8 (hs.ext h1) hu J (ho.q _ (List.getElem_mem hi)) (ho.s _ (List.getElem_mem J)) (ho.p i om) (ho.f i hi J) ho.k).mono λr v' ⟨vr',g1,g2,g3⟩=>?_;rw[<-Qvq hi J]at g2;exact⟨g3.old h1 λk F=>by rw[F];exact a2,h2.gr RtC.sta (by decide) g3,Ja h3 g3 om,Ja h4 g3 om,Ja h5 g3 om,h6.gr g3,vr',g1,g2⟩
 rintro u w8 ⟨h1,h2,h3,h4,h5,h6,vr,h7,h8⟩;have e5:prK ws sizes d ws.length=Gt ws sizes d:=by unfold prK;rw[List.take_length,<-ho.len,List.take_length]
 rw[e5]at h8;obtain⟨V1,v1,rfl⟩:=h8.1.sl;refine ρ ?_;refine ld (h3.at (i:=0) rfl) ?_;refine ρ ?_;refine ld (h7.at (i:=0) rfl) ?_;refine ρ ?_;exact Xx ⟨⟨_,rfl,h8.old λk F=>False.elim F⟩,h1⟩
end Go.Proofs.YtebiphhfkdbpfaaGreat
namespace Go.Wk
open Go.RowKit
variable {d n ty v:Nat}
theorem sl32q{P:Program}{al:AL}{w:World}{Q:Exit->Act->World->Prop}{ops:Array Oper}{rest:List Oper}{pos:String}{aft:Array Edge}{y:Operand}{t yt:TypeId}{k2:IntKind}(hv:v<32)(kk:WL P n ops Q rest ((d,.int .u32 ((2^v:Nat):Int))::al) w)(hy:ev al y=some (.int k2 (v:Int)):=by rfl)(hd:Nat.blt d n=true:=by rfl):
  WL P n ops Q (⟨some d,.binOp .shl t (.const (.int .u32 1)) y yt,ty,pos,aft,none⟩::rest) al w:=by
 rw[<-Qzs hv]at kk;exact wop hd (λa u=>Jgr (x:=.const (.int .u32 1)) rfl hy om u (some d) w) kk
end Go.Wk
namespace Go.Proofs.YtebiphhfkdbpfaaGreat
open Go.RowKit Pl Go.Wk Bl
attribute [local irreducible] WC WL QX WD WDB WP WN WG WH
theorem Jng: ∀(q r:Nat),r<32->Jj (2^(32*q+r))=List.replicate q 0++[UInt32.ofNat (2^r)]
 | 0,r,hr=>by
  have h1:2^r<4294967296:=nM (Nat.pow_lt_pow_right (by decide) hr) (by decide);rw[Nat.mul_zero,Nat.zero_add,Jnb (Nat.pos_iff_ne_zero.1 (Nat.two_pow_pos r)) h1];rfl
 | q+1,r,hr=>by
  have e:2^(32*(q+1)+r)=4294967296*2^(32*q+r):=by
   rw[show 32*(q+1)+r=32+(32*q+r) by omega,Nat.pow_add]
  have ih:=Jng q r hr;have h0:=Nat.two_pow_pos (32*q+r);rw[e];have:=Jnf (c:=0) (m:=2^(32*q+r)) (by show 0+4294967296*_≠0;omega);rw[show(0:UInt32).toNat+4294967296*2^(32*q+r)=4294967296*2^(32*q+r) by show 0+_=_;omega]at this;rw[this,ih];rfl
theorem Qnp{i:Nat}(hi:i<=31000)(w:World): Ret Tryz.prog 106 [.int .i64 (i:Int)] w λu w'=>NatV w' u (2^i)/\Ext w w':=by
 refine Jz Tryz.func106 Tryz.ntmps106 rfl kr rfl ?_;have eq:IntKind.i64.wrap ((i:Int).tdiv 32)=((i / 32:Nat):Int):=by
  rw[show(i:Int).tdiv 32=((i / 32:Nat):Int) from rfl,Vf om]
 have er:(i:Int).tmod 32=((i % 32:Nat):Int):=rfl;refine ρ ?_;refine Jjr rfl rfl (by decide) rfl ?_;rw[eq];refine ρ ?_;refine mkn EN (i / 32+1) om (by unfold maxLen;omega) ?_;intro w1 O J a1 hO;have y:Xd w1 w.heap.size (.slice O (i / 32+1) (i / 32+1)) (List.replicate (i / 32+1) 0):=by
  have e:(madeCells (Value.int .u32 0).cells ((i / 32+1)*1)).toList=Nc (List.replicate (i / 32+1) 0):=by rw[Nat.mul_one,<-Jwq];exact Yr _ _
  grind
 refine ρ ?_;refine Jjr rfl rfl (by decide) rfl ?_;rw[eq];refine ρ ?_;refine Kl rfl rfl (by decide) rfl ?_;rw[er];refine sl32q (v:=i % 32) (Nat.mod_lt _ (by decide)) ?_;refine ρ ?_;rw[Xd,List.length_replicate]at y;refine ix (i / 32) (Rd.own y) om ?_;refine ρ ?_;obtain⟨s1,s2,G,Z,s5⟩:=Zl y (q:=i / 32) om (.int .u32 ((UInt32.ofNat (2^(i % 32))).toNat:Int));have hp:2^(i % 32)<4294967296:=nM (Nat.pow_lt_pow_right (by decide) (Nat.mod_lt i (by decide:32 > 0))) (by decide);have ep:((UInt32.ofNat (2^(i % 32))).toNat:Int)=((2^(i % 32):Nat):Int):=by rw[UInt32.toNat_ofNat',Nat.mod_eq_of_lt (show 2^(i % 32)<2^32 from hp)]
 refine Go.Wk.kv 13 (u:=.int .u32 ((UInt32.ofNat (2^(i % 32))).toNat:Int)) (congrArg (Value.int .u32) ep.symm) ?_;refine sto (s1.trans (Xk (by simp))) s2 ?_;rw[Kd]at G;have F:Jj (2^i)=(List.replicate (i / 32+1) 0).set (i / 32) (UInt32.ofNat (2^(i % 32))):=by
  have U:=Jng (i / 32) (i % 32) (Nat.mod_lt _ (by decide));rw[Nat.div_add_mod]at U;rw[U,List.replicate_succ',List.set_append_right _ _ (by simp)];simp
 have D:(Jj (2^i)).length=i / 32+1:=by rw[F];simp
 rw[<-F,<-D]at G;refine ρ ?_;refine Jq ⟨⟨O,i / 32+1,by rw[D],om,om,?_⟩,J.setCell Z _⟩;rw[<-D]at *;exact Rd.own G
open Go.RowKit Pl Go.Wk Bl Nw
def DivC(K:Nat): Prop:=∀ {v u:Value} {a b:Nat} {w:World},NatV w v a->NatV w u b->a<2^K->b<2^K->0<b->Ret Tryz.prog 94 [v,u] w λr w'=>(∃ x y,r=.tuple #[x,y,.int .i64 0]/\NatX (Ol w) w' x (a / b)/\NatX (Ol w) w' y (a % b))/\Ext w w'
theorem Qhn: DivC 32:=λu y F D h0=>Ip u y (Va F (by decide)) h0 D
theorem Qcd{v:Value}{p n K:Nat}{w:World}(hv:NatV w v p)(hn:2<=n)(hn64:n<=64)(hp:1<p)(hK:K<=29000)(hK6:7<=K)(hpK:p<2^K)(hx0:(2^((Jv p+n-1) / n))^(n-1)<2^K)(hdiv:DivC K): Ret Tryz.prog 104 [v,.int .i64 (n:Int)] w λu w'=>(∃ r,NatV w' u r/\Jxl p n r)/\Ext w w':=by
 have ay:Jv p<=K:=Jnj hpK;have b8:1<=Jv p:=(Gq (x:=p) om).1;have bf:(Jv p+n-1) / n<=K:=by
  refine nL (Nat.div_le_of_le_mul (m:=Jv p+n-1) (k:=n) (n:=Jv p) ?_) ay;obtain⟨l,hl⟩:∃ l,Jv p=l+1:=⟨Jv p-1,om⟩;rw[hl,Nat.mul_succ];have:l<=n*l:=Nat.le_mul_of_pos_left l om;omega
 have an:p<(2^((Jv p+n-1) / n))^n:=by
  refine nM Yt ?_;rw[<-Nat.pow_mul];refine Nat.pow_le_pow_right (by decide) ?_;have:=Nat.div_add_mod (Jv p+n-1) n;have h2:=Nat.mod_lt (Jv p+n-1) (show n > 0 by omega);rw[Nat.mul_comm];omega
 generalize U:(Jv p+n-1) / n=c at *
 refine Jz Tryz.func104 Tryz.ntmps104 rfl kr rfl ?_;refine ρ ?_;refine cl (Yv hv (Va hpK om)) ?_;rintro _ w1 ⟨rfl,rfl⟩;have eq:IntKind.i64.wrap (((Jv p:Int)+(n:Int)-1).tdiv (n:Int))=(c:Int):=by
  rw[show(Jv p:Int)+(n:Int)-1=((Jv p+n-1:Nat):Int) by omega,show(((Jv p+n-1:Nat):Int)).tdiv (n:Int)=(((Jv p+n-1) / n:Nat):Int) from rfl,U,Vf om]
 refine ρ ?_;refine Jjr rfl rfl om rfl ?_;rw[eq];refine ρ ?_;refine cl (Qnp (i:=c) om _) ?_;rintro x0 w2 ⟨b4,am⟩;have be:=Va hpK om;refine ρ ?_;refine Qd (fun (x:Nat) (xv:Value)=>[(0,v),(1,.int .i64 (n:Int)),(5,xv)]) (λx xv w'=>Ext w1 w'/\NatV w' xv x/\0<x/\x<=2^c/\p<(x+1)^n) (λx _=>x) (2^c) x0 sB ⟨am,b4,Nat.two_pow_pos c,Nat.le_refl _,Nat.lt_of_lt_of_le an (Nat.pow_le_pow_left (Nat.le_succ _) n)⟩ ?_;rintro x xv w3 ⟨ak,hX,Z,ai,au⟩;have a5:∀ k,k<=n-1->x^k<2^K:=λk hk=>nN (nL (Nat.pow_le_pow_left ai k) (Nat.pow_le_pow_right (Nat.two_pow_pos c) hk)) hx0;have a7:x<2^K:=by have:=a5 1 om;rwa [Nat.pow_one]at this
 have ae:=Va a7 om;refine ρ ?_;refine cl (Xn 1 (by decide) _) ?_;rintro o w4 ⟨ho,a2⟩;have a9:=ak.trans a2;have ac:((n:Int)-1)=((n-1:Nat):Int):=om
 refine ρ ?_;rw[ac];refine Qd (fun (i:Nat) (bv:Value)=>[(0,v),(1,.int .i64 (n:Int)),(5,xv),(6,bv),(24,.int .i64 ((n-1:Nat):Int)),(25,.int .i64 (i:Int))]) (λi bv w'=>i<=n-1/\Ext w4 w'/\NatV w' bv (x^i)) (λi _=>n-1-i) 0 o sB ⟨Nat.zero_le _,Ext.refl _,by rw[Nat.pow_zero];exact ho.1⟩ ?_;rintro i bv w5 ⟨hi,G,hb⟩;refine ρ ?_;refine ci (λU=>?_) (λU=>?_)
 .have af:i<n-1:=by have:=oT U;omega
  clear U;refine ρ ?_;refine cl (Vb hb (hX.ext (a2.trans G)) (Va (a5 i hi) om) ae) ?_;rintro b6 w6 ⟨ah,_,D⟩;rw[<-Nat.pow_succ]at ah;refine ρ ?_;exact Qv (i+1) b6 sO ⟨om,G.trans D,ah⟩ om
 have b2:i=n-1:=by have:=oF U;omega
 subst b2;clear U hi;have J:=a9.trans G;refine ρ ?_;refine cl (hdiv (hv.ext J) hb hpK (a5 _ (nR _)) (Nat.pow_pos Z)) ?_;rintro _ w6 ⟨⟨qv,rv,rfl,hq,hr⟩,D⟩;have bg:n-1<64:=om
 have aq:(n-1)*x<2^(K+6):=by
  rw[Nat.pow_add,Nat.mul_comm];exact nN (Nat.mul_le_mul_left x (show n-1<=2^6 by omega)) (Nat.mul_lt_mul_of_pos_right a7 (by decide))
 have ar:p / x^(n-1)<2^K:=nN (Nat.div_le_self _ _) hpK;have ap:(n-1)*x+p / x^(n-1)<2^(K+7):=by
  have:2^(K+7)=2^(K+6)+2^(K+6):=by rw[show K+7=K+6+1 by omega,Nat.pow_succ];omega
  have h2:2^K<=2^(K+6):=Nat.pow_le_pow_right (by decide) om;omega
 refine ρ ?_;rw[ac,Yh (z:=((n-1:Nat):Int)) om];refine cl (Xn (n-1) om _) ?_;rintro m7 w7 ⟨ax,a1⟩;have b5:=J.trans (D.trans a1);refine ρ ?_;refine cl (Vb ax.1 (hX.ext (a2.trans (G.trans (D.trans a1)))) (by have:=Qm (n:=n-1) om;omega) ae) ?_;rintro m8 w8 ⟨aw,_,a8⟩;refine ρ ?_;refine cl (Qcj aw ((hq.ext a1).ext a8).1 (Va aq om) (Va ar om)) ?_;rintro m9 w9 ⟨av,aj⟩;refine ρ ?_;rw[Yh (z:=(n:Int)) om];refine cl (Xn n om _) ?_;rintro bd bb ⟨ad,a3⟩;refine ρ ?_;refine cl (Ip (av.ext a3) ad.1 (Va ap om) om om) ?_;rintro _ ba ⟨⟨nv,bc,rfl,a6,b7⟩,aa⟩;have F:=a1.trans (a8.trans (aj.trans (a3.trans aa)));have O:=J.trans (D.trans F);have a4:=hX.ext (a2.trans (G.trans (D.trans F)));have ao:((n-1)*x+p / x^(n-1)) / n=Nw.step p n x:=rfl;rw[ao]at a6;refine ρ ?_;refine cl (Jqp a6.1 a4) ?_
 rintro _ b9 ⟨rfl,y⟩;refine ρ ?_;refine ci (λU=>?_) (λU=>?_)
 .have b3:x<=Nw.step p n x:=by
   have:=oT U;unfold Vg at this;split at this
   .omega
   omega
  refine ρ ?_;exact Jq ⟨⟨x,a4.ext y,Qzj om Z b3,au⟩,O.trans y⟩
 have af:Nw.step p n x<x:=by
  have:=oF U;unfold Vg at this;split at this
  .assumption
  split at this<;>omega
 refine ρ ?_;exact Qv (Nw.step p n x) nv sB ⟨O.trans y,(a6.ext y).1,Qzk om om Z,om,Jfv om Z⟩ af
open Go.RowKit Pl Go.Wk Bl Nw
variable {K n p sc:Nat}{P1 Q1 Q2 SA:Option Addr}{v vW:Value}{w:World}
theorem Qkz(hv:NatV w v p)(hn:1<=n)(hn64:n<=64)(hK:K<=29000)(hK6:7<=K)(hL:Jv p+n<=K)(hdiv:DivC K): Ret Tryz.prog 59 [v,.int .i64 (n:Int)] w λu w'=>(∃ r,NatV w' u r/\Jxl p n r)/\Ext w w':=by
 have J:p<2^K:=nM Yt (Nat.pow_le_pow_right (by decide) om);have F:=Va J om;have Z:=Yt (x:=p);refine Jz Tryz.func59 Tryz.ntmps59 rfl kr rfl ?_;refine ρ ?_;refine cl (Yv hv F) ?_;rintro _ w1 ⟨rfl,rfl⟩;refine ρ ?_;by_cases h1:Jv p<=1
 .have a2:p<=1:=by
   have:2^Jv p<=2^1:=Nat.pow_le_pow_right (by decide) h1;omega
  refine kt 14 ?_ ?_
  .exact decide_eq_true om
  refine ρ ?_;refine cl (Jmd hv F) ?_;rintro u w2 ⟨G,y⟩;refine ρ ?_;refine Jq ⟨⟨p,G,?_⟩,y⟩;rcases(show p=0∨p=1 by omega) with rfl|rfl
  .exact⟨by rw[Nat.zero_pow om];exact nR _,by rw[Nat.zero_add,Nat.one_pow];decide⟩
  exact⟨by rw[Nat.one_pow];exact nR _,Nat.lt_of_lt_of_le (show 1<(1+1)^1 by decide) (Nat.pow_le_pow_right (by decide) hn)⟩
 refine kf 14 ?_ ?_
 .exact dF om
 refine ρ ?_;refine ci (λD=>?_) (λD=>?_)
 .have U:n=1:=by have:=eq_of_beq D;omega
  subst U;refine ρ ?_;refine cl (Jmd hv F) ?_;rintro u w2 ⟨G,y⟩;refine ρ ?_;exact Jq ⟨⟨p,G,by rw[Nat.pow_one];exact nR _,by rw[Nat.pow_one];omega⟩,y⟩
 have a3:n≠1:=λe=>by rw[e]at D;revert D;decide
 have a1:2<=p:=by
  rcases(show p=0∨p=1∨2<=p by omega) with rfl|rfl|h
  .exact absurd (show Jv 0<=1 by decide) h1
  .exact absurd (show Jv 1<=1 by decide) h1
  exact h
 clear D;refine ρ ?_;refine ci (λD=>?_) (λD=>?_)
 .have O:Jv p<=n:=by have:=oT D;omega
  refine ρ ?_;refine cl (Xn 1 (by decide) _) ?_;rintro o w2 ⟨ho,y⟩;refine ρ ?_;exact Jq ⟨⟨1,ho.1,by rw[Nat.one_pow];omega,Nat.lt_of_lt_of_le Z (Nat.pow_le_pow_right (by decide) O)⟩,y⟩
 clear D;refine ρ ?_;refine ci (λD=>?_) (λD=>?_)
 .refine ρ ?_;refine cl (Qcd hv om hn64 om hK hK6 J ?_ hdiv) ?_
  .rw[<-Nat.pow_mul];refine Nat.pow_lt_pow_right (by decide) ?_;have h3:=Nat.div_mul_le_self (Jv p+n-1) n;have h4:(Jv p+n-1) / n*(n-1)<=(Jv p+n-1) / n*n:=Nat.mul_le_mul_left _ om;omega
  rintro u w2 ⟨⟨r,G,hr⟩,y⟩;refine ρ ?_;exact Jq ⟨⟨r,G,hr⟩,y⟩
 exfalso
 have:=oF D;omega
theorem Qmv{b:Bool}{P2 P3 m1 c1 m2 c2 K2:Nat}{ws:List PR}{sizes:List Nat}(hW:GX 3 RtC Nn w vW ws)(hS:Rd w 1 SA sizes.length (Jp (nz sizes)))(hn:∀ q∈ws,0<=q.sign/\q.num<18446744073709551616)(hd:∀ i,i<=ws.length->dnK ws i<4294967296)(hq:∀ q∈ws,q.num<18446744073709551616/\q.den<4294967296/\0<q.norm.den/\q.norm.den<4294967296)(hd1:1<=dnm ws)(hd64:dnm ws<=64)(ho:PrOk ws sizes (dnm ws) K)(hK:K2<=29000)(hK6:7<=K2)(hL:Jv (Gt ws sizes (dnm ws))+dnm ws<=K2)(hdiv:DivC K2):
  Ret Tryz.prog 28 [.agg #[vW,.slice P1 P2 P3,.bool b,.slice Q1 m1 c1,.slice Q2 m2 c2],.slice SA sizes.length sc] w λu w'=>(∃ v r,u=.tuple #[v,.int .i64 0]/\NatV w' v r/\Jxl (Gt ws sizes (dnm ws)) (dnm ws) r)/\Ext w w':=by
 obtain⟨W1,W2,_,rfl,_,a4,a6,_,a7⟩:=id hW.el;refine Jz Tryz.func28 Tryz.ntmps28 rfl kr rfl ?_;refine ρ ?_;refine bx (cs:=[.slice W1 ws.length W2,.slice P1 P2 P3,.bool b,.slice Q1 m1 c1,.slice Q2 m2 c2]) ?_;intro w1 b1 G a5 J;refine ρ ?_;refine lds (cs:=[.slice W1 ws.length W2,.slice P1 P2 P3,.bool b,.slice Q1 m1 c1,.slice Q2 m2 c2]) (λj u hu=>J.at hu) ?_;refine ρ ?_;refine cl (Qmp (hW.ext RtC.sta (by decide) G) (hS.ext G) ho.len hn) ?_;rintro _ w2 ⟨rfl,F⟩;refine ρ ?_;refine ld ((J.ext F).at (i:=0) rfl) ?_;have D:=G.trans F;refine ρ ?_;refine cl (Qhx (hW.ext RtC.sta (by decide) D) hd hq) ?_;rintro dv w3 ⟨U,O⟩;refine ρ ?_;refine cl (Jpt U.1 om) ?_;rintro _ w4 ⟨rfl,rfl⟩;refine ρ ?_;refine ld (((J.ext F).ext O).at (i:=0) rfl) ?_;have y:=D.trans O;refine ρ ?_;refine cl (Qvl (hW.ext RtC.sta (by decide) y) U (hS.ext y) ho) ?_;rintro _ w5 ⟨⟨pv,rfl,a2⟩,a1⟩
 refine ρ ?_;refine cl (Qkz a2.1 hd1 hd64 hK hK6 hL hdiv) ?_;rintro rv w6 ⟨⟨r,hr,a3⟩,Z⟩;refine ρ ?_;exact Xx ⟨⟨_,r,rfl,hr,a3⟩,y.trans (a1.trans Z)⟩
open Go.RowKit Pl Go.Wk Bl Nw
variable {c sc:Nat}{A P1 Q1 Q2 SA:Option Addr}{w:World}
abbrev hlf: PR:=⟨false,1,2⟩
theorem Qxb: cvr 216 3 [3,6,5] 7=some ⟨[hlf,hlf,hlf],[hlf,hlf,hlf],⟨false,3,2⟩⟩:=by decide +kernel
theorem Jjx: dnm [hlf,hlf,hlf]=2:=by decide +kernel
theorem Jfn: Gt [hlf,hlf,hlf] [4,4,4] 2=64:=by decide +kernel
theorem Qxc: Covd 3 [3,6,5] 7:=by
 intro v u _;rcases(show v=0∨v=1∨v=2 by omega) with rfl|rfl|rfl
 .exact⟨0,by decide,by decide⟩
 .exact⟨0,by decide,by decide⟩
 exact⟨1,by decide,by decide⟩
theorem Qxf(h:GrV w A c 3 [3,6,5]): Ret Tryz.prog 27 [.agg (grC A c 3 [3,6,5]).toArray,.int .u32 7] w λu w'=>∃ W P q1 q2,u=.tuple #[.agg #[W,P,.bool false,q1,q2],.int .i64 0]/\GX 3 RtC Nn w' W [hlf,hlf,hlf]/\GX 3 RtC Nn w' P [hlf,hlf,hlf]/\NatX Nn w' q1 3/\NatX Nn w' q2 2/\Ext w w' :=
 Qlc (set:=7) h (by decide) (by decide) (by decide) Qxc (by decide +kernel) Qxb
theorem Qgb: EOk hlf 2:=⟨by decide,by decide,by decide,by decide +kernel,by decide +kernel,by decide +kernel,by decide +kernel,by decide +kernel,by decide +kernel⟩
theorem Qqz: PrOk [hlf,hlf,hlf] [4,4,4] 2 32:=by
 refine⟨by decide,rfl,λq y=>?_,λs u=>?_,λi hi=>?_,λi D F=>?_⟩
 .simp only[List.mem_cons,List.not_mem_nil,or_false,or_self]at y;rw[y];exact Qgb
 .simp only[List.mem_cons,List.not_mem_nil,or_false,or_self]at u;rw[u];decide
 .have hi:i<=3:=hi;rcases(show i=0∨i=1∨i=2∨i=3 by omega) with rfl|rfl|rfl|rfl<;>decide +kernel
 have D:i<3:=D;have e:4^Kk hlf 2<2^32:=by decide +kernel
 rcases(show i=0∨i=1∨i=2 by omega) with rfl|rfl|rfl<;>exact e
theorem Qxj{vW:Value}{b:Bool}{P2 P3 m1 c1 m2 c2:Nat}(hW:GX 3 RtC Nn w vW [hlf,hlf,hlf])(hS:Rd w 1 SA 3 (Jp [4,4,4])):
  Ret Tryz.prog 28 [.agg #[vW,.slice P1 P2 P3,.bool b,.slice Q1 m1 c1,.slice Q2 m2 c2],.slice SA 3 sc] w λu w'=>(∃ v,u=.tuple #[v,.int .i64 0]/\NatV w' v 8)/\Ext w w':=by
 have F:∀ q∈[hlf,hlf,hlf],q=hlf:=λq y=>by
  simp only[List.mem_cons,List.not_mem_nil,or_false,or_self]at y;exact y
 refine(Qmv (sizes:=[4,4,4]) (K:=32) (K2:=32) hW hS (λq y=>by rw[F q y];decide +kernel) (λi hi=>?_) (λq y=>by rw[F q y];decide +kernel) (by rw[Jjx];decide) (by rw[Jjx];decide) (by rw[Jjx];exact Qqz) (by decide) (by decide) (by rw[Jjx,Jfn];decide) Qhn).mono λu w' ⟨⟨v,r,e,J,D⟩,G⟩=>⟨⟨v,e,?_⟩,G⟩
 .have hi:i<=3:=hi;rcases(show i=0∨i=1∨i=2∨i=3 by omega) with rfl|rfl|rfl|rfl<;>decide +kernel
 rw[Jjx,Jfn]at D;have:r=8:=Qkx D ⟨by decide,by decide⟩;rw[<-this];exact J
open Go.RowKit Pl Go.Wk Bl
variable {N N':Nat->Prop}{r:Row}{v vx:Value}{w w':World}
theorem ERf: ElT Tryz.prog 54 141 3 32 (.agg #[.int .i64 0,.int .i64 0,.string ⟨#[]⟩]):=⟨Tryz.underlying54,info_parts kr,rfl,by decide⟩
theorem ERfs: ElT Tryz.prog 44 54 1 24 (.slice none 0 0):=⟨Tryz.underlying44,info_parts kr,rfl,by decide⟩
theorem Jsm(v:V)(w:World): (Instr.buildSlice 54 1 #[(0,v.val)]).run Tryz.prog w=.ok (.slice (some ⟨w.heap.size,0,none⟩) 1 1) (w.alloc (.cells v.cells.toArray 141)):=kr
theorem Jsl(A:Option Addr)(n c:Nat)(w:World): (Instr.buildSlice 44 1 #[(0,.slice A n c)]).run Tryz.prog w=.ok (.slice (some ⟨w.heap.size,0,none⟩) 1 1) (w.alloc (.cells #[.slice A n c] 54)):=kr
theorem Jzp{base:Nat}{e:TypeId}{sz n:Nat}{cs:List Value}(h:w.ownsRow base e sz v n cs): ∀ g,v.ownBlock=some g->base<=g:=λg u=>by
 obtain⟨_,_,_,_,y⟩:=Jy h;exact(y g u).1
theorem Jyd(a b:Row): Je (a++b)=Je a++Je b:=by simp[Je]
theorem Jyb(v:V): Je [v]=v.cells:=by simp[Je]
abbrev OwnF(w:World)(base:Nat)(v:Value)(q:Row): Prop:=w.ownsRow base 141 3 v q.length (Je q)
theorem Qwg{x:Row}(hx:RowV w vx x)(hl:x.length<=100000): Ret Tryz.prog 48 [vx] w λu w'=>OwnF w' w.heap.size u x/\Ext w w':=by
 obtain⟨A,c,rfl,af,ae,hR⟩:=hx;refine Jz Tryz.func48 Tryz.ntmps48 rfl kr rfl ?_;refine ρ ?_;refine Qd (fun (k:Nat) (J:Value)=>[(3,J),(6,.slice A x.length c),(7,.int .i64 (x.length:Int)),(8,.int .i64 (k:Int))])
  (λk J w'=>k<=x.length/\Ext w w'/\OwnF w' w.heap.size J (x.take k)) (λk _=>x.length-k) 0 (.slice none 0 0) sB
  ⟨Nat.zero_le _,Ext.refl _,Xj _ _ _ _⟩ ?_
 rintro k J w1 ⟨hk,D,O⟩;refine ρ ?_;refine ci (λh=>?_) (λh=>?_)
 .have lk:k<x.length:=by have:=oT h;omega
  clear h;have G:RdR w1 A x:=Rd.ext hR D;refine ρ ?_;refine ixq 3 k G lk ?_;refine ρ ?_;refine lds (cs:=(x.getD k V0).cells) (λj u hu=>RdR.cell G lk hu) ?_;refine ρ ?_;refine alc Jjq ?_;intro w2 b2 a1 a6 a9;refine ρ ?_;refine stb (cs':=(x.getD k V0).cells) a9 ?_ (V.one _);intro w3 a8 ad Z;have F:Ext w1 w3:=Z w1 a1 a6;refine ρ ?_;refine lds (cs:=(x.getD k V0).cells) (λj u hu=>a8.at hu) ?_;refine ρ ?_;refine bsl (Jsm _) ?_;intro w4 b4 U ah a7;have a2:x.take (k+1)=x.take k++[x.getD k V0]:=by rw[List.take_add_one,List.getElem?_eq_getElem lk];simp[List.getD,List.getElem?_eq_getElem lk]
  have ac:(x.take k).length=k:=by rw[List.length_take];omega
  have y:=F.trans U;refine ρ ?_;refine apb (m':=1) (news:=(x.getD k V0).cells) ERf (Jb O y) (a7.rd (n:=1) rfl) (V.one _) (by unfold maxLen;omega) om (D.trans y).size ?_;intro v5 w5 a3 a5 aa;refine ρ ?_;refine Qv (k+1) v5 sO ⟨lk,Jr (D.trans y) a5 (Jzp (Jb O y)),?_⟩ om;rw[OwnF,a2,List.length_append,Jyd,Jyb];exact a3
 have a4:k=x.length:=by have:=oF h;omega
 subst a4;rw[List.take_length]at O;refine ρ ?_;exact Jq ⟨O,D⟩
def RfC: (Nat->Prop)->World->List Value->Row->Prop:=λN w cs r=>∃ v,cs=[v]/\RowX w N v r
theorem RowX.grN(h:RowX w N v r)(hg:GrN N w w'): RowX w' N v r:=by
 obtain⟨A,c,e,F,D,y,u⟩:=h;exact⟨A,c,e,F,D,Zg y hg λh0 J G=>u (λe=>by subst e;exact absurd h0 (by decide)) J G,u⟩
theorem RowX.oldN(h:RowX w N v r)(hN:∀ k,N' k->N k∨w.heap.size<=k): RowX w N' v r:=by
 obtain⟨A,c,e,O,J,D,G⟩:=h;refine⟨A,c,e,O,J,D,λh0 Z F u=>?_⟩;rcases hN _ u with u|u
 .exact G h0 Z F u
 obtain⟨U,y,hb⟩:=Rd.isome D (List.length_pos_iff.2 h0) (by decide);rw[F]at y;injection y with y
 subst y;omega
theorem RfC.sta: Sta RfC:=⟨λ⟨v,e,h⟩ u=>⟨v,e,h.grN u⟩,λ⟨v,e,h⟩ y=>⟨v,e,h.oldN y⟩⟩
theorem OwnF.x(h:OwnF w' w.heap.size v r)(hl:r.length<=1100000): RowX w' (Ol w) v r:=by
 obtain⟨A,c,e,F,D⟩:=Jy h;subst e;refine⟨A,c,rfl,F,hl,Rd.own h,λh0 u G y=>?_⟩;have:=(D u.block (by rw[G];rfl)).1;exact absurd (show u.block<w.heap.size from y) om
theorem Jhj{ls:List Row}(hx:RowsV w vx ls)(hl:∀ r∈ls,r.length<=100000): Ret Tryz.prog 25 [vx] w λu w'=>OX 54 1 RfC (Ov w u) w' w.heap.size u ls/\Ext w w':=by
 obtain⟨ps,A,c,rfl,rfl,ad,ac,hR,U⟩:=hx;refine Jz Tryz.func25 Tryz.ntmps25 rfl kr rfl ?_;refine ρ ?_;refine Qd (fun (k:Nat) (J:Value)=>[(3,J),(6,.slice A ps.length c),(7,.int .i64 (ps.length:Int)),(8,.int .i64 (k:Int))])
  (λk J w'=>k<=ps.length/\Ext w w'/\OX 54 1 RfC (Ov w J) w' w.heap.size J ((ps.map (·.2)).take k)) (λk _=>ps.length-k) 0 (.slice none 0 0) sB
  ⟨Nat.zero_le _,Ext.refl _,OX.nil _ _⟩ ?_
 rintro k J w1 ⟨hk,D,ho⟩;refine ρ ?_;refine ci (λh=>?_) (λh=>?_)
 .have lk:k<ps.length:=by have:=oT h;omega
  clear h;have G:(ps.map (·.1))[k]?=some ps[k].1:=by simp[List.getElem?_eq_getElem lk]
  refine ρ ?_;refine ix k (hR.ext D) lk ?_;refine ρ ?_;refine ld ((hR.ext D).cell G) ?_;refine ρ ?_;refine cl (Qwg ((U _ (List.getElem_mem lk)).ext D) (hl _ (List.mem_map.2 ⟨_,List.getElem_mem lk,rfl⟩))) ?_;rintro r w2 ⟨hr,a2⟩;have aa:=hl _ (List.mem_map.2 ⟨_,List.getElem_mem lk,rfl⟩);have a4:=OwnF.x hr om;obtain⟨B,bc,eB,_,_⟩:=Jy hr;subst eB;refine ρ ?_;refine bsl (Jsl _ _ _) ?_;intro w3 b3 O ae a9;have F:=a2.trans O;have a5:=(ho.ext RfC.sta F).old RfC.sta (N':=λq=>Ov w J q∨w3.heap.size<=q) λq y=>y;obtain⟨_,_,_,_,Z⟩:=id ho.form;refine ρ ?_;refine apX ERfs RfC.sta a5 a9 rfl (λu hu=>by rw[List.mem_singleton.1 hu];rfl) ⟨_,rfl,(a4.grN (GrN.ext O)).oldN λq y=>?_⟩ (λg hg=>.inl (.inr hg)) (by simp;omega) (by decide) (D.trans F).size ?_
  .rcases y with(y|y)|y
   .exact .inl (nM y D.size)
   .exact .inl (Z q y).2
   exact .inr y
  intro v4 w4 a1 a8 a6;have a3:(ps.map (·.2)).take k++[ps[k].2]=(ps.map (·.2)).take (k+1):=by rw[List.take_add_one,List.getElem?_map,List.getElem?_eq_getElem lk];rfl
  rw[a3]at a1;refine ρ ?_;exact Qv (k+1) v4 sO ⟨lk,Jr (D.trans F) a8 λq e=>(Z q e).1,a1.old RfC.sta λq y=>.inl (y.elim (λy=>.inl (.inl y)) λy=>(a6 q y).elim (λy=>.inl (.inr y)) .inr)⟩ om
 have a7:k=ps.length:=by have:=oF h;omega
 subst a7;rw[show ps.length=(ps.map (·.2)).length by simp,List.take_length]at ho
 refine ρ ?_;exact Jq ⟨ho,D⟩
end Go.Proofs.YtebiphhfkdbpfaaGreat
namespace Go.Wk
open Go.RowKit
variable {id n:Nat}{w:World}
theorem Off.old'{N N':Nat->Prop}{Φ:World->Prop}(h:Off N w Φ)(hN:∀ k,N' k->N k∨w.heap.size<=k): Off N' w Φ:=λw2 u=>h w2 (u.mono λk y hn=>(hN k hn).elim id λh=>om)
theorem Qjq{P:Program}{al:AL}{Q Q':Exit->Act->World->Prop}{α:Type}{c d:Code}(fr:α->AL)(I:α->World->Prop)(h1:WC P n c (Exit.inBlock id (Exit.then (λa w=>∃ x,Fr n (fr x) a/\I x w) Q)) al w)(h2:∀ x w,I x w->WC P n d Q' (fr x) w):
  WC P n c (Exit.inBlock id (Exit.then (d.wp P Q') Q)) al w:=by
 intro a G;refine wp_mono (h1 a G) ?_;intro e F w' u;cases e with
 | normal=>obtain⟨x,D,y⟩:=u;exact h2 x w' y F D
 | exit id'=>
  by_cases e:id'=id
  .simp only[Exit.inBlock,e,if_true]at u ⊢;obtain⟨x,D,y⟩:=u;exact h2 x w' y F D
  simp only[Exit.inBlock,e,if_false]at u ⊢;exact u
 | goto l=>exact u
 | ret=>exact u
 | panic c=>exact u
 | outgrown=>exact u
end Go.Wk
namespace Go.Proofs.YtebiphhfkdbpfaaGreat
open Go.RowKit Pl Go.Wk Bl
attribute [local irreducible] WC WL QX WD WDB WP WN WG WH
theorem Jwg{s v:Nat}(hv:v<8): ((((s:Int)).fdiv (2^(min ((v:Nat):Int).toNat 8))).tmod 2 == 1)=s.testBit v:=by
 have e:((s:Int)).fdiv (2^(min ((v:Nat):Int).toNat 8))=((s / 2^v:Nat):Int):=by
  rw[Gg s v 8,Nat.min_eq_left om]
 rw[e];have u:(((s / 2^v:Nat):Int)).tmod 2=((s / 2^v % 2:Nat):Int):=rfl;rw[u,Nat.testBit_eq_decide_div_mod_eq];by_cases h:s / 2^v % 2=1
 .rw[h];rfl
 have:s / 2^v % 2=0:=om
 rw[this];rfl
structure LA where
 vars: Nat
 rows:List (List Nat)
 bad:Nat
def u8C(l:List Nat): List Value:=l.map fun (x:Nat)=>Value.int .u8 (x:Int)
def U8R(N:Nat->Prop)(w:World)(cs:List Value)(r:List Nat): Prop:=cs=u8C r/\r.length=4/\∀ x∈r,x<256
theorem U8R.sta: Sta U8R:=⟨λh _=>h,λh _=>h⟩
def LaC(N:Nat->Prop)(w:World)(cs:List Value)(a:LA): Prop:=a.vars<256/\a.bad<256/\∃ v,cs=[.int .u8 (a.vars:Int),v,.int .u8 (a.bad:Int)]/\GX 4 U8R N w v a.rows
theorem LaC.sta: Sta LaC:=⟨λ⟨y,u,v,e,h⟩ D=>⟨y,u,v,e,h.gr U8R.sta (by decide) D⟩,λ⟨y,u,v,e,h⟩ F=>⟨y,u,v,e,h.old U8R.sta (by decide) F⟩⟩
def AtC(N:Nat->Prop)(w:World)(cs:List Value)(a:Atm): Prop:=∃ t:V3,cs=t.cells/\Off N w λw=>AtV w t a
theorem AtC.sta: Sta AtC:=⟨λ⟨t,e,h⟩ u=>⟨t,e,h.gr u⟩,λ⟨t,e,h⟩ y=>⟨t,e,h.old' y⟩⟩
structure RA where
 vars: List Int
 rows:List Row
def RaC(N:Nat->Prop)(w:World)(cs:List Value)(a:RA): Prop:=∃ v1 v2,cs=[v1,v2]/\Off N w λw=>IntsV w v1 a.vars/\RowsV w v2 a.rows
theorem RaC.sta: Sta RaC:=⟨λ⟨y,u,e,h⟩ D=>⟨y,u,e,h.gr D⟩,λ⟨y,u,e,h⟩ F=>⟨y,u,e,h.old' F⟩⟩
def lvs(a:LA): List Nat:=Jw 8 a.vars
def Xr(n:Nat)(y:List Nat): Row:=(List.range n).map λi=>⟨1,((y.getD i 0 % 4:Nat):Int),⟨#[]⟩⟩
def Qc(a:LA): List Int:=if a.bad=0 then nz (lvs a) else if a.bad=1 then nz (lvs a)++[9] else if a.bad=2 then nz (lvs a)++[0] else -1::nz (lvs a)
def LA.fits(a:LA): Prop:=(lvs a).length<=4/\a.rows.length<=12
end Go.Proofs.YtebiphhfkdbpfaaGreat
