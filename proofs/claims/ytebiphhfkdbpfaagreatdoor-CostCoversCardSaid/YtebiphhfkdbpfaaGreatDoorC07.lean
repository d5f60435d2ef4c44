/- Part 7. -/
import Derived.Test.YtebiphhfkdbpfaaGreatDoorC06
set_option linter.unusedVariables false
set_option maxRecDepth 100000
set_option maxHeartbeats 40000000
namespace Go.Proofs.YtebiphhfkdbpfaaGreatDoor
open Go.RowKit Pl Go.Wk Bl
attribute [local irreducible] WC WL QX WD WDB WP WN WG WH
variable {E es:List Nat}{c i k n p s set v:Nat}
theorem zBl: Qe Tryz.prog 4=some (.bool false):=kr
theorem wfU(h:p<4294967296): (Lit.int .u32 (p:Int)).wf=true:=by
 simp only[Lit.wf,Bool.and_eq_true,decide_eq_true_eq];exact⟨by show(0:Int)<=_;omega,by show _<=(4294967295:Int);omega⟩
theorem Xwg(hs:s<4294967296): bits .and .u32 ((s / 2^v:Nat):Int) 1=((s.testBit v).toNat:Int):=by
 have u:s / 2^v<4294967296:=Nat.lt_of_le_of_lt (Nat.div_le_self _ _) hs;have i:=u32_and_nat (s / 2^v) 1 u om;have j:s / 2^v &&& 1=(s.testBit v).toNat:=by
  rw[Nat.and_one_is_mod,Nat.toNat_testBit]
 rw[j]at i;exact i
theorem KU: Maps.Keyed Tryz.prog 63:=Maps.int_keyed Tryz.underlying63
theorem Jlw(b:Bool)(A B:Option Addr)(m c m' c':Nat)(w:World): (Instr.buildSlice 56 1 #[(0,.agg #[.bool b,.slice A m c,.slice B m' c'])]).run Tryz.prog w=.ok (.slice (some ⟨w.heap.size,0,none⟩) 1 1) (w.alloc (.cells #[.bool b,.slice A m c,.slice B m' c'] 58)):=kr
def pkA(n:Nat)(E:List Nat)(set i:Nat): List (List PR):=(Jl E set i).map λi=>(Jy n set).map λv=>PR.int (((E.getD i 0) &&& set).testBit v).toNat
theorem Jwl(E:List Nat)(set:Nat): ∀ i,(Jl E set i).length<=i
 | 0=>by simp[Jl]
 | i+1=>by
  have:=Jwl E set i;unfold Jl;simp only;split<;>simp<;>omega
def Yb(E:List Nat)(set i p:Nat): Bool:=(List.range i).any λk=>(E.getD k 0) &&& set == p
theorem Jzb(h:(E.getD i 0) &&& set=0∨Yb E set i ((E.getD i 0) &&& set)=true): Jl E set (i+1)=Jl E set i:=by
 rw[Jl];exact if_pos h
theorem Jwj(h0:(E.getD i 0) &&& set≠0)(h1:Yb E set i ((E.getD i 0) &&& set)=false): Jl E set (i+1)=Jl E set i++[i]:=by
 rw[Jl];exact if_neg (by rintro(h|h);exact h0 h;unfold Yb at h1;rw[h1]at h;cases h)
theorem Jdw(E:List Nat)(set i p:Nat): Yb E set (i+1) p=(Yb E set i p || ((E.getD i 0) &&& set == p)):=by
 unfold Yb;rw[List.range_succ,List.any_append];simp
abbrev N2(s:Nat)(vF vA vB:Value): Nat->Prop:=λk=>k<s∨vA.ownBlock=some k∨vB.ownBlock=some k∨vF.ownBlock=some k
abbrev N1(s:Nat)(vM vC:Value): Nat->Prop:=λk=>k<s∨vC.ownBlock=some k∨vM.ownBlock=some k
theorem zPb: Qe Tryz.prog 124=some (.agg #[.slice none 0 0,.slice none 0 0,.slice none 0 0]):=kr
theorem Qjs(k set:Nat): Jy (k+1) set=if set.testBit k then Jy k set++[k] else Jy k set:=by
 unfold Jy;rw[List.range_succ,List.filter_append];cases h:set.testBit k<;>simp[h]
theorem Jgq(h:v∈Jy k set): v<k:=List.mem_range.1 (List.mem_filter.1 h).1
theorem Jgr(k set:Nat): (Jy k set).length<=k:=by
 unfold Jy;exact nL (List.length_filter_le _ _) (by simp)
theorem Qlv{w:World}{A:Option Addr}(h:GrV w A c n es)(hs:set<2^n)(hm:es.length<=5):
  Ret Tryz.prog 51 [.agg (grC A c n es).toArray,.int .u32 (set:Int)] w λu w'=>∃ vC vA vB MA mc FA fc,u=.tuple #[.agg #[vC,vA,vB],.slice MA (Jy n set).length mc,.slice FA (Jl es set es.length).length fc] /\
   GX 3 RtC Nn w' vC (List.replicate (Jy n set).length (PR.int 1))/\GX 1 MxC Nn w' vA (Vf n es set)/\GX 3 RtC Nn w' vB (List.replicate (Vf n es set).length (PR.int 1))/\Rd w' 1 MA (Jy n set).length (Jb (nz (Jy n set)))/\Rd w' 1 FA (Jl es set es.length).length (Jb (nz (Jl es set es.length)))/\Ext w w':=by
 have hn:=h.n32;have bc:set<4294967296:=nM hs (Ku hn);refine Jz Tryz.func51 Tryz.ntmps51 rfl kr rfl ?_;refine ρ ?_;refine bx (cs:=grC A c n es) ?_;intro w1 b1 ck gs en;refine ρ ?_;refine alc zPb ?_;intro w2 b2 cj fg eh;refine ρ ?_;refine alc zPb ?_;intro w3 b3 ch ff ao;have dc:=ck.trans (cj.trans ch);have ax:=(en.ext cj).ext ch;have eg:=eh.ext ch;refine ρ ?_;refine ld (ax.at (i:=0) rfl) ?_;refine ρ ?_;refine Xf (fun (k:Nat) (vM vC:Value)=>[(1,.int .u32 (set:Int)),(2,.pointer (some ⟨b1,0,none⟩)),(4,.pointer (some ⟨b2,0,none⟩)),(7,.pointer (some ⟨b3,0,none⟩)),(8,vM),(9,.slice none 0 0),(19,.int .i64 (n:Int)),(20,.int .i64 (k:Int))])
  (λk vM vC w'=>k<=n/\GrN (λi=>i=b3) w3 w'/\Qp w' w3.heap.size vM (Jy k set)/\OX 58 3 RtC (N1 w3.heap.size vM vC) w' w3.heap.size vC (List.replicate (Jy k set).length (PR.int 1))/\Blk w' b3 124 [vC,.slice none 0 0,.slice none 0 0]) (λk _ _=>n-k) 0 (.slice none 0 0) (.slice none 0 0) sB ⟨Nat.zero_le _,GrN.refl _ _,by simp[Jy,Qp];exact Xr _ _ _ _,by simp[Jy];exact OX.nil _ _,ao⟩ ?_
 rintro k vM vC w4 ⟨hk,a5,aj,am,d5⟩;refine ρ ?_;refine ci (λhc=>?_) (λhc=>?_)
 .have bu:k<n:=by have:=oT hc;omega
  clear hc;refine ρ ?_;refine Jpv (s:=set) (v:=k) om ?_;refine ρ ?_;rw[Ip bc];refine ci (λhc=>?_) (λhc=>?_)
  .have cp:set.testBit k=true:=hc;have hmk:Jy (k+1) set=Jy k set++[k]:=by rw[Qjs,if_pos cp]
   have f6:=Jgr k set;refine ρ ?_;refine bsl (Jzl _) ?_;intro w5 b5 O gq fm;refine ρ ?_;refine apI (z:=k) (Jh aj O) fm om (nL a5.size O.size) ?_;intro cg w6 aa hg6 f5;rw[<-hmk]at aa;refine ρ ?_;have ac:¬ vC.ownBlock=some b3:=λe=>by
    obtain⟨_,_,_,_,h3⟩:=id am.form;have:=(h3 b3 e).1;have:=ao.lt;omega
   have af:Ext w6 w6.drew:=(Ext.refl w6).drew;have c7:∀ k,vM.ownBlock=some k->w3.heap.size<=k:=λk e=>by
    obtain⟨_,_,_,_,h3⟩:=Jv aj;exact(h3 k e).1
   have dj:some b3≠vM.ownBlock:=λe=>by
    have:=c7 b3 e.symm;have:=ao.lt;omega
   have an:=((d5.ext O).grown hg6 dj).ext af;have c0:=(((am.ext RtC.sta O).old RtC.sta (N':=λk=>N1 w3.heap.size vM vC k∨cg.ownBlock=some k) λk hk=>hk.elim .inl λhk=>(f5 k hk).imp (λhk=>.inr (.inr hk)) id).gr RtC.sta (GrN.by hg6 λk e=>e) (M:=λk=>vM.ownBlock=some k) λk hk=>⟨.inl (.inr (.inr hk)),by
    obtain⟨_,_,ho⟩:=am.own;exact Kq aj ho rfl hk⟩)
   refine drN (λk=>vC.ownBlock=some k) 18 [(0,0),(0,1),(1,2),(1,3),(1,4),(0,5),(2,6)] kr ?_;refine ρn ?_;refine nld (λw' hg=>(Jr an hg ac).at (i:=0) rfl) ?_;refine ρn ?_;refine nop ?_;refine cl (Jjk 1 (by decide) (by decide) _) ?_;rintro r w7 ⟨hr,ba⟩;obtain⟨D,e,F,f,rfl,hc⟩:=hr.cell;refine Je (Qg (GrN.ext ba) ?_);refine ρn ?_;refine nop ?_;refine bsl (Jlw _ _ _ _ _ _ _) ?_;intro w8 b8 B fe d3;refine Je (Qg (GrN.ext B) ?_);have ar:=af.trans (ba.trans B);have e8:=(c0.ext RtC.sta ar).old RtC.sta (N':=λk=>(N1 w3.heap.size vM vC k∨cg.ownBlock=some k)∨w8.heap.size<=k) λk hk=>hk;have gp:(List.replicate (Jy k set).length (PR.int 1)).length=(Jy k set).length:=by simp
   refine ρn ?_;refine nop ?_;refine apX ERt RtC.sta e8 d3 rfl (Qz rfl rfl rfl) (RtC.sta.old (RtC.sta.gr hc (GrN.ext B)) λj hj=>?_) (λg hg=>.inl (.inl (.inr (.inl hg)))) om (by decide) (nL a5.size (nL O.size (nL hg6.size ar.size))) ?_
   .have z1:=a5.size;have z2:=O.size;have z3:=hg6.size;have z4:=af.size;rcases hj with((hj|hj|hj)|hj)|hj
    .exact .inl (show j<w6.drew.heap.size by omega)
    .obtain⟨_,_,_,_,h3⟩:=id c0.form;have:=(h3 j hj).2;exact .inl (show j<w6.drew.heap.size by omega)
    .obtain⟨_,_,_,_,h3⟩:=Jv aj;have:=(h3 j hj).2;exact .inl (show j<w6.drew.heap.size by omega)
    .obtain⟨_,_,_,_,h3⟩:=Jv aa;have:=(h3 j hj).2;exact .inl (show j<w6.drew.heap.size by omega)
    exact .inr hj
   intro ga w9 b6 a3 bt;obtain⟨_,g7,bl⟩:=e8.own;have cx:=Vg (Jh aa ar) bl a3 rfl;have bd:List.replicate (Jy k set).length (PR.int 1)++[PR.int 1]=List.replicate (Jy (k+1) set).length (PR.int 1):=by rw[hmk,List.length_append,List.length_singleton,List.replicate_succ']
   rw[bd]at b6;obtain⟨U,uc,eU,gf,_⟩:=id b6.form;subst eU;have cu:¬ (Value.slice U (List.replicate (Jy (k+1) set).length (PR.int 1)).length uc).ownBlock=some b3:=λe=>by
    obtain⟨_,_,_,_,h3⟩:=id b6.form;have:=(h3 b3 e).1;have:=ao.lt;omega
   have cr:¬ cg.ownBlock=some b3:=λe=>by
    obtain⟨_,_,_,_,h3⟩:=Jv aa;have:=(h3 b3 e).1;have:=ao.lt;omega
   refine Je (Qg (GrN.by a3 λk e=>e) ?_);have d2:=(an.ext (ba.trans B)).grown a3 λe=>ac e.symm;refine ρn ?_;refine Xu ?_;refine stF (i:=0) d2 rfl ?_;intro ce ay c4;have bg:GrN (λi=>i=b3) w9 ce:=GrN.by c4 λk hk=>by injection hk with hk;exact hk.symm
   have ec:=b6.gr RtC.sta bg λk hk=>⟨.inl (.inl (.inl (by rw[hk];exact ao.lt))),by rw[hk];exact cu⟩;have dz:=Qj cx bg λg hg e=>cr (e ▸ hg);refine Je (Uh ?_);refine ρn ?_;refine ρ ?_;refine Qn (k+1) _ _ sO ⟨om,?_,dz,ec.old RtC.sta λi hi=>?_,ay⟩ om
   .exact((((a5.trans (GrN.ext O)).by2 hg6 λk e=>.inl (c7 k e)).trans (GrN.ext ar)).by2 a3 λi e=>.inl (by
     obtain⟨_,_,_,_,h3⟩:=id am.form;exact(h3 i e).1)).by2 c4 λi e=>.inr (by injection e with e;exact e.symm)
   rcases hi with hi|hi|hi
   .exact .inl (.inl (.inl (.inl hi)))
   .exact .inl ((bt i hi).elim (λh=>.inl (.inl (.inr (.inl h)))) .inr)
   exact .inl (.inl (.inr hi))
  have cp:¬ set.testBit k=true:=by rw[hc];decide
  have hmk:Jy (k+1) set=Jy k set:=by rw[Qjs,if_neg cp]
  refine ρ ?_;exact Qn (k+1) _ _ sO ⟨om,a5,by rw[hmk];exact aj,by rw[hmk];exact am,d5⟩ om
 have f7:k=n:=by have:=oF hc;omega
 subst f7;clear hk hc;have gn:=a5;refine ρ ?_;refine mkm 63 ?_;intro w5 bm O cq cn;have gm:=en.lt;have gl:=eh.lt;have gk:=ao.lt;have gd:=a5.size;have ek:=Jr ax (a5.trans (GrN.ext O)) om;have cm:w.heap.size<=b3:=nL (ck.trans cj).size ff;have aq:Ext w w4:=a5.old dc λk e=>by rw[e];exact cm
 have e0:Jl es set 0=[]:=rfl;refine ρ ?_;refine ld (ek.at (i:=1) rfl) ?_;obtain⟨MA,mc,eM,gj,cw⟩:=Jv aj;have ds:=Jh aj O;subst eM;have f6:=Jgr k set;refine ρ ?_;refine Kh (fun (i:Nat) (vF vA vB:Value)=>[(1,.int .u32 (set:Int)),(2,.pointer (some ⟨b1,0,none⟩)),(4,.pointer (some ⟨b2,0,none⟩)),(7,.pointer (some ⟨b3,0,none⟩)),(8,.slice MA (Jy k set).length mc),(9,vF),(11,.map (some bm)),(41,.slice A es.length c),(42,.int .i64 (es.length:Int)),(43,.int .i64 (i:Int))])
  (λi vF vA vB w'=>i<=es.length/\GrN (λi=>i=b3∨i=bm) w5 w'/\Qp w' w5.heap.size vF (Jl es set i)/\OX 56 1 MxC (N2 w5.heap.size vF vA vB) w' w5.heap.size vA (pkA k es set i)/\OX 58 3 RtC (N2 w5.heap.size vF vA vB) w' w5.heap.size vB (List.replicate (Jl es set i).length (PR.int 1))/\Blk w' b3 124 [vC,vA,vB]/\(∃ m f,m<=i/\MapS Tryz.prog 63 w' bm m f/\∀ p:Nat,0<p->p<4294967296->(f (.int .u32 (p:Int))).getD (.bool false)=.bool (Yb es set i p)))
  (λi _ _ _=>es.length-i) 0 (.slice none 0 0) (.slice none 0 0) (.slice none 0 0) sB ⟨Nat.zero_le _,GrN.refl _ _,by rw[e0];exact Xr _ _ _ _,by rw[pkA,e0];exact OX.nil _ _,by rw[e0];exact OX.nil _ _,d5.ext O,0,_,Nat.le_refl _,cn,λp _ _=>rfl⟩ ?_
 rintro i vF vA vB w6 ⟨hi,hg6,ak,b7,a9,an,m,f,gi,aa,bw⟩;have gc:=O.size;refine ρ ?_;refine ci (λhc=>?_) (λhc=>?_)
 .have bu:i<es.length:=by have:=oT hc;omega
  clear hc;have b9:Ext w w6:=hg6.old (aq.trans O) λk e=>e.elim (λe=>by rw[e];exact cm) λe=>by rw[e];exact nL aq.size cq
  have hm:=getD_mem' 0 es bu;have h6:=h.ext b9;refine ρ ?_;refine ix i h6.rd bu ?_;refine ρ ?_;refine ld (h6.rd.cell (Jcv bu)) ?_;refine ρ ?_;have dh:=h6.lt32 hm;have bs:es.getD i 0 &&& set<4294967296:=Nat.lt_of_le_of_lt Nat.and_le_right bc;have f9:=Jwl es set i;have fd:bits .and .u32 ((es.getD i 0:Nat):Int) ((set:Nat):Int)=((es.getD i 0 &&& set:Nat):Int):=u32_and_nat _ _ dh bc;rw[fd];have gg:Jl es set (i+1)=Jl es set i->∀ w',GrN (λi=>i=b3∨i=bm) w5 w'->True:=λ_ _ _=>trivial;by_cases hp0:es.getD i 0 &&& set=0
  .refine kt 53 ?_ ?_
   .rw[hp0];rfl
   refine ρ ?_;have hk:=Jzb (E:=es) (set:=set) (i:=i) (.inl hp0);refine Ym (i+1) _ _ _ sO ⟨om,hg6,by rw[hk];exact ak,by rw[pkA,hk];exact b7,by rw[hk];exact a9,an,m,f,om,aa,λp h1 h2=>?_⟩ om;rw[bw p h1 h2,Jdw,hp0,show(0 == p)=false from beq_eq_false_iff_ne.2 om,Bool.or_false]
  refine kf 53 ?_ ?_
  .exact beq_eq_false_iff_ne.2 om
  refine ρ ?_;refine mlk KU aa zBl (Maps.keyOf_int_mk Tryz.underlying63 (a:=((es.getD i 0 &&& set:Nat):Int)) (wfU bs)) ?_;rw[bw (es.getD i 0 &&& set) om bs];refine ρ ?_;refine ci (λhc=>?_) (λhc=>?_)
  .refine ρ ?_;have hk:=Jzb (E:=es) (set:=set) (i:=i) (.inr hc);refine Ym (i+1) _ _ _ sO ⟨om,hg6,by rw[hk];exact ak,by rw[pkA,hk];exact b7,by rw[hk];exact a9,an,m,f,om,aa,λp h1 h2=>?_⟩ om;rw[bw p h1 h2,Jdw];by_cases e:es.getD i 0 &&& set=p
   .subst e;rw[hc];rfl
   rw[beq_eq_false_iff_ne.2 e,Bool.or_false]
  have hk:=Jwj hp0 hc;have aw:∀ k,vF.ownBlock=some k->w5.heap.size<=k:=λk e=>by
   obtain⟨_,_,_,_,h3⟩:=Jv ak;exact(h3 k e).1
  have ae:∀ k,vA.ownBlock=some k->w5.heap.size<=k/\k<w6.heap.size:=λk e=>by
   obtain⟨_,_,_,_,h3⟩:=id b7.form;exact h3 k e
  have a8:∀ k,vB.ownBlock=some k->w5.heap.size<=k/\k<w6.heap.size:=λk e=>by
   obtain⟨_,_,_,_,h3⟩:=id a9.form;exact h3 k e
  have di:bm<w5.heap.size:=cn.lt;refine ρ ?_;refine mup KU aa (by unfold maxLen;omega) (Maps.keyOf_int_mk Tryz.underlying63 (a:=((es.getD i 0 &&& set:Nat):Int)) (wfU bs)) ?_;intro w7 cy hg7;have Z:GrN (λi=>i=bm) w6 w7:=GrN.by hg7 λk e=>by injection e with e;exact e.symm
  have bj:=Qj ak Z λg hg e=>by have:=aw g hg;omega
  have c1:=b7.gr MxC.sta Z λk e=>⟨.inl om,λe'=>by have:=(ae k e').1;omega⟩;have bz:=a9.gr RtC.sta Z λk e=>⟨.inl om,λe'=>by have:=(a8 k e').1;omega⟩;have d4:=Jr an Z om;refine ρ ?_;refine bsl (Jzl _) ?_;intro w8 b8 B fe d3;refine ρ ?_;refine apI (z:=i) (Jh bj B) d3 om (nL hg6.size (nL hg7.size B.size)) ?_;intro a1 w9 cz a3 bt;rw[<-hk]at cz;have be:GrN (λi=>i=b3∨i=bm) w5 w9:=((hg6.by2 hg7 λq e=>.inr (by injection e with e;exact .inr e.symm)).trans (GrN.ext B)).by2 a3 λq e=>.inl (aw q e);have cx:=Qj ds be λg hg e=>by
   have:=cw g hg;omega
  have dm:=Rd.own cx;refine ρ ?_;refine Qq (fun (j:Nat) (vR:Value)=>[(1,.int .u32 (set:Int)),(2,.pointer (some ⟨b1,0,none⟩)),(4,.pointer (some ⟨b2,0,none⟩)),(7,.pointer (some ⟨b3,0,none⟩)),(8,.slice MA (Jy k set).length mc),(9,a1),(11,.map (some bm)),(14,.int .u32 ((es.getD i 0 &&& set:Nat):Int)),(15,vR),(41,.slice A es.length c),(42,.int .i64 (es.length:Int)),(43,.int .i64 (i:Int)),(64,.slice MA (Jy k set).length mc),(65,.int .i64 ((Jy k set).length:Int)),(66,.int .i64 (j:Int))])
   (λj vR w'=>j<=(Jy k set).length/\Ext w9 w'/\OX 58 3 RtC (λq=>q<w9.heap.size∨vR.ownBlock=some q) w' w9.heap.size vR (((Jy k set).take j).map λv=>PR.int (((es.getD i 0) &&& set).testBit v).toNat)) (λj _=>(Jy k set).length-j) 0 (.slice none 0 0) sB ⟨Nat.zero_le _,Ext.refl _,OX.nil _ _⟩ ?_
  rintro j vR ce ⟨hj,J,ad⟩;refine ρ ?_;refine ci (λhc=>?_) (λhc=>?_)
  .have ag:j<(Jy k set).length:=by have:=oT hc;omega
   clear hc;refine ρ ?_;refine ix j (dm.ext J) ag ?_;refine ρ ?_;refine ld ((dm.ext J).cell (Qs ag)) ?_;refine ρ ?_;have ge:(Jy k set).getD j 0<k:=Jgq (getD_mem' 0 _ ag);refine Jpv (s:=es.getD i 0 &&& set) (v:=(Jy k set).getD j 0) om ?_;refine ρ ?_;refine Go.Wk.kv 75 (u:=.int .i64 (((es.getD i 0 &&& set).testBit ((Jy k set).getD j 0)).toNat:Int)) (congrArg (Value.int .i64) ?_) ?_
   .rw[Xwg bs];exact Vn (by cases (es.getD i 0 &&& set).testBit ((Jy k set).getD j 0)<;>decide)
   refine cl (Jjk ((((es.getD i 0 &&& set).testBit ((Jy k set).getD j 0)).toNat:Nat):Int) (by cases (es.getD i 0 &&& set).testBit ((Jy k set).getD j 0)<;>decide) (by cases (es.getD i 0 &&& set).testBit ((Jy k set).getD j 0)<;>decide) _) ?_;rintro r b4 ⟨hr,G⟩;obtain⟨D,e,F,f',rfl,fa⟩:=hr.cell;refine ρ ?_;refine bsl (Jlw _ _ _ _ _ _ _) ?_;intro cd gu av g5 bp;have dk:=((ad.ext RtC.sta G).ext RtC.sta av).old RtC.sta (N':=λq=>(q<w9.heap.size∨vR.ownBlock=some q)∨cd.heap.size<=q) λq y=>y;have bh:∀ q,vR.ownBlock=some q->w9.heap.size<=q/\q<ce.heap.size:=λq e=>by
    obtain⟨_,_,_,_,h3⟩:=id ad.form;exact h3 q e
   refine ρ ?_;refine apX ERt RtC.sta dk bp rfl (Qz rfl rfl rfl) (RtC.sta.old (RtC.sta.gr fa (GrN.ext av)) λq y=>?_) (λg hg=>.inl (.inr hg)) (by simp;omega) (by decide) (nL J.size (nL G.size av.size)) ?_
   .rcases y with(y|y)|y
    .exact .inl (nM y J.size)
    .exact .inl (bh q y).2
    exact .inr y
   intro g9 az c5 a6 dg;refine ρ ?_;refine Ju (j+1) _ sO ⟨om,Ja (J.trans (G.trans av)) a6 λq e=>(bh q e).1,?_⟩ om;have e1:((Jy k set).take j).map (λv=>PR.int (((es.getD i 0) &&& set).testBit v).toNat)++[PR.int ((((es.getD i 0 &&& set).testBit ((Jy k set).getD j 0)).toNat:Nat):Int)]=((Jy k set).take (j+1)).map λv=>PR.int (((es.getD i 0) &&& set).testBit v).toNat:=by
    rw[List.take_add_one,List.getElem?_eq_getElem ag,List.map_append];simp[List.getD,List.getElem?_eq_getElem ag]
   rw[e1]at c5;exact c5.old RtC.sta λq y=>.inl (y.elim (λy=>.inl (.inl y)) λy=>(dg q y).elim (λy=>.inl (.inr y)) .inr)
  have ag:j=(Jy k set).length:=by have:=oF hc;omega
  subst ag;rw[List.take_length]at ad;clear hc hj;have e7:∀ q,vB.ownBlock=some q->q<w9.heap.size:=λq e=>by have:=(a8 q e).2;have:=hg7.size;have:=B.size;have:=a3.size;omega
  have eo:∀ q,vA.ownBlock=some q->q<w9.heap.size:=λq e=>by have:=(ae q e).2;have:=hg7.size;have:=B.size;have:=a3.size;omega
  have bi:∀ q,a1.ownBlock=some q->w5.heap.size<=q/\q<w9.heap.size:=λq e=>by
   obtain⟨_,_,_,_,h3⟩:=Jv cz;exact h3 q e
  have g3:b3<w5.heap.size:=om
  have e2:∀ q,vF.ownBlock=some q->q<w9.heap.size:=λq e=>by
   obtain⟨_,_,_,_,h3⟩:=Jv ak;have:=(h3 q e).2;have:=hg7.size;have:=B.size;have:=a3.size;omega
  have fx:=be.size;have g2:=J.size;have d2:=(d4.ext B).grown a3 λe=>by have:=aw b3 e.symm;omega
  have ay:=d2.ext J;have dn:=(cy.ext B).kept a3 λe=>by have:=aw bm e.symm;omega
  have fo:=(((c1.ext MxC.sta B).old MxC.sta (N':=λq=>N2 w5.heap.size vF vA vB q∨a1.ownBlock=some q) λq y=>y.elim .inl λy=>(bt q y).imp (λy=>.inr (.inr (.inr y))) id).gr MxC.sta (GrN.by a3 λq e=>e) (M:=λq=>vF.ownBlock=some q) λq y=>⟨.inl (.inr (.inr (.inr y))),by
   obtain⟨_,_,ho⟩:=(c1.ext MxC.sta B).own;exact Kq (Jh bj B) ho rfl y⟩)
  have b6:=(((bz.ext RtC.sta B).old RtC.sta (N':=λq=>N2 w5.heap.size vF vA vB q∨a1.ownBlock=some q) λq y=>y.elim .inl λy=>(bt q y).imp (λy=>.inr (.inr (.inr y))) id).gr RtC.sta (GrN.by a3 λq e=>e) (M:=λq=>vF.ownBlock=some q) λq y=>⟨.inl (.inr (.inr (.inr y))),by
   obtain⟨_,_,ho⟩:=(bz.ext RtC.sta B).own;exact Kq (Jh bj B) ho rfl y⟩)
  have dl:∀ q,(N2 w5.heap.size vF vA vB q∨a1.ownBlock=some q)->q<w9.heap.size:=λq y=>by
   rcases y with(y|y|y|y)|y
   .omega
   .exact eo q y
   .exact e7 q y
   .exact e2 q y
   exact(bi q y).2
  obtain⟨RA,rc,eR,_,bh⟩:=id ad.form;subst eR;refine ρ ?_;refine ld (ay.at (i:=1) rfl) ?_;refine ρ ?_;refine bsl (Qwz _ _ _) ?_;intro b4 gw G g6 em;have g1:=G.size;have cb:=((fo.ext MxC.sta J).ext MxC.sta G).old MxC.sta (N':=λq=>(N2 w5.heap.size vF vA vB q∨a1.ownBlock=some q)∨b4.heap.size<=q) λq y=>y;have c9:=((b6.ext RtC.sta J).ext RtC.sta G).old RtC.sta (N':=λq=>(N2 w5.heap.size vF vA vB q∨a1.ownBlock=some q)∨b4.heap.size<=q) λq y=>y;generalize hrow:(Jy k set).map (λv=>PR.int (((es.getD i 0) &&& set).testBit v).toNat)=row at *
  have gh:row.length=(Jy k set).length:=by rw[<-hrow];simp
  have fi:GX 3 RtC (λq=>(N2 w5.heap.size vF vA vB q∨a1.ownBlock=some q)∨b4.heap.size<=q) b4 (.slice RA row.length rc) row:=((ad.ext RtC.sta G).old RtC.sta (N':=λq=>(q<w9.heap.size∨(Value.slice RA row.length rc).ownBlock=some q)∨b4.heap.size<=q) λq y=>y).gx RtC.sta om λq y=>by
   rcases y with y|y
   .have:=dl q y;exact⟨.inl (.inl this),λe=>by have:=(bh q e).1;omega⟩
   exact⟨.inr y,λe=>by have:=(bh q e).2;omega⟩
  have de:(pkA k es set i).length=(Jl es set i).length:=by simp[pkA]
  refine ρ ?_;refine apX EMx MxC.sta cb em rfl (λu hu=>by rw[List.mem_singleton.1 hu];rfl) ⟨_,rfl,fi⟩ (λg hg=>.inl (.inl (.inr (.inl hg)))) om (by decide) om ?_;intro ab cd bq a7 c2;have f4:pkA k es set i++[row]=pkA k es set (i+1):=by rw[pkA,pkA,hk,List.map_append,<-hrow];rfl
  rw[f4]at bq;obtain⟨A',fw,fu,_,ap⟩:=id bq.form;subst fu;have g0:=a7.size;obtain⟨_,_,br⟩:=cb.own;obtain⟨_,_,d1⟩:=c9.own;have e6:=Vg (Jh cz (J.trans G)) br a7 rfl;have eb:=c9.gr RtC.sta (GrN.by a7 λq e=>e) (M:=λq=>vA.ownBlock=some q) λq y=>⟨.inl (.inl (.inr (.inl y))),Kq br d1 rfl y⟩;have bp:=(ay.ext G).grown a7 λe=>by have:=(ae b3 e.symm).1;omega
  have dx:=((dn.ext J).ext G).kept a7 λe=>by have:=(ae bm e.symm).1;omega
  refine ρ ?_;refine stF (i:=1) bp rfl ?_;intro az ax a6;have ai:GrN (λq=>q=b3) cd az:=GrN.by a6 λq e=>by injection e with e;exact e.symm
  have fz:=a6.size;generalize hvA:Value.slice A' (pkA k es set (i+1)).length fw=ab at *
  have et:=(bq.old MxC.sta (N':=λq=>(N2 w5.heap.size vF vA vB q∨a1.ownBlock=some q)∨ab.ownBlock=some q) λq y=>.inl (y.elim .inl λy=>(c2 q y).imp (λy=>.inl (.inr (.inl y))) id)).gr MxC.sta ai λq y=>⟨.inl (.inl (.inl om)),λe=>by have:=(ap q e).1;omega⟩;have ea:=(eb.old RtC.sta (N':=λq=>(N2 w5.heap.size vF vA vB q∨a1.ownBlock=some q)∨ab.ownBlock=some q) λq y=>.inl (y.elim .inl λy=>(c2 q y).imp (λy=>.inl (.inr (.inl y))) id)).gr RtC.sta ai λq y=>⟨.inl (.inl (.inl om)),λe=>by have:=(a8 q e).1;omega⟩;have e5:=Qj e6 ai λg hg e=>by have:=(bi g hg).1;omega
  have dw:=dx.kept a6 λe=>by injection e with e;omega
  have fh:∀ q,((N2 w5.heap.size vF vA vB q∨a1.ownBlock=some q)∨ab.ownBlock=some q)->q<az.heap.size:=λq y=>by
   rcases y with y|y
   .have:=dl q y;omega
   have:=(ap q y).2;omega
  have af:Ext az az.drew:=(Ext.refl az).drew;have f2:=af.size;have ed:=ax.ext af;have ac:¬ vB.ownBlock=some b3:=λe=>by have:=(a8 b3 e).1;omega
  refine ρ ?_;refine drN (λq=>vB.ownBlock=some q) 18 [(0,0),(0,1),(1,2),(1,3),(1,4),(0,5),(2,6)] kr ?_;refine ρn ?_;refine nld (λw' hg=>(Jr ed hg ac).at (i:=2) rfl) ?_;refine ρn ?_;refine nop ?_;refine cl (Jjk 1 (by decide) (by decide) _) ?_;rintro r g8 ⟨hr,bb⟩;obtain⟨D,e,F,f',rfl,fb⟩:=hr.cell;refine Je (Qg (GrN.ext bb) ?_);refine ρn ?_;refine nop ?_;refine bsl (Jlw _ _ _ _ _ _ _) ?_;intro cc gt au g4 d6;have a2:=af.trans (bb.trans au);have f3:=a2.size;have c8:=(ea.ext RtC.sta a2).old RtC.sta (N':=λq=>((N2 w5.heap.size vF vA vB q∨a1.ownBlock=some q)∨ab.ownBlock=some q)∨cc.heap.size<=q) λq y=>y;have ca:=(et.ext MxC.sta a2).old MxC.sta (N':=λq=>((N2 w5.heap.size vF vA vB q∨a1.ownBlock=some q)∨ab.ownBlock=some q)∨cc.heap.size<=q) λq y=>y;refine Je (Qg (GrN.ext au) ?_);refine ρn ?_;refine nop ?_;refine apX ERt RtC.sta c8 d6 rfl (Qz rfl rfl rfl) (RtC.sta.old (RtC.sta.gr fb (GrN.ext au)) λq y=>y.elim (λy=>.inl (nM (fh q y) f2)) .inr) (λg hg=>.inl (.inl (.inl (.inr (.inr (.inl hg)))))) (by simp;omega) (by decide) om ?_
  intro db f0 bn a4 df;have bd:List.replicate (Jl es set i).length (PR.int 1)++[PR.int 1]=List.replicate (Jl es set (i+1)).length (PR.int 1):=by rw[hk,List.length_append,List.length_singleton,List.replicate_succ']
  rw[bd]at bn;obtain⟨_,_,bo⟩:=c8.own;obtain⟨_,_,d7⟩:=ca.own;have e4:=Vg (Jh e5 a2) bo a4 rfl;have er:=ca.gr MxC.sta (GrN.by a4 λq e=>e) (M:=λq=>vB.ownBlock=some q) λq y=>⟨.inl (.inl (.inl (.inr (.inr (.inl y))))),Kq bo d7 rfl y⟩;have ej:=(ed.ext (bb.trans au)).grown a4 λe=>ac e.symm;have du:=(dw.ext a2).kept a4 λe=>by have:=(a8 bm e.symm).1;omega
  obtain⟨U,uc,eU,_,d0⟩:=id bn.form;subst eU;have fy:=a4.size;refine Je (Qg (GrN.by a4 λq e=>e) ?_);refine ρn ?_;refine Xu ?_;refine stF (i:=2) ej rfl ?_;intro da ei bf;have ah:GrN (λq=>q=b3) f0 da:=GrN.by bf λq e=>by injection e with e;exact e.symm
  generalize hvB:Value.slice U (List.replicate (Jl es set (i+1)).length (PR.int 1)).length uc=db at *
  have c6:∀ q,N2 w5.heap.size a1 ab db q->(((N2 w5.heap.size vF vA vB q∨a1.ownBlock=some q)∨ab.ownBlock=some q)∨cc.heap.size<=q):=λq y=>by
   rcases y with y|y|y|y
   .exact .inl (.inl (.inl (.inl y)))
   .exact .inl (.inr y)
   .exact(df q y).imp (λy=>.inl (.inl (.inr (.inr (.inl y))))) id
   exact .inl (.inl (.inr y))
  have ep:=(er.gr MxC.sta ah λq y=>⟨.inl (.inl (.inl (.inl om))),λe=>by have:=(ap q e).1;omega⟩).old MxC.sta λq y=>.inl (c6 q y);have e9:=(bn.gr RtC.sta ah λq y=>⟨.inl (.inl (.inl (.inl om))),λe=>by have:=(d0 q e).1;omega⟩).old RtC.sta λq y=>.inl (c6 q y);have e3:=Qj e4 ah λg hg e=>by have:=(bi g hg).1;omega
  have dt:=du.kept bf λe=>by injection e with e;omega
  have co:GrN (λi=>i=b3∨i=bm) w5 da:=((((be.trans (GrN.ext (J.trans G))).by2 a7 λq e=>.inl (ae q e).1).by2 a6 λq e=>.inr (by injection e with e;exact .inl e.symm)).trans (GrN.ext a2)).by2 a4 (λq e=>.inl (a8 q e).1) |>.by2 bf λq e=>.inr (by injection e with e;exact .inl e.symm);refine Je (Uh ?_);refine ρn ?_;refine ρ ?_;refine Ym (i+1) _ _ _ sO ⟨om,co,e3,ep,e9,ei,m+1,_,om,dt,λp h1 h2=>?_⟩ om;rw[Jdw];by_cases e:es.getD i 0 &&& set=p
  .subst e;rw[Jzz (by trivial)];simp
  rw[Jzx (λe'=>e (by injection e' with _ e';omega)),bw p h1 h2,beq_eq_false_iff_ne.2 e,Bool.or_false]
 have f8:i=es.length:=by have:=oF hc;omega
 subst f8;obtain⟨ew,eu,fq,_,bl⟩:=id am.form;obtain⟨ez,ey,ft,_,fn⟩:=id b7.form;obtain⟨d9,d8,fr,_,fk⟩:=id a9.form;obtain⟨gz,gy,fp,_,fj⟩:=Jv ak;have di:bm<w5.heap.size:=cn.lt;have c0:=((am.old RtC.sta (N':=λq=>N1 w3.heap.size (.slice MA (Jy k set).length mc) vC q∨q=bm) λq y=>y.imp id λy=>by rw[y];exact cq).ext RtC.sta O).gr RtC.sta hg6 λq y=>y.elim (λy=>⟨.inl (.inl om),λe=>by have:=(bl q e).1;omega⟩) λy=>⟨.inr y,λe=>by have:=(bl q e).2;omega⟩;have dq:=Qj ds hg6 λg hg e=>by
  have:=cw g hg;omega
 have ef:=Jr (Jr (eg.ext (Ext.refl _)) (a5.trans (GrN.ext O)) om) hg6 om;subst fq;subst ft;subst fr;subst fp;refine ρ ?_;refine lds (cs:=[.slice ew _ eu,.slice ez _ ey,.slice d9 _ d8]) (λj u hu=>an.at hu) ?_;refine ρ ?_;refine stb (cs':=[.slice ew _ eu,.slice ez _ ey,.slice d9 _ d8]) ef ?_ (λu hu=>by
  simp only[List.mem_cons,List.not_mem_nil,or_false]at hu;rcases hu with rfl|rfl|rfl<;>rfl)
 intro w7 d4 hg7 ba;have Z:GrN (λq=>q=b2) w6 w7:=GrN.by hg7 λq e=>by injection e with e;exact e.symm
 have gb:=hg6.size;have bz:=(c0.gr RtC.sta Z λq y=>⟨.inl (.inl om),λe=>by have:=(bl q e).1;omega⟩).gx (N':=Nn) RtC.sta (by simp;omega) λq y=>y.elim;have de:(pkA k es set es.length).length=(Jl es set es.length).length:=by simp[pkA]
 have f9:=Jwl es set es.length;have c1:=(b7.gr MxC.sta Z λq y=>⟨.inl om,λe=>by have:=(fn q e).1;omega⟩).gx (N':=Nn) MxC.sta om λq y=>y.elim;have ee:=(a9.gr RtC.sta Z λq y=>⟨.inl om,λe=>by have:=(fk q e).1;omega⟩).gx (N':=Nn) RtC.sta (by simp;omega) λq y=>y.elim;have cy:=Rd.own (Qj dq Z λg hg e=>by have:=cw g hg;omega);have bj:=Rd.own (Qj ak Z λg hg e=>by have:=fj g hg;omega);have b9:Ext w w6:=hg6.old (aq.trans O) λq e=>e.elim (λe=>by rw[e];exact cm) λe=>by rw[e];exact nL aq.size cq
 have fl:GX 3 RtC Nn w7 (.slice d9 (List.replicate (Jl es set es.length).length (PR.int 1)).length d8) (List.replicate (Vf k es set).length (PR.int 1)):=by
  rw[show(Vf k es set).length=(Jl es set es.length).length from de];exact ee
 refine ρ ?_;exact Qzk d4 ⟨_,_,_,_,_,_,_,rfl,bz,c1,fl,cy,bj,ba w b9 (nL ck.size fg)⟩
open Go.RowKit Pl Go.Wk Bl
variable {E es is:List Nat}{l l1 l2 xs:List PR}{b i j n s set:Nat}
theorem Jkp(n:Nat)(E:List Nat)(set:Nat): (Vf n E set).length=(Jl E set E.length).length:=by simp[Vf]
theorem Jtn(hi:i<(Jl E set E.length).length): (Vf n E set).getD i []=(Jy n set).map λv=>PR.int (((E.getD (Jl E set E.length)[i] 0) &&& set).testBit v).toNat:=by
 unfold Vf;simp[List.getD,List.getElem?_map,List.getElem?_eq_getElem hi]
theorem Jfx(hi:i<(Jl E set E.length).length)(hj:j<(Jy n set).length): ((Vf n E set).getD i []).getD j pr0=PR.int (((E.getD (Jl E set E.length)[i] 0) &&& set).testBit (Jy n set)[j]).toNat:=by
 rw[Jtn hi];simp[List.getD,List.getElem?_map,List.getElem?_eq_getElem hj]
theorem Jfw(n:Nat)(E:List Nat)(set:Nat): Bin (Jy n set).length (Vf n E set):=λi hi=>by
 rw[Jkp]at hi;refine⟨by rw[Jtn hi];simp,λj u=>?_⟩;rw[Jfx hi u];cases ((E.getD (Jl E set E.length)[i] 0) &&& set).testBit (Jy n set)[j]
 .exact .inl rfl
 exact .inr rfl
theorem Jbw(E:List Nat)(set:Nat): ∀ {i k:Nat},k<i->(E.getD k 0) &&& set≠0->∃ x∈Jl E set i,(E.getD x 0) &&& set=(E.getD k 0) &&& set
 | i+1,k,hk,h0=>by
  by_cases e:k=i
  .subst e;cases hs:Yb E set k ((E.getD k 0) &&& set) with
   | true=>
    obtain⟨x,hx,e⟩:=List.any_eq_true.1 hs;have e:=eq_of_beq e;obtain⟨y,hy,e2⟩:=Jbw E set (List.mem_range.1 hx) (by rw[e];exact h0);exact⟨y,by rw[Jzb (.inr hs)];exact hy,e2.trans e⟩
   | false=>exact⟨k,by rw[Jwj h0 hs];simp,rfl⟩
  obtain⟨x,hx,e2⟩:=Jbw E set (show k<i by omega) h0;refine⟨x,?_,e2⟩;by_cases h1:(E.getD i 0) &&& set=0∨Yb E set i ((E.getD i 0) &&& set)=true
  .rw[Jzb h1];exact hx
  rw[Jwj (λe=>h1 (.inl e)) (by cases hs:Yb E set i ((E.getD i 0) &&& set);rfl;exact absurd (.inr hs) h1)];simp[hx]
theorem Jwk{E:List Nat}{set:Nat}: ∀ {i x:Nat},x∈Jl E set i->x<i
 | i+1,x,h=>by
  by_cases h1:(E.getD i 0) &&& set=0∨Yb E set i ((E.getD i 0) &&& set)=true
  .rw[Jzb h1]at h;have:=Jwk h;omega
  rw[Jwj (λe=>h1 (.inl e)) (by cases hs:Yb E set i ((E.getD i 0) &&& set);rfl;exact absurd (.inr hs) h1)]at h;rcases List.mem_append.1 h with h|h
  .have:=Jwk h;omega
  rw[List.mem_singleton.1 h];omega
theorem noC: ∀ u∈[Value.slice none 0 0,.slice none 0 0,.bool false,.slice none 0 0,.slice none 0 0],∀ z,u≠.int .u32 z:=λu i z e=>by
 simp only[List.mem_cons,List.not_mem_nil,or_false]at i;rcases i with rfl|rfl|rfl|rfl|rfl<;>cases e
def Uu(n:Nat)(E:List Nat)(set:Nat): Prop:=∀ v,v<n->set.testBit v=true->∃ k,k<E.length/\(E.getD k 0).testBit v=true
theorem Jyp(h:Uu n E set): ∀ j,j<(Jy n set).length->∃ i,i<(Vf n E set).length/\Zj (Vf n E set) i j=1:=λj U=>by
 have J:(Jy n set)[j]∈Jy n set:=List.getElem_mem _;obtain⟨G,B⟩:=List.mem_filter.1 J;obtain⟨k,O,y⟩:=h _ (List.mem_range.1 G) B;have u:((E.getD k 0) &&& set).testBit (Jy n set)[j]=true:=by rw[Nat.testBit_and,y,B];rfl
 obtain⟨x,D,e⟩:=Jbw E set O (λe=>by rw[e]at u;simp at u);obtain⟨i,hi,Z⟩:=List.getElem_of_mem D;refine⟨i,by rw[Jkp];exact hi,?_⟩;unfold Zj;rw[Jfx hi U,Z,e,u];decide +kernel
def Ze(l:List PR)(is:List Nat)(xs:List PR)(i:Nat): List PR:=Zo l (is.take i) (xs.take i)
theorem Jkl(l:List PR)(is:List Nat)(xs:List PR): Ze l is xs 0=l:=by simp[Ze,Zo]
theorem Jjl(h:is.length=xs.length): Ze l is xs is.length=Zo l is xs:=by
 rw[Ze,List.take_length,h,List.take_length]
theorem Jyl(hi:i<is.length)(hx:i<xs.length): Ze l is xs (i+1)=(Ze l is xs i).set is[i] xs[i]:=by
 unfold Ze Zo;rw[List.take_add_one,List.take_add_one,List.getElem?_eq_getElem hi,List.getElem?_eq_getElem hx,List.zip_append (by simp;omega),List.foldl_append];rfl
theorem Jqz(l:List PR)(is:List Nat)(xs:List PR)(i:Nat): (Ze l is xs i).length=l.length:=by
 unfold Ze Zo;generalize (is.take i).zip (xs.take i)=z
 induction z generalizing l with
 | nil=>rfl
 | cons p z ih=>rw[List.foldl_cons,ih,List.length_set]
abbrev NZ(s b:Nat)(v1 v2:Value): Nat->Prop:=λk=>k<s∨k=b∨v1.ownBlock=some k∨v2.ownBlock=some k
structure TwoZ(s b:Nat)(w:World)(v1 v2:Value)(l1 l2:List PR): Prop where
 o1:∃ base,OX 58 3 RtC (NZ s b v1 v2) w base v1 l1
 o2:∃ base,OX 58 3 RtC (NZ s b v1 v2) w base v2 l2
 ne:∀ k,v1.ownBlock=some k->v2.ownBlock≠some k
 f1:∀ k,v1.ownBlock=some k->s<=k
 f2:∀ k,v2.ownBlock=some k->s<=k
theorem TwoZ.ext{s b:Nat}{w w':World}{v1 v2:Value}{l1 l2:List PR}(h:TwoZ s b w v1 v2 l1 l2)(hx:Ext w w'): TwoZ s b w' v1 v2 l1 l2:=by
 obtain⟨⟨_,B⟩,⟨_,y⟩,u,j,i⟩:=h;exact⟨⟨_,B.ext RtC.sta hx⟩,⟨_,y.ext RtC.sta hx⟩,u,j,i⟩
theorem twoZ{wa w1 wb w2:World}{v1 v2:Value}(hs:s<=wa.heap.size)(h1:OX 58 3 RtC (Ov wa v1) w1 wa.heap.size v1 l1)(hx0:Ext wa w1)(hx1:Ext w1 wb)(h2:OX 58 3 RtC (Ov wb v2) w2 wb.heap.size v2 l2)(hx2:Ext wb w2)(hb:b<wa.heap.size∨(w1.heap.size<=b/\b<wb.heap.size)∨w2.heap.size<=b): TwoZ s b w2 v1 v2 l1 l2:=by
 obtain⟨_,_,_,_,f1⟩:=id h1.form;obtain⟨_,_,_,_,j⟩:=id h2.form;have z0:=hx0.size;have B:=hx1.size;have y:=hx2.size;refine⟨⟨_,(h1.old RtC.sta (N':=NZ s b v1 v2) λk i=>?_).ext RtC.sta (hx1.trans hx2)⟩,⟨_,h2.old RtC.sta λk i=>?_⟩,λk e u=>?_,λk e=>nL hs (f1 k e).1,λk e=>?_⟩
 .rcases i with i|i|i|i
  .exact .inl (.inl om)
  .rcases hb with hb|hb|hb
   .exact .inl (.inl om)
   .exact .inr om
   exact .inr om
  .exact .inl (.inr i)
  exact .inr (by have:=(j k i).1;omega)
 .rcases i with i|i|i|i
  .exact .inl (.inl om)
  .rcases hb with hb|hb|hb
   .exact .inl (.inl om)
   .exact .inl (.inl om)
   exact .inr om
  .exact .inl (.inl (by have:=(f1 k i).2;omega))
  exact .inl (.inr i)
 .have:=(f1 k e).2;have:=(j k u).1;omega
 have:=(j k e).1;omega
theorem Jqm: Qe Tryz.prog 60=some (.agg #[.slice none 0 0,.slice none 0 0,.bool false,.slice none 0 0,.slice none 0 0]):=kr
theorem Jcp(A B C D:Option Addr)(m c m' c' k d k' d':Nat)(b:Bool)(w:World): (Instr.build 60 #[(0,.slice A m c),(1,.slice B m' c'),(2,.agg #[.bool b,.slice C k d,.slice D k' d'])]).run Tryz.prog w=.ok (.agg #[.slice A m c,.slice B m' c',.bool b,.slice C k d,.slice D k' d']) w:=kr
theorem Jtr{E:List Nat}: ∀ {i v:Nat},i<=E.length->(((List.range i).foldl (λa k=>a ||| E.getD k 0) 0).testBit v=true↔∃ k,k<i/\(E.getD k 0).testBit v=true)
 | 0,v,_=>by simp
 | i+1,v,h=>by
  rw[List.range_succ,List.foldl_append,List.foldl_cons,List.foldl_nil,Nat.testBit_or,Bool.or_eq_true,Jtr om];constructor
  .rintro(⟨k,hk,e⟩|e)
   .exact⟨k,om,e⟩
   exact⟨i,om,e⟩
  rintro⟨k,hk,e⟩;by_cases h1:k=i
  .subst h1;exact .inr e
  exact .inl ⟨k,om,e⟩
def orK(E:List Nat)(i:Nat): Nat:=(List.range i).foldl (λa k=>a ||| E.getD k 0) 0
theorem Jts(E:List Nat)(i:Nat): orK E (i+1)=orK E i ||| E.getD i 0:=by unfold orK;rw[List.range_succ,List.foldl_append];rfl
theorem Xqz{w:World}{A:Option Addr}{c fuel:Nat}{pc:PC}(h:GrV w A c n es)(hs:set<2^n)(h0:set≠0)(hm:es.length<=5)(hcv:Uu n es set)(hf:((Jy n set).length+(Jl es set es.length).length)^(Jl es set es.length).length<=fuel)(hpc:cvr fuel n es set=some pc):
  Ret Tryz.prog 22 [.agg (grC A c n es).toArray,.int .u32 (set:Int)] w λu w'=>∃ W P q1 q2,u=.tuple #[.agg #[W,P,.bool pc.val.neg,q1,q2],.int .i64 0]/\GX 3 RtC Nn w' W pc.ws/\GX 3 RtC Nn w' P pc.ps/\NatX Nn w' q1 pc.val.num/\NatX Nn w' q2 pc.val.den/\Ext w w':=by
 have hn:=h.n32;have f6:=Ku hn;have aq:set<4294967296:=om
 obtain⟨t',c0,ea⟩:=Option.map_eq_some_iff.1 hpc;rw[<-Jkp n]at c0 hf;have f9:=Jgr n set;have f7:=Jkp n es set;have fd:=Jwl es set es.length;have ez:0<(Vf n es set).length:=by
  obtain⟨v,hv⟩:=Nat.exists_testBit_of_ne_zero h0;have ap:v<n:=Nat.lt_of_not_le λc4=>by
   rw[Nat.testBit_lt_two_pow (nM hs (Nat.pow_le_pow_right (n:=2) (by decide) c4))]at hv;cases hv
  have e7:v∈Jy n set:=List.mem_filter.2 ⟨List.mem_range.2 ap,hv⟩;obtain⟨j,hj,_⟩:=List.getElem_of_mem e7;obtain⟨i,hi,_⟩:=Jyp hcv j hj;omega
 obtain⟨d0,cy⟩:t'.point.length=(Jy n set).length/\t'.dual.length=(Jl es set es.length).length:=by
  obtain⟨_,t2,S,cx,hS,_⟩:=Jfz (Jfw n es set) (Jyp hcv) hf;rw[c0]at cx;cases cx
  have h1:=hS.en;have h2:=hS.em;have h3:=hS.agr.ok.goal.1;refine⟨by simp[PT.point,h1],?_⟩;simp only[PT.dual,List.length_take,List.length_drop,h3];simp only[PT.right];omega
 refine Jz Tryz.func22 Tryz.ntmps22 rfl kr rfl ?_;refine ρ ?_;refine bx (cs:=grC A c n es) ?_;intro w1 b1 bz fe ey;refine ρ ?_;refine alc Jqm ?_;intro w2 b2 bw ed de;have a4:=ey.ext bw;refine ρ ?_;refine lds (cs:=grC A c n es) (λj u D=>a4.at D) ?_;refine ρ ?_;refine cl (Jbq ((h.ext bz).ext bw)) ?_;rintro u w3 ⟨rfl,b9⟩;have ak:=a4.ext b9;refine ρ ?_;refine lds (cs:=grC A c n es) (λj u D=>ak.at D) ?_;refine ρ ?_;refine cl (Qbn (w:=w3) hn) ?_;rintro u w4 ⟨rfl,b8⟩;have b5:=ak.ext b8;have f8:0<2^n:=Nat.two_pow_pos n;refine ρ ?_;refine cf ?_ ?_
 .rw[Jvc aq om,Qvt hs hn];rfl
 refine ρ ?_;refine ld (b5.at (i:=1) rfl) ?_;have be:=bz.trans (bw.trans (b9.trans b8));have h4:=h.ext be;refine ρ ?_;refine Js (fun (i:Nat)=>[(1,.int .u32 (set:Int)),(2,.pointer (some ⟨b1,0,none⟩)),(4,.pointer (some ⟨b2,0,none⟩)),(7,.int .u32 ((orK es i:Nat):Int)),(33,.slice A es.length c),(34,.int .i64 (es.length:Int)),(35,.int .i64 (i:Int))]) (λi w'=>i<=es.length/\w'=w4/\orK es i<4294967296) (λi=>es.length-i) 0 sB ⟨Nat.zero_le _,rfl,show 0<4294967296 by decide⟩ ?_;rintro i w5 ⟨hi,rfl,ho⟩;refine ρ ?_;refine ci (λhc=>?_) (λhc=>?_)
 .have a1:i<es.length:=by have:=oT hc;omega
  clear hc;refine ρ ?_;refine ix i h4.rd a1 ?_;refine ρ ?_;refine ld (h4.rd.cell (Jcv a1)) ?_;have bj:=h4.lt32 (getD_mem' 0 es a1);refine ρ ?_;rw[Jqf ho bj,<-Jts];exact Jp (i+1) sO ⟨om,rfl,by rw[Jts];exact Jkr ho bj⟩ om
 have av:i=es.length:=by have:=oF hc;omega
 subst av;clear hc hi;have d3:Ue set (orK es es.length)=0:=by
  apply Nat.eq_of_testBit_eq
  intro v;rw[Jct aq ho,Nat.zero_testBit];cases hb:set.testBit v with
  | false=>rfl
  | true=>
   have hv:v<n:=Nat.lt_of_not_le λc4=>by
    rw[Nat.testBit_lt_two_pow (nM hs (Nat.pow_le_pow_right (n:=2) (by decide) c4))]at hb;cases hb
   have:=(Jtr (E:=es) (v:=v) (Nat.le_refl _)).2 (hcv v hv hb);unfold orK;rw[this];rfl
 refine ρ ?_;refine cf ?_ ?_
 .rw[Jvc aq ho,d3];rfl
 refine ρ ?_;refine lds (cs:=grC A c n es) (λj u D=>b5.at D) ?_;refine ρ ?_;refine cl (Qlv h4 hs hm) ?_;rintro _ w6 ⟨vC,vA,vB,MA,mc,FA,fc,rfl,dc,dj,bt,er,et,cn⟩;obtain⟨dn,dm,_,rfl,_,_,_,_,_⟩:=id dc.el;obtain⟨du,dt,_,rfl,_,_,_,_,_⟩:=id dj.el;obtain⟨ds,dq,_,rfl,_,_,_,_,_⟩:=id bt.el;refine ρ ?_;refine alc zPb ?_;intro w7 b7 e5 ec ew;refine ρ ?_;refine stb (cs':=[.slice dn _ dm,.slice du _ dt,.slice ds _ dq]) ew ?_ (λu D=>by
  simp only[List.mem_cons,List.not_mem_nil,or_false]at D;rcases D with rfl|rfl|rfl<;>rfl)
 intro w8 eu fb e4;have ab:Ext w6 w8:=e4 w6 e5 ec;have f0:=cn.trans ab;refine ρ ?_;refine lds (cs:=[.slice dn _ dm,.slice du _ dt,.slice ds _ dq]) (λj u D=>eu.at D) ?_;refine cl (Qdv (dc.ext RtC.sta (by decide) ab) (dj.ext MxC.sta (by decide) ab) (bt.ext RtC.sta (by decide) ab) (λk J=>J.elim) (Jfw n es set) (Jyp hcv) om om ez hf c0) ?_;rintro _ w9 ⟨X,Y,q1,q2,rfl,d5,d4,cu,cr,e3⟩;generalize hq:t'.goal.getD t'.right pr0=q at *
 obtain⟨X1,X2,_,rfl,_,_,_,_,_⟩:=id d5.el;obtain⟨Y1,Y2,_,rfl,_,_,_,_,_⟩:=id d4.el;obtain⟨Q1,c1,rfl⟩:=cu.1.sl;obtain⟨Q2,c2,rfl⟩:=cr.1.sl;refine ρ ?_;refine alc zSol ?_;intro f4 cj cq d2 di;refine ρ ?_;refine stb (cs':=[.int .i64 0,.slice X1 _ X2,.slice Y1 _ Y2,.slice none 0 0,.bool q.neg,.slice Q1 _ c1,.slice Q2 _ c2]) di ?_ (λu D=>by
  simp only[List.mem_cons,List.not_mem_nil,or_false]at D;rcases D with rfl|rfl|rfl|rfl|rfl|rfl|rfl<;>rfl)
 intro a5 dh f3 cp;have ao:Ext w9 a5:=cp w9 cq d2;have an:Ext a5 a5.drew:=(Ext.refl a5).drew;have ae:=ab.trans (e3.trans ao);have ah:=cn.trans (ae.trans an);have bu:=b5.ext ah;have ac:=dh.ext an;refine ρ ?_;refine drH (λi=>i == 11) ?_;refine Ux (fuel':=5) 18 [(0,0),(0,1),(0,2),(0,4),(0,5),(0,7),(0,8)] #[true,true,true,false,true,true,false,true,true,false,false,false] kr kr rfl ?_;refine ρd ?_;refine dld (bu.at (i:=1) rfl) ?_;refine ρd ?_;refine dld (bu.at (i:=0) rfl) ?_;refine ρd ?_;refine Qb (cs:=[.bool q.neg,.slice Q1 (Jj q.num).length c1,.slice Q2 (Jj q.den).length c2]) (λj u D=>match j,D with
  | 0,D=>by injection D with D;subst D;exact ac.at (i:=4) rfl
  | 1,D=>by injection D with D;subst D;exact ac.at (i:=5) rfl
  | 2,D=>by injection D with D;subst D;exact ac.at (i:=6) rfl
  | j+3,D=>by cases D) ?_
 refine ρd ?_;refine Yq ?_;refine hcut 1 (lst 12 11) (fun (y:(Option Addr×Nat)×(Option Addr×Nat)×Nat)=>[(73,.agg #[.slice y.1.1 es.length y.1.2,.slice y.2.1.1 n y.2.1.2,.bool q.neg,.slice Q1 (Jj q.num).length c1,.slice Q2 (Jj q.den).length c2]),(15,.pointer (some ⟨y.2.2,0,none⟩)),(2,.pointer (some ⟨b1,0,none⟩)),(4,.pointer (some ⟨b2,0,none⟩)),(11,.slice MA (Jy n set).length mc),(12,.slice FA (Jl es set es.length).length fc),(13,.pointer (some ⟨cj,0,none⟩))])
  (λy W=>Ext a5.drew W/\TwoZ a5.drew.heap.size y.2.2 W (.slice y.1.1 es.length y.1.2) (.slice y.2.1.1 n y.2.1.2) (List.replicate es.length pr0) (List.replicate n pr0)/\Blk W y.2.2 60 [.slice none 0 0,.slice none 0 0,.bool false,.slice none 0 0,.slice none 0 0]/\a5.drew.heap.size<=y.2.2) ?_ ?_
 rotate_left
 .intro rest;have zl (m:Nat) (W:World) (hm:m<=64):=Xqs m (show m<=1000 by omega) W;refine Jwf 3 10 kr rfl rfl rfl ?_ ?_
  .refine cl (zl es.length _ om) ?_;rintro W v1 ⟨hW,a2⟩;obtain⟨W1,W2,_,eW,_,_⟩:=id hW.el;rw[List.length_replicate]at eW;subst eW;refine Je (Xv (λ_=>a2) ?_);refine Jwf 6 10 kr rfl rfl rfl ?_ ?_
   .refine cl (zl n _ om) ?_;rintro P v2 ⟨hP,Z⟩;obtain⟨P1,P2,_,eP,_,_⟩:=id hP.el;rw[List.length_replicate]at eP;subst eP;have hZ (b:Nat) (hb:v2.heap.size<=b):=twoZ (b:=b) (Nat.le_refl _) hW a2 (Ext.refl _) hP Z (.inr (.inr hb));refine Je (Xv (λ_=>Z) ?_);refine Jwf 9 10 kr rfl rfl rfl ?_ ?_
    .refine bld (Jcp _ _ _ _ _ _ _ _ _ _ _ _ _ _) ?_;refine Je (Xv (λ_=>Ext.refl _) ?_);refine Vl 10 kr rfl rfl ?_;refine alc Jqm ?_;intro v3 B O G U;refine Je (Xv (λ_=>O) ?_);refine hlist (listed':=lst 12 11) kr ?_;exact rest ((W1,W2),(P1,P2),B) _ _ ⟨a2.trans (Z.trans O),(hZ B G).ext O,U,Nat.le_trans (a2.trans Z).size G⟩ sB
    refine alc Jqm ?_;intro v3 B O G U;refine Je (Xv (λ_=>O) ?_);refine Vl 9 kr rfl rfl ?_;refine bld (Jcp _ _ _ _ _ _ _ _ _ _ _ _ _ _) ?_;refine Je (Xv (λ_=>Ext.refl _) ?_);refine hlist (listed':=lst 12 11) kr ?_;exact rest ((W1,W2),(P1,P2),B) _ _ ⟨a2.trans (Z.trans O),(hZ B G).ext O,U,Nat.le_trans (a2.trans Z).size G⟩ sB
   refine alc Jqm ?_;intro v2 B Z G U;refine Je (Xv (λ_=>Z) ?_);refine Vl 6 kr rfl rfl ?_;refine cl (zl n _ om) ?_;rintro P v3 ⟨hP,O⟩;obtain⟨P1,P2,_,eP,_,_⟩:=id hP.el;rw[List.length_replicate]at eP;subst eP;have hZ:=twoZ (b:=B) (Nat.le_refl _) hW a2 Z hP O (.inr (.inl ⟨G,U.lt⟩));refine Je (Xv (λ_=>O) ?_);refine Vl 9 kr rfl rfl ?_;refine bld (Jcp _ _ _ _ _ _ _ _ _ _ _ _ _ _) ?_;refine Je (Xv (λ_=>Ext.refl _) ?_);refine hlist (listed':=lst 12 11) kr ?_;exact rest ((W1,W2),(P1,P2),B) _ _ ⟨a2.trans (Z.trans O),hZ,U.ext O,Nat.le_trans a2.size G⟩ sB
  refine alc Jqm ?_;intro v1 B a2 G U;refine Je (Xv (λ_=>a2) ?_);refine Vl 3 kr rfl rfl ?_;refine cl (zl es.length _ om) ?_;rintro W v2 ⟨hW,Z⟩;obtain⟨W1,W2,_,eW,_,_⟩:=id hW.el;rw[List.length_replicate]at eW;subst eW;refine Je (Xv (λ_=>Z) ?_);refine Vl 6 kr rfl rfl ?_;refine cl (zl n _ om) ?_;rintro P v3 ⟨hP,O⟩;obtain⟨P1,P2,_,eP,_,_⟩:=id hP.el;rw[List.length_replicate]at eP;subst eP;have hZ:=twoZ (b:=B) a2.size hW Z (Ext.refl _) hP O (.inl U.lt);refine Je (Xv (λ_=>O) ?_);refine Vl 9 kr rfl rfl ?_;refine bld (Jcp _ _ _ _ _ _ _ _ _ _ _ _ _ _) ?_;refine Je (Xv (λ_=>Ext.refl _) ?_);refine hlist (listed':=lst 12 11) kr ?_;exact rest ((W1,W2),(P1,P2),B) _ _ ⟨a2.trans (Z.trans O),hZ,(U.ext Z).ext O,G⟩ sB
 rintro⟨⟨W1,W2⟩,⟨P1,P2⟩,B⟩ dz ⟨bd,bl,a4,G⟩;simp only at bl a4 G ⊢;refine Vl 11 kr rfl rfl ?_;refine stb (cs':=[.slice W1 es.length W2,.slice P1 n P2,.bool q.neg,.slice Q1 (Jj q.num).length c1,.slice Q2 (Jj q.den).length c2]) a4 ?_ (λu D=>by
  simp only[List.mem_cons,List.not_mem_nil,or_false]at D;rcases D with rfl|rfl|rfl|rfl|rfl<;>rfl)
 intro cm ak bi bc;have e2:Ext a5.drew cm:=bc _ bd G;obtain⟨⟨dl,az⟩,⟨dk,b4⟩,cw,c8,c7⟩:=bl;have af:GrN (λk=>k=B) dz cm:=GrN.by bi λk e=>by injection e with e;exact e.symm
 obtain⟨_,_,ba⟩:=az.own;obtain⟨_,_,bb⟩:=b4.own;have bo:=az.gr RtC.sta af λk e=>⟨.inr (.inl e),by rw[e];exactλe'=>a4.ne_own ba kr e'.symm⟩;have br:=b4.gr RtC.sta af λk e=>⟨.inr (.inl e),by rw[e];exactλe'=>a4.ne_own bb kr e'.symm⟩;refine Je (Xv (λh=>by cases h) ?_);refine Vz kr ?_;generalize hsz:a5.drew.heap.size=s at *
 clear az b4 ba bb a4 bd bc bi af;have cd:=bo.old RtC.sta (N':=λk=>k=B∨(Value.slice W1 es.length W2).ownBlock=some k∨(Value.slice P1 n P2).ownBlock=some k) λk J=>.inl (.inr J);have ch:=br.old RtC.sta (N':=λk=>k=B∨(Value.slice W1 es.length W2).ownBlock=some k∨(Value.slice P1 n P2).ownBlock=some k) λk J=>.inl (.inr J);clear bo br;have ep:∀ k,(k=B∨(Value.slice W1 es.length W2).ownBlock=some k∨(Value.slice P1 n P2).ownBlock=some k)->s<=k:=λk J=>by
  rcases J with J|J|J
  .omega
  .exact c8 k J
  exact c7 k J
 generalize hNN:(λk=>k=B∨(Value.slice W1 es.length W2).ownBlock=some k∨(Value.slice P1 n P2).ownBlock=some k)=NN at *
 have d9:∀ k,(Value.slice W1 es.length W2).ownBlock=some k->NN k:=λk J=>by rw[<-hNN];exact .inr (.inl J)
 have d8:∀ k,(Value.slice P1 n P2).ownBlock=some k->NN k:=λk J=>by rw[<-hNN];exact .inr (.inr J)
 have bs:∀ k,NN k->s<=k:=λk J=>ep k (by rw[<-hNN]at J;exact J);have ag:Ext w9 a5.drew:=ao.trans an;have ej:=(d5.ext RtC.sta (by decide) ag).old RtC.sta (by decide) (N':=NN) λk J=>.inr (by rw[hsz];exact bs k J);have eg:=(d4.ext RtC.sta (by decide) ag).old RtC.sta (by decide) (N':=NN) λk J=>.inr (by rw[hsz];exact bs k J);have da:=er.ext (ae.trans an);have db:=et.ext (ae.trans an);have d1:t'.point.length=(Jy n set).length:=d0;have cz:t'.dual.length=(Jl es set es.length).length:=cy;obtain⟨XA,XC,_,eX,_,_,eh,_,ei⟩:=id ej.el;injection eX with eXa _ eXc
 subst eXa;obtain⟨YA,YC,_,eY,_,_,ee,_,ef⟩:=id eg.el;injection eY with eYa _ eYc
 subst eYa;refine ρ ?_;refine Js (fun (i:Nat)=>[(2,.pointer (some ⟨b1,0,none⟩)),(4,.pointer (some ⟨b2,0,none⟩)),(11,.slice MA (Jy n set).length mc),(12,.slice FA (Jl es set es.length).length fc),(13,.pointer (some ⟨cj,0,none⟩)),(15,.pointer (some ⟨B,0,none⟩)),(74,.slice MA (Jy n set).length mc),(75,.int .i64 ((Jy n set).length:Int)),(76,.int .i64 (i:Int))])
  (λi w'=>i<=(Jy n set).length/\Ext a5.drew w'/\OX 58 3 RtC NN w' dl (.slice W1 es.length W2) (List.replicate es.length pr0)/\OX 58 3 RtC NN w' dk (.slice P1 n P2) (Ze (List.replicate n pr0) (Jy n set) t'.point i)/\Blk w' B 60 [.slice W1 es.length W2,.slice P1 n P2,.bool q.neg,.slice Q1 (Jj q.num).length c1,.slice Q2 (Jj q.den).length c2]) (λi=>(Jy n set).length-i) 0 sB ⟨Nat.zero_le _,e2,cd,by rw[Jkl];exact ch,ak⟩ ?_
 rintro i b6 ⟨hi,ai,bn,b3,aa⟩;refine ρ ?_;refine ci (λhc=>?_) (λhc=>?_)
 .have a1:i<(Jy n set).length:=by have:=oT hc;omega
  clear hc;refine ρ ?_;refine ix i (da.ext ai) a1 ?_;refine ρ ?_;refine ld ((da.ext ai).cell (Qs a1)) ?_;refine ρ ?_;have cb:i<t'.point.length:=om
  have ap:(Jy n set).getD i 0<n:=Jgq (getD_mem' 0 _ a1);have a3:Ext b6 b6.drew:=(Ext.refl b6).drew;have a8:=ai.trans a3;have cg:=b3.ext RtC.sta a3;have bg:n=(Ze (List.replicate n pr0) (Jy n set) t'.point i).length:=by rw[Jqz];simp
  obtain⟨ce,_,ar,c9⟩:=ei i cb;have au:=Jyl (l:=List.replicate n pr0) a1 cb;rw[show(Jy n set)[i]=(Jy n set).getD i 0 by simp[List.getD,List.getElem?_eq_getElem a1]]at au;generalize t'.point[i]=x at *
  obtain⟨F1,f1,F2,f2,rfl,e8⟩:=ar.sl;refine dr [(0,0),(0,1),(0,2),(0,3),(0,4),(0,5),(0,6),(0,7),(0,8),(2,9)] kr ?_;refine ρd ?_;refine dld ((aa.ext a3).at (i:=1) rfl) ?_;refine ρd ?_;refine dld ((ac.ext a8).at (i:=1) rfl) ?_;refine ρd ?_;refine Xc 3 i (eh.ext a8) cb ?_;refine ρd ?_;refine Qb (λj u D=>Zz a8 (c9 j u D)) ?_;refine ρd ?_;obtain⟨_,eo⟩:=cg.rd bg;refine Xc 3 ((Jy n set).getD i 0) eo ap ?_;refine ρd ?_;refine Jd ?_;refine stX RtC.sta cg bg (show(Jy n set).getD i 0<_ by omega) (cs:=[.bool x.neg,.slice F1 _ f1,.slice F2 _ f2]) (a:=x) (RtC.sta.gr ar (GrN.ext a8)) d8 (Qz rfl rfl rfl) ?_;intro dx bq ax;have c6:GrN (λk=>(Value.slice P1 n P2).ownBlock=some k) b6.drew dx:=GrN.by ax λk e=>e
  rw[<-au]at bq;obtain⟨_,_,bb⟩:=cg.own;have d6:=(bn.ext RtC.sta a3).gr RtC.sta c6 λk e=>⟨d8 k e,λe'=>cw k e' e⟩;have U:=(aa.ext a3).grown ax λe=>(aa.ext a3).ne_own bb kr e;refine ρ ?_;exact Jp (i+1) sO ⟨om,Ja a8 ax λk J=>by rw[hsz];exact c7 k J,d6,bq,U⟩ om
 have av:i=(Jy n set).length:=by have:=oF hc;omega
 subst av;clear hc hi;rw[Jjl d1.symm]at b3;refine ρ ?_;refine Js (fun (i:Nat)=>[(2,.pointer (some ⟨b1,0,none⟩)),(4,.pointer (some ⟨b2,0,none⟩)),(12,.slice FA (Jl es set es.length).length fc),(13,.pointer (some ⟨cj,0,none⟩)),(15,.pointer (some ⟨B,0,none⟩)),(91,.slice FA (Jl es set es.length).length fc),(92,.int .i64 ((Jl es set es.length).length:Int)),(93,.int .i64 (i:Int))])
  (λi w'=>i<=(Jl es set es.length).length/\Ext a5.drew w'/\OX 58 3 RtC NN w' dl (.slice W1 es.length W2) (Ze (List.replicate es.length pr0) (Jl es set es.length) t'.dual i)/\OX 58 3 RtC NN w' dk (.slice P1 n P2) (Zo (List.replicate n pr0) (Jy n set) t'.point)/\Blk w' B 60 [.slice W1 es.length W2,.slice P1 n P2,.bool q.neg,.slice Q1 (Jj q.num).length c1,.slice Q2 (Jj q.den).length c2]) (λi=>(Jl es set es.length).length-i) 0 sB ⟨Nat.zero_le _,ai,by rw[Jkl];exact bn,b3,aa⟩ ?_
 rintro i am ⟨hi,a7,ay,bp,aj⟩;refine ρ ?_;refine ci (λhc=>?_) (λhc=>?_)
 .have a1:i<(Jl es set es.length).length:=by have:=oT hc;omega
  clear hc;refine ρ ?_;refine ix i (db.ext a7) a1 ?_;refine ρ ?_;refine ld ((db.ext a7).cell (Qs a1)) ?_;refine ρ ?_;have ca:i<t'.dual.length:=om
  have ap:(Jl es set es.length).getD i 0<es.length:=Jwk (getD_mem' 0 _ a1);have a3:Ext am am.drew:=(Ext.refl am).drew;have a6:=a7.trans a3;have cc:=ay.ext RtC.sta a3;have bf:es.length=(Ze (List.replicate es.length pr0) (Jl es set es.length) t'.dual i).length:=by rw[Jqz];simp
  obtain⟨ce,_,ar,c9⟩:=ef i ca;have au:=Jyl (l:=List.replicate es.length pr0) a1 ca;rw[show(Jl es set es.length)[i]=(Jl es set es.length).getD i 0 by simp[List.getD,List.getElem?_eq_getElem a1]]at au;generalize t'.dual[i]=x at *
  obtain⟨F1,f1,F2,f2,rfl,e8⟩:=ar.sl;refine dr [(0,0),(0,1),(0,2),(0,3),(0,4),(0,5),(0,6),(0,7),(0,8),(2,9)] kr ?_;refine ρd ?_;refine dld ((aj.ext a3).at (i:=0) rfl) ?_;refine ρd ?_;refine dld ((ac.ext a6).at (i:=2) rfl) ?_;refine ρd ?_;refine Xc 3 i (ee.ext a6) ca ?_;refine ρd ?_;refine Qb (λj u D=>Zz a6 (c9 j u D)) ?_;refine ρd ?_;obtain⟨_,ek⟩:=cc.rd bf;refine Xc 3 ((Jl es set es.length).getD i 0) ek ap ?_;refine ρd ?_;refine Jd ?_;refine stX RtC.sta cc bf (show(Jl es set es.length).getD i 0<_ by omega) (cs:=[.bool x.neg,.slice F1 _ f1,.slice F2 _ f2]) (a:=x) (RtC.sta.gr ar (GrN.ext a6)) d9 (Qz rfl rfl rfl) ?_;intro dw bm aw;have c5:GrN (λk=>(Value.slice W1 es.length W2).ownBlock=some k) am.drew dw:=GrN.by aw λk e=>e
  rw[<-au]at bm;obtain⟨_,_,ba⟩:=cc.own;have d7:=(bp.ext RtC.sta a3).gr RtC.sta c5 λk e=>⟨d9 k e,λe'=>cw k e e'⟩;have dg:=(aj.ext a3).grown aw λe=>(aj.ext a3).ne_own ba kr e;refine ρ ?_;exact Jp (i+1) sO ⟨om,Ja a6 aw λk J=>by rw[hsz];exact c8 k J,bm,d7,dg⟩ om
 have av:i=(Jl es set es.length).length:=by have:=oF hc;omega
 subst av;clear hc hi;rw[Jjl cz.symm]at ay;have ad:=((de.ext (b9.trans b8)).ext (ah)).ext a7;refine ρ ?_;refine lds (cs:=[.slice W1 es.length W2,.slice P1 n P2,.bool q.neg,.slice Q1 (Jj q.num).length c1,.slice Q2 (Jj q.den).length c2]) (λj u D=>aj.at D) ?_;refine ρ ?_;refine stb (cs':=[.slice W1 es.length W2,.slice P1 n P2,.bool q.neg,.slice Q1 (Jj q.num).length c1,.slice Q2 (Jj q.den).length c2]) ad ?_ (λu D=>by
  simp only[List.mem_cons,List.not_mem_nil,or_false]at D;rcases D with rfl|rfl|rfl|rfl|rfl<;>rfl)
 intro ck df bh co;have eb:GrN (λk=>NN k∨k=b2) am ck:=GrN.by bh λk e=>by injection e with e;exact .inr e.symm
 refine ρ ?_;have fa:=de.lt;have f5:w2.heap.size<=s:=by rw[<-hsz];exact((b9.trans b8).trans ah).size
 have e9:(Zo (List.replicate n pr0) (Jy n set) t'.point).length=n:=by rw[<-Jjl d1.symm,Jqz];simp
 have e6:(Zo (List.replicate es.length pr0) (Jl es set es.length) t'.dual).length=es.length:=by rw[<-Jjl cz.symm,Jqz];simp
 have e1:=(cu.ext (ag.trans a7)).box ad noC;have e0:=(cr.ext (ag.trans a7)).box ad noC;have g1:=Jbr (ay.gx (N':=Nn) RtC.sta om λk J=>J.elim) ad noC (λe=>by have:=c8 b2 e;omega);have g2:=Jbr (bp.gx (N':=Nn) RtC.sta om λk J=>J.elim) ad noC (λe=>by have:=c7 b2 e;omega);have a9:GrN (λk=>Nn k∨k=b2) am ck:=GrN.by bh λk e=>by injection e with e;exact .inr e.symm
 subst ea;subst hq;exact Xh df ⟨_,_,_,_,rfl,(g1.gr RtC.sta (by decide) a9).old RtC.sta (by decide) λk J=>J.elim,(g2.gr RtC.sta (by decide) a9).old RtC.sta (by decide) λk J=>J.elim,(e1.gr a9).old λk J=>J.elim,(e0.gr a9).old λk J=>J.elim,co w (be.trans (ah.trans a7)) (nL bz.size ed)⟩
open Go.RowKit Pl Go.Wk Bl
variable {m n:Nat}{v vl x y:Value}{w:World}
theorem Jnn{fid:FuncId}{cap:Array Value}{ls:List PR}(Inv:Nat->World->Prop)(hx:∀ i w w',Inv i w->Ext w w'->Inv i w')(hl:∀ i w,Inv i w->GX 3 RtC Nn w vl ls)(step:∀ i (hi:i<ls.length) w v,Inv i w->RtX Nn w v ls[i]->Ret Tryz.prog fid ([.int .i64 (i:Int),v]++cap.toList) w λu w'=>Inv (i+1) w')(h0:Inv 0 w):
  Ret Tryz.prog 99 [vl,.func (.func fid) #[] cap] w λu w'=>Inv ls.length w':=by
 obtain⟨A,c,_,rfl,_,a7,_⟩:=id (hl 0 w h0).el;refine Jz Tryz.func99 Tryz.ntmps99 rfl kr rfl ?_;refine ρ ?_;refine Js (fun (i:Nat)=>[(1,.func (.func fid) #[] cap),(6,.slice A ls.length c),(7,.int .i64 (ls.length:Int)),(8,.int .i64 (i:Int))]) (λi w'=>i<=ls.length/\Inv i w') (λi=>ls.length-i) 0 sB ⟨Nat.zero_le _,h0⟩ ?_;rintro i w1 ⟨hi,hI⟩;refine ρ ?_;refine ci (λD=>?_) (λD=>?_)
 .have B:i<ls.length:=by have:=oT D;omega
  clear D;obtain⟨A',c',_,ev,_,_,hr,_,he⟩:=id (hl i w1 hI).el;injection ev with ev1 _ ev3
  subst ev1;obtain⟨ce,_,U,a2⟩:=he i B;obtain⟨F1,f1,F2,f2,rfl,Z⟩:=U.sl;refine ρ ?_;refine ixq 3 i hr B ?_;refine ρ ?_;refine lds (λj u O=>a2 j u O) ?_;refine ρ ?_;refine alc Yv ?_;intro w2 b2 J a3 a6;refine ρ ?_;refine stb (cs':=[.bool ls[i].neg,.slice F1 _ f1,.slice F2 _ f2]) a6 ?_ (Qz rfl rfl rfl);intro w3 a5 a8 G;have y:Ext w1 w3:=G w1 J a3;refine ρ ?_;refine lds (cs:=[.bool ls[i].neg,.slice F1 _ f1,.slice F2 _ f2]) (λj u O=>a5.at O) ?_;refine ρ ?_;refine clv (step i B w3 _ (hx i _ _ hI y) (Z.ext y)) ?_;rintro u w4 a4;refine ρ ?_;exact Jp (i+1) sO ⟨om,a4⟩ om
 have a1:i=ls.length:=by have:=oF D;omega
 subst a1;refine ρ ?_;exact Yx hI
theorem Qzq(hv:NatV w v n)(hn:n<=2147483648): Ret Tryz.prog 56 [v] w λr w'=>r=.tuple #[.int .i64 (n:Int),.int .i64 0]/\w'=w:=by
 refine Jz Tryz.func56 Tryz.ntmps56 rfl kr rfl ?_;refine ρ ?_;refine cl (Jgj hv om) ?_;rintro _ w1 ⟨rfl,rfl⟩;refine ρ ?_;refine cf ?_ ?_
 .simp;omega
 refine ρ ?_;rw[Vn (z:=(n:Int)) om];exact Xb ⟨rfl,rfl⟩
theorem Xqg(hx:NatX Nn w x n)(hy:NatX Nn w y m)(hn:n<4294967296)(hm:m<4294967296)(h0:0<m): Ret Tryz.prog 103 [x,y] w λr w'=>NatX Nn w' r (Nat.gcd n m)/\Ext w w':=by
 have U:∀ {k:Nat},k<4294967296->(Jj k).length<=1000:=fun {k} h=>by have:=Qa (n:=k) om;omega
 refine Jz Tryz.func103 Tryz.ntmps103 rfl kr rfl ?_;refine ρ ?_;refine Kh (fun (a b:Nat) (D vb:Value)=>[(0,D),(1,vb)]) (λa b D vb w'=>Ext w w'/\NatX Nn w' D a/\NatX Nn w' vb b/\a<4294967296/\b<4294967296/\Nat.gcd a b=Nat.gcd n m) (λ_ b _ _=>b) n m x y sB ⟨Ext.refl _,hx,hy,hn,hm,rfl⟩ ?_;rintro a b D vb w1 ⟨u,Z,J,O,i,G⟩;refine ρ ?_;refine cl (Um J.1 (U i)) ?_;rintro _ w2 ⟨rfl,rfl⟩;refine ρ ?_;refine ci (λh=>?_) (λh=>?_)
 .have B:b≠0:=by rintro rfl;revert h;decide
  clear h;refine ρ ?_;refine cl (Jjr Z.1 J.1 (U O) om i) ?_;rintro _ w3 ⟨⟨q,r,rfl,hq,hr⟩,j⟩;refine ρ ?_;exact Ym b (a % b) _ _ sO ⟨u.trans j,J.ext j,hr.old λk hk=>hk.elim,i,Nat.lt_of_lt_of_le (Nat.mod_lt _ om) om,by rw[<-G,Nat.gcd_comm a b,Nat.gcd_rec b a];exact Nat.gcd_comm _ _⟩ (Nat.mod_lt _ om)
 have B:b=0:=by
  rcases Nat.eq_zero_or_pos b with h1|h1
  .exact h1
  have:=(Ky (x:=b) om).1;simp at h;omega
 subst B;rw[Nat.gcd_zero_right]at G;subst G;refine ρ ?_;exact Jq ⟨Z,u⟩
end Go.Proofs.YtebiphhfkdbpfaaGreatDoor
namespace Go.Wk
open Go.RowKit
variable {i:Nat}{x:Operand}{t:TypeId}{u v:Value}
section
variable {P:Program} {n:Nat} {al:AL} {w:World} {Q:Exit->Act->World->Prop} {ops:Array Oper} {rest:List Oper} {drest:List (Nat×Oper)} {d ty:Nat} {pos:String} {aft:Array Edge}
theorem fld(hb:∀ w,(Instr.field t v i).run P w=.ok u w)(kk:WL P n ops Q rest ((d,u)::al) w)(hx:ev al x=some v:=by rfl)(hd:Nat.blt d n=true:=by rfl):
  WL P n ops Q (⟨some d,.field t x i,ty,pos,aft,none⟩::rest) al w:=wop hd (λa j=>by simp[execOp,j.ev hx,hb]) kk
theorem dfld(hb:∀ w,(Instr.field t v i).run P w=.ok u w)(kk:WD P n ops Q drest ((d,u)::al) w)(hx:ev al x=some v:=by rfl)(hd:Nat.blt d n=true:=by rfl):
  WD P n ops Q ((0,⟨some d,.field t x i,ty,pos,aft,none⟩)::drest) al w:=dy (λw' _ a j=>by simp[execOp,j.ev hx,hb]) hd kk
end
end Go.Wk
namespace Go.Proofs.YtebiphhfkdbpfaaGreatDoor
open Go.RowKit Pl Go.Wk Bl
attribute [local irreducible] WC WL QX WD WDB WP WN WG WH
variable {ws:List PR}{d i sc:Nat}{P1 Q1 Q2 SA:Option Addr}{v vW vd vl:Value}{w:World}
theorem fldD(b:Bool)(A B:Option Addr)(m c m' c':Nat)(w:World): (Instr.field 58 (.agg #[.bool b,.slice A m c,.slice B m' c']) 2).run Tryz.prog w=.ok (.slice B m' c') w:=kr
theorem fldN(b:Bool)(A B:Option Addr)(m c m' c':Nat)(w:World): (Instr.field 58 (.agg #[.bool b,.slice A m c,.slice B m' c']) 1).run Tryz.prog w=.ok (.slice A m c) w:=kr
theorem Xzt{b:Bool}{P2 P3 m1 c1 m2 c2:Nat}{sizes:List Nat}(hW:GX 3 RtC Nn w vW ws)(hS:Rd w 1 SA sizes.length (Jb (nz sizes)))(hl:sizes.length=ws.length)(hn:∀ q∈ws,0<=q.sign/\q.num<18446744073709551616):
  Ret Tryz.prog 54 [.agg #[vW,.slice P1 P2 P3,.bool b,.slice Q1 m1 c1,.slice Q2 m2 c2],.slice SA sizes.length sc] w λu w'=>u=.int .i64 0/\Ext w w':=by
 obtain⟨W1,W2,_,rfl,_,a6,a4,_,a5⟩:=id hW.el;refine Jz Tryz.func54 Tryz.ntmps54 rfl kr rfl ?_;refine ρ ?_;refine bx (cs:=[.slice W1 ws.length W2,.slice P1 P2 P3,.bool b,.slice Q1 m1 c1,.slice Q2 m2 c2]) ?_;intro w1 b1 Z a8 O;refine ρ ?_;refine ld (O.at (i:=0) rfl) ?_;refine ρ ?_;refine cf ?_ ?_
 .simp;omega
 refine ρ ?_;refine Js (fun (i:Nat)=>[(2,.pointer (some ⟨b1,0,none⟩)),(13,.slice SA sizes.length sc),(14,.int .i64 (sizes.length:Int)),(15,.int .i64 (i:Int))]) (λi w'=>i<=sizes.length/\Ext w1 w') (λi=>sizes.length-i) 0 sB ⟨Nat.zero_le _,Ext.refl _⟩ ?_;rintro i w2 ⟨hi,B⟩;have y:=Z.trans B;refine ρ ?_;refine ci (λhc=>?_) (λhc=>?_)
 .have J:i<sizes.length:=by have:=oT hc;omega
  clear hc;have D:i<ws.length:=om
  obtain⟨ce,_,a1,a3⟩:=a5 i D;obtain⟨F1,f1,F2,f2,rfl,a2⟩:=a1.sl;obtain⟨a7,G⟩:=hn _ (List.getElem_mem D);refine ρ ?_;refine ix i (hS.ext y) J ?_;refine ρ ?_;refine ld ((hS.ext y).cell (Qs J)) ?_;refine ρ ?_;refine kf 22 ?_ ?_
  .simp
  refine ρ ?_;refine ld ((O.ext B).at (i:=0) rfl) ?_;refine ρ ?_;refine ixq 3 i (a4.ext y) D ?_;refine ρ ?_;refine lds (λj u hu=>Zz y (a3 j u hu)) ?_;refine ρ ?_;refine cl (Ga (a2.ext y) (by have:=Qa G;omega)) ?_;rintro _ w3 ⟨rfl,U⟩;refine ρ ?_;refine cf ?_ ?_
  .simp;omega
  refine ρ ?_;exact Jp (i+1) sO ⟨om,B.trans U⟩ om
 refine ρ ?_;exact Jq ⟨rfl,y⟩
def dnK(ws:List PR)(i:Nat): Nat:=dnm (ws.take i)
theorem Xqb(hi:i<ws.length): dnK ws (i+1)=dnK ws i / Nat.gcd (dnK ws i) ws[i].norm.den*ws[i].norm.den:=by
 unfold dnK dnm;rw[List.take_add_one,List.getElem?_eq_getElem hi,Option.toList_some,List.foldl_append];rfl
theorem Xqr{b:Nat}{q:PR}{i:Int}(hB:Blk w b 40 [vd])(hd:NatX (λk=>k=b) w vd d)(hq:RtX Nn w v q)(hd1:d<4294967296)(hqn:q.num<18446744073709551616)(hqd:q.den<4294967296)(h0:0<q.norm.den)(hqd':q.norm.den<4294967296):
  Ret Tryz.prog 100 [.int .i64 i,v,.pointer (some ⟨b,0,none⟩)] w λu w'=>∃ vd',Blk w' b 40 [vd']/\NatX (λk=>k=b) w' vd' (d / Nat.gcd d q.norm.den*q.norm.den)/\GrN (λk=>k=b) w w':=by
 obtain⟨A1,c1,A2,c2,rfl,a8,a7⟩:=hq.sl;refine Jz Tryz.func100 Tryz.ntmps100 rfl kr rfl ?_;refine ρ ?_;refine bx ?_;intro w1 b1 U ah af;refine ρ ?_;refine lds (cs:=[.bool q.neg,.slice A1 _ c1,.slice A2 _ c2]) (λj u hu=>af.at hu) ?_;refine ρ ?_;refine cl (Vd (N:=Nn) (q:=q) ⟨_,_,rfl,a8.ext U,a7.ext U⟩ hqn hqd) ?_;rintro r w2 ⟨hr,a4⟩;have aa:=hB.lt;obtain⟨R1,r1,R2,r2,rfl,a5,Z⟩:=hr.sl;obtain⟨_,_,er,a5,Z⟩:=hr;cases er
 have a2:=U.trans a4;have ab:0<Nat.gcd d q.norm.den:=Nat.gcd_pos_of_pos_right _ h0;have hl:∀ {k:Nat},k<4294967296->(Jj k).length<=1000:=fun {k} h=>by have:=Qa (n:=k) om;omega
 refine ρ ?_;refine fld (fldD _ _ _ _ _ _ _) ?_;have J:Ext w2 w2.drew:=(Ext.refl w2).drew;have y:=a2.trans J;refine ρ ?_;refine dr [(0,0),(0,1),(0,2),(1,3),(1,4),(0,5),(0,6),(0,7),(0,8),(0,9),(0,10),(0,11)] kr ?_;refine ρd ?_;refine dld ((hB.ext y).at (i:=0) rfl) ?_;refine ρd ?_;refine dld ((hB.ext y).at (i:=0) rfl) ?_;refine ρd ?_;refine dcl (Xqg ((hd.ext y).old λk hk=>hk.elim) ((Z.ext J).old λk hk=>hk.elim) hd1 hqd' h0) ?_;rintro g w3 ⟨hg,D⟩;refine⟨D,?_⟩;refine ρd ?_;refine dcl (Jjr ((hd.ext y).ext D).1 hg.1 (hl hd1) ab (Nat.lt_of_le_of_lt (Nat.gcd_le_right _ h0) hqd')) ?_;rintro _ w4 ⟨⟨qv,rv,rfl,a6,ag⟩,O⟩;refine⟨O,?_⟩;refine ρd ?_;have B:=y.trans (D.trans O);refine ρ ?_;refine cl (Yr a6.1 ((Z.ext J).ext (D.trans O)).1 (hl (Nat.lt_of_le_of_lt (Nat.div_le_self _ _) hd1)) (hl hqd')) ?_;rintro mv w5 ⟨a3,ac,a1⟩;have a9:NatX (Ol w4) w5 mv (d / Nat.gcd d q.norm.den*q.norm.den):=⟨a3,λ_ ad m c e hk=>by have:=ac ad m c e;exact absurd (show ad.block<w4.heap.size from hk) om⟩
 obtain⟨M1,m1,rfl⟩:=a3.sl;refine ρ ?_;refine stF (i:=0) (hB.ext (B.trans a1)) rfl ?_;intro w6 ae hg6;have G:GrN (λk=>k=b) w5 w6:=GrN.by hg6 λk e=>by injection e with e;exact e.symm
 refine ρ ?_;exact Yx ⟨_,ae,(a9.old λk hk=>.inl (show k<w4.heap.size by rw[hk];exact nM aa B.size)).gr G,(GrN.ext (B.trans a1)).trans G⟩
theorem Xqq(hl:GX 3 RtC Nn w vl ws)(hd:∀ i,i<=ws.length->dnK ws i<4294967296)(hq:∀ q∈ws,q.num<18446744073709551616/\q.den<4294967296/\0<q.norm.den/\q.norm.den<4294967296):
  Ret Tryz.prog 55 [vl] w λu w'=>NatX Nn w' u (dnm ws)/\Ext w w':=by
 obtain⟨A,c,_,rfl,_,a8,_⟩:=id hl.el;refine Jz Tryz.func55 Tryz.ntmps55 rfl kr rfl ?_;refine ρ ?_;refine cl (Zd 1 (by decide) _) ?_;rintro o w1 ⟨ho,a1⟩;obtain⟨O1,o1,rfl⟩:=ho.1.sl;refine ρ ?_;refine alc (z:=.slice none 0 0) kr ?_;intro w2 b a4 D a7;refine ρ ?_;refine stF (i:=0) a7 rfl ?_;intro w3 a6 a5;have y:Ext w1 w3:=Ja a4 a5 λk e=>by injection e with e;rw[<-e];exact D
 have B:=a1.trans y;have a2:w.heap.size<=b:=nL a1.size D;refine ρ ?_;refine cl (Jnn (λi w'=>Ext w w'/\GX 3 RtC (λk=>k=b) w' (.slice A ws.length c) ws/\∃ J,Blk w' b 40 [J]/\NatX (λk=>k=b) w' J (dnK ws i)) (λi v v' ⟨Z,U,J,O,G⟩ hy=>⟨Z.trans hy,U.ext RtC.sta (by decide) hy,J,O.ext hy,G.ext hy⟩) (λi v ⟨Z,U,O⟩=>U.old RtC.sta (by decide) λk j=>j.elim) (λi hi v u ⟨Z,U,J,O,G⟩ hu=>?_) ⟨B,(hl.old RtC.sta (by decide) λk j=>.inr (by rw[j];exact a2)).ext RtC.sta (by decide) B,_,a6,?_⟩) ?_
 .obtain⟨e1,e2,e3,e4⟩:=hq _ (List.getElem_mem hi);refine(Xqr O G hu (hd i om) e1 e2 e3 e4).mono λr v' ⟨a3,g1,g2,g3⟩=>?_;rw[<-Xqb hi]at g2;exact⟨g3.old Z λk j=>by rw[j];exact a2,U.gr RtC.sta (by decide) g3,a3,g1,g2⟩
 .exact(ho.old λk j=>.inr (by rw[j];exact D)).ext y
 rintro u w4 ⟨Z,U,J,O,G⟩;have e5:dnK ws ws.length=dnm ws:=by unfold dnK;rw[List.take_length]
 rw[e5]at G;obtain⟨D1,d1,rfl⟩:=G.1.sl;refine ρ ?_;refine ld (O.at (i:=0) rfl) ?_;refine ρ ?_;exact Jq ⟨G.old λk j=>False.elim j,Z⟩
open Go.RowKit Pl Go.Wk Bl
variable {K a n:Nat}{u v:Value}{w:World}
theorem Yt(h:n<2^K)(hK:K<=30000): (Jj n).length<=1000:=by
 by_cases h0:n=0
 .subst h0;rw[limbs_0];decide
 have i:=Jbk h0;refine Nat.le_of_not_lt λj=>?_;have y:(4294967296:Nat)=2^32:=by decide
 rw[y,<-Nat.pow_mul]at i;have u:2^K<=2^(32*((Jj n).length-1)):=Nat.pow_le_pow_right (by decide) om;exact absurd (nM (nM h u) i) (Nat.lt_irrefl _)
theorem Jgz(h:n<2^K): Jw n<=K:=by
 by_cases h0:n=0
 .subst h0;exact Nat.zero_le _
 refine Nat.le_of_not_lt λi=>?_;have u:=(Ky h0).2;have j:2^K<=2^(Jw n-1):=Nat.pow_le_pow_right (by decide) om;exact absurd (nM (nM h j) u) (Nat.lt_irrefl _)
theorem Xwk: ∀ q:Nat,q<=400->(bits .and .i64 (q:Int) 1 == 1)=decide (q % 2=1):=by decide +kernel
theorem Qhw(hv:NatV w v a)(hn:n<=400)(ha:a<4294967296)(hb:a^n<2^K)(hK:K<=30000): Ret Tryz.prog 168 [v,.int .i64 (n:Int)] w λr w'=>(∃ u,r=.tuple #[u,.int .i64 0]/\NatX (Ol w) w' u (a^n))/\Ext w w':=by
 have la:(Jj a).length<=1000:=by have:=Qa (n:=a) om;omega
 refine Jz Tryz.func168 Tryz.ntmps168 rfl kr rfl ?_;refine ρ ?_;refine cl (Za hv) ?_;rintro v' w' ⟨⟨A,rfl,hA⟩,rfl⟩;have Z:NatV w' (.slice A (Jj a).length (Jj a).length) a:=⟨A,_,rfl,Nat.le_refl _,om,hA⟩;refine ρ ?_;refine cl (Um Z la) ?_;rintro _ w1 ⟨rfl,rfl⟩;refine ρ ?_;by_cases hn0:n=0
 .subst hn0;refine kt 17 ?_ ?_
  .rfl
  refine ρ ?_;refine cl (Zd 1 (by decide) _) ?_;rintro o w2 ⟨ho,y⟩;refine ρ ?_;exact Xb ⟨⟨_,rfl,by rw[Nat.pow_zero];exact ho⟩,y⟩
 refine kf 17 ?_ ?_
 .exact beq_eq_false_iff_ne.2 om
 refine ρ ?_;refine ci (λi=>?_) (λi=>?_)
 .have U:Jw a=1:=by have:=eq_of_beq i;omega
  have J:a=1:=by
   have h2:=Up (x:=a);rw[U]at h2;have:a≠0:=by rintro rfl;revert U;decide
   omega
  subst J;refine ρ ?_;refine cl (Zd 1 (by decide) _) ?_;rintro o w2 ⟨ho,y⟩;refine ρ ?_;exact Xb ⟨⟨_,rfl,by rw[Nat.one_pow];exact ho⟩,y⟩
 have a8:Jw a≠1:=λe=>by rw[e]at i;revert i;decide
 clear i;refine ρ ?_;refine ci (λi=>?_) (λi=>?_)
 .have U:Jw a=0:=by have:=eq_of_beq i;omega
  have a5:a=0:=by
   have h2:=Up (x:=a);rw[U]at h2;omega
  subst a5;refine ρ ?_;refine Xb ⟨⟨_,rfl,?_⟩,Ext.refl _⟩;rw[Nat.zero_pow om];exact⟨NatV.nil _,λh=>absurd rfl h⟩
 have a9:Jw a≠0:=λe=>by rw[e]at i;revert i;decide
 clear i;have ai:2<=a:=by
  have a5:a≠0:=by rintro rfl;exact a9 (by decide)
  have J:a≠1:=by rintro rfl;exact a8 (by decide)
  omega
 have ag:Jw a<=32:=Ys om;have ah:(Jw a-1)*n<65536:=Nat.lt_of_le_of_lt (Nat.mul_le_mul (show Jw a-1<=31 by omega) hn) (by decide);refine ρ ?_;refine kf 26 ?_ ?_
 .exact dF om
 refine ρ ?_;refine kf 30 ?_ ?_
 .exact dF om
 refine ρ ?_;have a3:((Jw a:Int)-1)*(n:Int)=(((Jw a-1)*n:Nat):Int):=by
  rw[Int.natCast_mul,Int.natCast_sub om];rfl
 refine cf ?_ ?_
 .rw[a3,Vn om];exact dF om
 have J:0<a:=om
 have G:∀ k,k<=n->(Jj (a^k)).length<=1000:=λk hk=>Yt (Nat.lt_of_le_of_lt (Nat.pow_le_pow_right J hk) hb) hK;refine ρ ?_;refine cl (Zd 1 (by decide) _) ?_;rintro o w2 ⟨ho,y⟩;refine ρ ?_;rw[Zt (z:=(n:Int)) om];refine cl (Jmg n om _) ?_;rintro _ w3 ⟨rfl,rfl⟩;have hL:Jw n<=9:=Ys om;refine ρ ?_;refine Qq (fun (t:Nat) (ov:Value)=>[(0,.slice A (Jj a).length (Jj a).length),(1,.int .i64 (n:Int)),(7,ov),(8,.int .i64 ((t:Int)-1))])
  (λt ov w'=>t<=9/\NatX (Ol w1) w' ov (a^(n / 2^t))/\Ext w1 w') (λt _=>t) (Jw n) o sB ⟨hL,by rw[Nat.div_eq_of_lt Up];exact ho,y⟩ ?_
 rintro t ov w4 ⟨ht,B,j⟩;have a2:n / 2^t<=n:=Nat.div_le_self _ _;refine ρ ?_;refine ci (λi=>?_) (λi=>?_)
 .obtain⟨t,rfl⟩:∃ s,t=s+1:=⟨t-1,by have:=oT i;omega⟩;clear i;rw[show((t+1:Nat):Int)-1=(t:Int) by omega];have hd:n / 2^t=2*(n / 2^(t+1))+n / 2^t % 2:=by rw[Nat.pow_succ,<-Nat.div_div_eq_div_mul];omega
  have ac:n / 2^t<=n:=Nat.div_le_self _ _;refine ρ ?_;refine cl (Yr B.1 B.1 (G _ a2) (G _ a2)) ?_;rintro o5 w5 ⟨O,ab,D⟩;have af:=j.size;rw[<-Nat.pow_add]at O;have a6:NatX (Ol w1) w5 o5 (a^(n / 2^(t+1)+n / 2^(t+1))):=⟨O,λ_ ad m c e hk=>by have:=ab ad m c e;exact absurd (show ad.block<w1.heap.size from hk) om⟩;refine ρ ?_;refine Zk rfl rfl om rfl ?_;have es:((n:Int)).fdiv (2^min ((t:Nat):Int).toNat IntKind.i64.bits)=((n / 2^t:Nat):Int):=by rw[Jjc n t IntKind.i64.bits,Nat.min_eq_left (by show t<=64;omega)]
  refine Go.Wk.kv 51 (u:=.int .i64 ((n / 2^t:Nat):Int)) (congrArg (Value.int .i64) es) ?_;have a4:=Xwk (n / 2^t) om;refine ρ ?_;refine ci (λi=>?_) (λi=>?_)
  .have U:n / 2^t % 2=1:=by rw[a4]at i;exact oT i
   refine ρ ?_;refine cl (Yr O (Z.ext (j.trans D)) (G _ om) la) ?_;rintro o6 w6 ⟨a1,aa,a7⟩;have ae:=D.size;rw[<-Nat.pow_succ,show(n / 2^(t+1)+n / 2^(t+1)).succ=n / 2^t by omega]at a1;refine ρ ?_;exact Ju t o6 sB ⟨om,⟨a1,λ_ ad m c e hk=>by have:=aa ad m c e;exact absurd (show ad.block<w1.heap.size from hk) om⟩,(j.trans D).trans a7⟩ om
  have U:n / 2^t % 2=0:=by
   rw[a4]at i;have:=oF i;omega
  rw[show n / 2^(t+1)+n / 2^(t+1)=n / 2^t by omega]at a6;refine ρ ?_;exact Ju t o5 sB ⟨om,a6,j.trans D⟩ om
 have h0:t=0:=by have:=oF i;omega
 clear i;subst h0;rw[Nat.pow_zero,Nat.div_one]at B;refine ρ ?_;refine cl (Um B.1 (G n (Nat.le_refl _))) ?_;rintro _ w5 ⟨rfl,rfl⟩;have hl:Jw (a^n)<=K:=Jgz hb;refine ρ ?_;refine cf ?_ ?_
 .exact dF om
 refine ρ ?_;exact Xb ⟨⟨_,rfl,B⟩,j⟩
theorem Qhv(hv:NatV w v a)(hu:NatV w u n)(hn:n<=400)(ha:a<4294967296)(hb:a^n<2^K)(hK:K<=30000): Ret Tryz.prog 109 [v,u] w λr w'=>(∃ u,r=.tuple #[u,.int .i64 0]/\NatX (Ol w) w' u (a^n))/\Ext w w':=by
 refine Jz Tryz.func109 Tryz.ntmps109 rfl kr rfl ?_;refine ρ ?_;refine cl (Qzq hu om) ?_;rintro _ w1 ⟨rfl,rfl⟩;refine ρ ?_;refine cl (Qhw hv hn ha hb hK) ?_;rintro _ w2 ⟨⟨r,rfl,j⟩,i⟩;refine ρ ?_;exact Xb ⟨⟨_,rfl,j⟩,i⟩
open Go.RowKit Pl Go.Wk Bl
variable {sizes:List Nat}{ws:List PR}{K d i sc:Nat}{SA:Option Addr}{v vd vl vr:Value}{w:World}
def Vr(q:PR)(d:Nat): Nat:=(PR.norm (PR.mul q (PR.norm ⟨false,d,0⟩))).num
def prK(ws:List PR)(sizes:List Nat)(d i:Nat): Nat:=Vo (ws.take i) (sizes.take i) d
theorem Jtc(hi:i<ws.length)(hs:i<sizes.length): prK ws sizes d (i+1)=prK ws sizes d i*sizes[i]^Vr ws[i] d:=by
 unfold prK Vo;rw[List.take_add_one,List.take_add_one,List.getElem?_eq_getElem hi,List.getElem?_eq_getElem hs,Option.toList_some,Option.toList_some,List.zip_append (by simp;omega),List.foldl_append];rfl
structure EOk(q:PR)(d:Nat): Prop where
 d64:d<18446744073709551616
 h1:q.num<4294967296
 h2:q.den<4294967296
 h3:(PR.norm ⟨false,d,0⟩).num<4294967296
 h4:(PR.norm ⟨false,d,0⟩).den<4294967296
 h5:q.norm.den*(PR.norm ⟨false,d,0⟩).norm.den<4294967296
 m1:(PR.mul q (PR.norm ⟨false,d,0⟩)).num<18446744073709551616
 m2:(PR.mul q (PR.norm ⟨false,d,0⟩)).den<4294967296
 e:Vr q d<=400
structure PrOk(ws:List PR)(sizes:List Nat)(d K:Nat): Prop where
 k:K<=30000
 len:sizes.length=ws.length
 q:∀ q∈ws,EOk q d
 s:∀ s∈sizes,s<4294967296
 p:∀ i,i<=ws.length->prK ws sizes d i<2^K
 f:∀ i (h1:i<ws.length) (h2:i<sizes.length),sizes[i]^Vr ws[i] d<2^K
theorem Qhq{b1 b2 b3 b4 r:Nat}{q:PR}(hF:Blk w b1 43 [.int .i64 0])(hD:Blk w b2 40 [vd])(hS:Blk w b3 22 [.slice SA sizes.length sc])(hR:Blk w b4 40 [vr])(hd:NatX (λk=>k=b4) w vd d)(hr:NatX (λk=>k=b4) w vr r)(hs:Rd w 1 SA sizes.length (Jb (nz sizes)))(hq:RtX Nn w v q)(hi:i<sizes.length)(he:EOk q d)(hs32:sizes[i]<4294967296)(hrK:r<2^K)(hfK:sizes[i]^Vr q d<2^K)(hK:K<=30000):
  Ret Tryz.prog 106 [.int .i64 (i:Int),v,.pointer (some ⟨b1,0,none⟩),.pointer (some ⟨b2,0,none⟩),.pointer (some ⟨b3,0,none⟩),.pointer (some ⟨b4,0,none⟩)] w λu w'=>∃ vr',Blk w' b4 40 [vr']/\NatX (λk=>k=b4) w' vr' (r*sizes[i]^Vr q d)/\GrN (λk=>k=b4) w w':=by
 obtain⟨A1,c1,A2,c2,rfl,ab,aa⟩:=hq.sl;refine Jz Tryz.func106 Tryz.ntmps106 rfl kr rfl ?_;refine ρ ?_;refine bx ?_;intro w1 bq a3 ao ak;refine ρ ?_;refine ld ((hF.ext a3).at (i:=0) rfl) ?_;have O:Ext w1 w1.drew:=(Ext.refl w1).drew;have y:=a3.trans O;have ah:=hR.lt;have a5:NatX Nn w vd d:=hd.old λk hk=>False.elim hk;obtain⟨D1,d1,rfl⟩:=a5.1.sl;refine ρ ?_;refine dr [(0,0),(0,1),(1,2),(1,3),(1,4),(0,5),(0,6)] kr ?_;refine ρd ?_;refine Qb (cs:=[.bool q.neg,.slice A1 (Jj q.num).length c1,.slice A2 (Jj q.den).length c2]) (λj u hu=>(ak.ext O).at hu) ?_;refine ρd ?_;refine dld ((hD.ext y).at (i:=0) rfl) ?_;refine ρd ?_;refine dcl (Qgx (a5.ext y).1 he.d64) ?_;rintro x1 w2 ⟨a7,G⟩;refine⟨G,?_⟩;obtain⟨B1,e1,B2,e2,rfl,au,ar⟩:=a7.sl;refine ρd ?_;refine dcl (Jfn (N:=Nn) (p:=q) ⟨_,_,rfl,(ab.ext y).ext G,(aa.ext y).ext G⟩ a7 he.h1 he.h2 he.h3 he.h4 he.h5) ?_
 rintro x2 w3 ⟨a6,a2⟩;refine⟨a2,?_⟩;obtain⟨C1,f1,C2,f2,rfl,aq,ap⟩:=a6.sl;refine ρd ?_;refine dcl (Vd a6 he.m1 he.m2) ?_;rintro x3 w4 ⟨ai,a1⟩;refine⟨a1,?_⟩;obtain⟨E1,g1,E2,g2,rfl,aj,av⟩:=ai.sl;refine ρd ?_;refine dfld (fldN _ _ _ _ _ _ _) ?_;refine ρd ?_;have D:=y.trans (G.trans (a2.trans a1));refine ρ ?_;refine ld ((hS.ext D).at (i:=0) rfl) ?_;refine ρ ?_;refine ix i (hs.ext D) hi ?_;refine ρ ?_;refine ld ((hs.ext D).cell (Qs hi)) ?_;have an:sizes.getD i 0=sizes[i]:=by simp[List.getD,List.getElem?_eq_getElem hi]
 rw[an];refine ρ ?_;rw[Zt (z:=(sizes[i]:Int)) om];refine cl (Zd sizes[i] om _) ?_;rintro sv w5 ⟨a9,Z⟩;refine ρ ?_;refine cl (Qhv a9.1 (aj.ext Z).1 he.e hs32 hfK hK) ?_;rintro _ w6 ⟨⟨pv,rfl,ac⟩,a8⟩;have B:=D.trans (Z.trans a8);refine ρ ?_;refine ld ((hR.ext B).at (i:=0) rfl) ?_;refine ρ ?_;refine cl (Yr (hr.ext B).1 ac.1 (Yt hrK hK) (Yt hfK hK)) ?_;rintro mv w7 ⟨a4,ag,U⟩;have ae:NatX (Ol w6) w7 mv (r*sizes[i]^Vr q d):=⟨a4,λ_ ad m c e hk=>by have:=ag ad m c e;exact absurd (show ad.block<w6.heap.size from hk) om⟩;obtain⟨M1,m1,rfl⟩:=a4.sl;refine ρ ?_;refine stF (i:=0) (hR.ext (B.trans U)) rfl ?_;intro w8 am af;have J:GrN (λk=>k=b4) w7 w8:=GrN.by af λk e=>by injection e with e;exact e.symm
 refine ρ ?_;exact Yx ⟨_,am,(ae.old λk hk=>.inl (show k<w6.heap.size by rw[hk];exact nM ah B.size)).gr J,(GrN.ext (B.trans U)).trans J⟩
theorem Qhk(hl:GX 3 RtC Nn w vl ws)(hd:NatX Nn w vd d)(hs:Rd w 1 SA sizes.length (Jb (nz sizes)))(ho:PrOk ws sizes d K):
  Ret Tryz.prog 57 [vl,.slice SA sizes.length sc,vd] w λu w'=>(∃ v,u=.tuple #[v,.int .i64 0]/\NatX Nn w' v (Vo ws sizes d))/\Ext w w':=by
 obtain⟨A,c,_,rfl,_,ai,_⟩:=id hl.el;obtain⟨D1,d1,rfl⟩:=hd.1.sl;refine Jz Tryz.func57 Tryz.ntmps57 rfl kr rfl ?_;refine ρ ?_;refine bx (cs:=[.slice SA sizes.length sc]) ?_;intro w1 b4 a5 ap af;refine ρ ?_;refine bx (cs:=[.slice D1 _ d1]) ?_;intro w2 b5 Z ao ae;refine ρ ?_;refine cl (Zd 1 (by decide) _) ?_;rintro o w3 ⟨a8,D⟩;obtain⟨O1,o1,rfl⟩:=a8.1.sl;refine ρ ?_;refine alc (z:=.slice none 0 0) kr ?_;intro w4 b8 a3 ag ad;refine ρ ?_;refine alc (z:=.int .i64 0) kr ?_;intro w5 b9 a2 an ah;have aj:=ad.lt;have am:=af.lt;have ak:=ae.lt;have z2:=Z.size;have z3:=D.size;have z4:=a3.size;have z1:=a5.size;refine ρ ?_;refine stF (i:=0) (ad.ext a2) rfl ?_;intro w6 ac hg6;have U:GrN (λk=>k=b8) w5 w6:=GrN.by hg6 λk e=>by injection e with e;exact e.symm
 have aa:=Jr ah U om;refine ρ ?_;refine stF (i:=0) aa rfl ?_;intro w7 a9 hg7;have O:GrN (λk=>k=b9) w6 w7:=GrN.by hg7 λk e=>by injection e with e;exact e.symm
 have ab:=Jr ac O om;have a4:Ext w3 w6:=U.old (a3.trans a2) λk e=>by omega
 have j:Ext w3 w7:=O.old a4 λk e=>by omega
 have a6:=a5.trans (Z.trans D);have y:=a6.trans j;have a1:w.heap.size<=b8:=om
 have a7:NatX (λk=>k=b8) w7 (.slice O1 (Jj 1).length o1) 1:=(a8.old λk B=>.inr (by rw[B];exact ag)).ext j;refine ρ ?_;refine cl (Jnn (λi w'=>Ext w w'/\GX 3 RtC (λk=>k=b8) w' (.slice A ws.length c) ws/\Blk w' b9 43 [.int .i64 0]/\Blk w' b5 40 [.slice D1 (Jj d).length d1]/\Blk w' b4 22 [.slice SA sizes.length sc]/\NatX (λk=>k=b8) w' (.slice D1 (Jj d).length d1) d/\∃ vr,Blk w' b8 40 [vr]/\NatX (λk=>k=b8) w' vr (prK ws sizes d i)) (λi v v' ⟨h1,h2,h3,h4,h5,h6,vr,h7,h8⟩ J=>⟨h1.trans J,h2.ext RtC.sta (by decide) J,h3.ext J,h4.ext J,h5.ext J,h6.ext J,vr,h7.ext J,h8.ext J⟩) (λi v ⟨h1,h2,h3⟩=>h2.old RtC.sta (by decide) λk B=>False.elim B) (λi hi v u ⟨h1,h2,h3,h4,h5,h6,vr,h7,h8⟩ hu=>?_)
  ⟨y,(hl.old RtC.sta (by decide) λk B=>.inr (by rw[B];exact a1)).ext RtC.sta (by decide) y,a9,(ae.ext D).ext j,((af.ext Z).ext D).ext j,(hd.old λk B=>.inr (by rw[B];exact a1)).ext y,_,ab,a7⟩) ?_
 .have G:i<sizes.length:=by rw[ho.len];exact hi
  refine(Qhq h3 h4 h5 h7 h6 h8 (hs.ext h1) hu G (ho.q _ (List.getElem_mem hi)) (ho.s _ (List.getElem_mem G)) (ho.p i om) (ho.f i hi G) ho.k).mono λr v' ⟨vr',g1,g2,g3⟩=>?_;rw[<-Jtc hi G]at g2;exact⟨g3.old h1 λk B=>by rw[B];exact a1,h2.gr RtC.sta (by decide) g3,Jr h3 g3 om,Jr h4 g3 om,Jr h5 g3 om,h6.gr g3,vr',g1,g2⟩
 rintro u w8 ⟨h1,h2,h3,h4,h5,h6,vr,h7,h8⟩;have e5:prK ws sizes d ws.length=Vo ws sizes d:=by unfold prK;rw[List.take_length,<-ho.len,List.take_length]
 rw[e5]at h8;obtain⟨V1,v1,rfl⟩:=h8.1.sl;refine ρ ?_;refine ld (h3.at (i:=0) rfl) ?_;refine ρ ?_;refine ld (h7.at (i:=0) rfl) ?_;refine ρ ?_;exact Xb ⟨⟨_,rfl,h8.old λk B=>False.elim B⟩,h1⟩
end Go.Proofs.YtebiphhfkdbpfaaGreatDoor
namespace Go.Wk
open Go.RowKit
variable {d n ty v:Nat}
theorem sl32q{P:Program}{al:AL}{w:World}{Q:Exit->Act->World->Prop}{ops:Array Oper}{rest:List Oper}{pos:String}{aft:Array Edge}{y:Operand}{t yt:TypeId}{k2:IntKind}(hv:v<32)(kk:WL P n ops Q rest ((d,.int .u32 ((2^v:Nat):Int))::al) w)(hy:ev al y=some (.int k2 (v:Int)):=by rfl)(hd:Nat.blt d n=true:=by rfl):
  WL P n ops Q (⟨some d,.binOp .shl t (.const (.int .u32 1)) y yt,ty,pos,aft,none⟩::rest) al w:=by
 rw[<-Jyb hv]at kk;exact wop hd (λa i=>Jkh (x:=.const (.int .u32 1)) rfl hy om i (some d) w) kk
end Go.Wk
namespace Go.Proofs.YtebiphhfkdbpfaaGreatDoor
open Go.RowKit Pl Go.Wk Bl
attribute [local irreducible] WC WL QX WD WDB WP WN WG WH
theorem Qqn: ∀(q r:Nat),r<32->Jj (2^(32*q+r))=List.replicate q 0++[UInt32.ofNat (2^r)]
 | 0,r,hr=>by
  have h1:2^r<4294967296:=nM (Nat.pow_lt_pow_right (by decide) hr) (by decide);rw[Nat.mul_zero,Nat.zero_add,Jgw (Nat.pos_iff_ne_zero.1 (Nat.two_pow_pos r)) h1];rfl
 | q+1,r,hr=>by
  have e:2^(32*(q+1)+r)=4294967296*2^(32*q+r):=by
   rw[show 32*(q+1)+r=32+(32*q+r) by omega,Nat.pow_add]
  have ih:=Qqn q r hr;have h0:=Nat.two_pow_pos (32*q+r);rw[e];have:=Qqm (c:=0) (m:=2^(32*q+r)) (by show 0+4294967296*_≠0;omega);rw[show(0:UInt32).toNat+4294967296*2^(32*q+r)=4294967296*2^(32*q+r) by show 0+_=_;omega]at this;rw[this,ih];rfl
theorem Xwj{i:Nat}(hi:i<=31000)(w:World): Ret Tryz.prog 112 [.int .i64 (i:Int)] w λu w'=>NatV w' u (2^i)/\Ext w w':=by
 refine Jz Tryz.func112 Tryz.ntmps112 rfl kr rfl ?_;have eq:IntKind.i64.wrap ((i:Int).tdiv 32)=((i / 32:Nat):Int):=by
  rw[show(i:Int).tdiv 32=((i / 32:Nat):Int) from rfl,Vn om]
 have er:(i:Int).tmod 32=((i % 32:Nat):Int):=rfl;refine ρ ?_;refine Ie rfl rfl (by decide) rfl ?_;rw[eq];refine ρ ?_;refine mkn EN (i / 32+1) om (by unfold maxLen;omega) ?_;intro w1 O G a1 hO;have j:Xd w1 w.heap.size (.slice O (i / 32+1) (i / 32+1)) (List.replicate (i / 32+1) 0):=by
  have e:(madeCells (Value.int .u32 0).cells ((i / 32+1)*1)).toList=Nc (List.replicate (i / 32+1) 0):=by rw[Nat.mul_one,<-Jqh];exact Vw _ _
  grind
 refine ρ ?_;refine Ie rfl rfl (by decide) rfl ?_;rw[eq];refine ρ ?_;refine wrem rfl rfl (by decide) rfl ?_;rw[er];refine sl32q (v:=i % 32) (Nat.mod_lt _ (by decide)) ?_;refine ρ ?_;rw[Xd,List.length_replicate]at j;refine ix (i / 32) (Rd.own j) om ?_;refine ρ ?_;obtain⟨s1,Z,D,U,s5⟩:=Xp j (q:=i / 32) om (.int .u32 ((UInt32.ofNat (2^(i % 32))).toNat:Int));have hp:2^(i % 32)<4294967296:=nM (Nat.pow_lt_pow_right (by decide) (Nat.mod_lt i (by decide:32 > 0))) (by decide);have ep:((UInt32.ofNat (2^(i % 32))).toNat:Int)=((2^(i % 32):Nat):Int):=by rw[UInt32.toNat_ofNat',Nat.mod_eq_of_lt (show 2^(i % 32)<2^32 from hp)]
 refine Go.Wk.kv 13 (u:=.int .u32 ((UInt32.ofNat (2^(i % 32))).toNat:Int)) (congrArg (Value.int .u32) ep.symm) ?_;refine sto (s1.trans (Qm (by simp))) Z ?_;rw[Yc]at D;have B:Jj (2^i)=(List.replicate (i / 32+1) 0).set (i / 32) (UInt32.ofNat (2^(i % 32))):=by
  have J:=Qqn (i / 32) (i % 32) (Nat.mod_lt _ (by decide));rw[Nat.div_add_mod]at J;rw[J,List.replicate_succ',List.set_append_right _ _ (by simp)];simp
 have y:(Jj (2^i)).length=i / 32+1:=by rw[B];simp
 rw[<-B,<-y]at D;refine ρ ?_;refine Jq ⟨⟨O,i / 32+1,by rw[y],om,om,?_⟩,G.setCell U _⟩;rw[<-y]at *;exact Rd.own D
open Go.RowKit Pl Go.Wk Bl Nw
def Gl(K:Nat): Prop:=∀ {v u:Value} {a b:Nat} {w:World},NatV w v a->NatV w u b->a<2^K->b<2^K->0<b->Ret Tryz.prog 102 [v,u] w λr w'=>(∃ x y,r=.tuple #[x,y,.int .i64 0]/\NatX (Ol w) w' x (a / b)/\NatX (Ol w) w' y (a % b))/\Ext w w'
theorem Qkf: Gl 32:=λi j y u h0=>Jjr i j (Yt y (by decide)) h0 u
theorem Qns{v:Value}{p n K:Nat}{w:World}(hv:NatV w v p)(hn:2<=n)(hn64:n<=64)(hp:1<p)(hK:K<=29000)(hK6:7<=K)(hpK:p<2^K)(hx0:(2^((Jw p+n-1) / n))^(n-1)<2^K)(hdiv:Gl K): Ret Tryz.prog 111 [v,.int .i64 (n:Int)] w λu w'=>(∃ r,NatV w' u r/\Kd p n r)/\Ext w w':=by
 have av:Jw p<=K:=Jgz hpK;have b2:1<=Jw p:=(Ky (x:=p) om).1;have ba:(Jw p+n-1) / n<=K:=by
  refine nL (Nat.div_le_of_le_mul (m:=Jw p+n-1) (k:=n) (n:=Jw p) ?_) av;obtain⟨l,hl⟩:∃ l,Jw p=l+1:=⟨Jw p-1,om⟩;rw[hl,Nat.mul_succ];have:l<=n*l:=Nat.le_mul_of_pos_left l om;omega
 have aj:p<(2^((Jw p+n-1) / n))^n:=by
  refine nM Up ?_;rw[<-Nat.pow_mul];refine Nat.pow_le_pow_right (by decide) ?_;have:=Nat.div_add_mod (Jw p+n-1) n;have h2:=Nat.mod_lt (Jw p+n-1) (show n > 0 by omega);rw[Nat.mul_comm];omega
 generalize O:(Jw p+n-1) / n=c at *
 refine Jz Tryz.func111 Tryz.ntmps111 rfl kr rfl ?_;refine ρ ?_;refine cl (Um hv (Yt hpK om)) ?_;rintro _ w1 ⟨rfl,rfl⟩;have eq:IntKind.i64.wrap (((Jw p:Int)+(n:Int)-1).tdiv (n:Int))=(c:Int):=by
  rw[show(Jw p:Int)+(n:Int)-1=((Jw p+n-1:Nat):Int) by omega,show(((Jw p+n-1:Nat):Int)).tdiv (n:Int)=(((Jw p+n-1) / n:Nat):Int) from rfl,O,Vn om]
 refine ρ ?_;refine Ie rfl rfl om rfl ?_;rw[eq];refine ρ ?_;refine cl (Xwj (i:=c) om _) ?_;rintro x0 w2 ⟨ay,ai⟩;have b9:=Yt hpK om;refine ρ ?_;refine Qq (fun (x:Nat) (xv:Value)=>[(0,v),(1,.int .i64 (n:Int)),(5,xv)]) (λx xv w'=>Ext w1 w'/\NatV w' xv x/\0<x/\x<=2^c/\p<(x+1)^n) (λx _=>x) (2^c) x0 sB ⟨ai,ay,Nat.two_pow_pos c,Nat.le_refl _,Nat.lt_of_lt_of_le aj (Nat.pow_le_pow_left (Nat.le_succ _) n)⟩ ?_;rintro x xv w3 ⟨ah,hX,U,af,ap⟩;have a4:∀ k,k<=n-1->x^k<2^K:=λk hk=>Nat.lt_of_le_of_lt (nL (Nat.pow_le_pow_left af k) (Nat.pow_le_pow_right (Nat.two_pow_pos c) hk)) hx0;have a6:x<2^K:=by have:=a4 1 om;rwa [Nat.pow_one]at this
 have ac:=Yt a6 om;refine ρ ?_;refine cl (Zd 1 (by decide) _) ?_;rintro o w4 ⟨ho,a1⟩;have a8:=ah.trans a1;have aa:((n:Int)-1)=((n-1:Nat):Int):=om
 refine ρ ?_;rw[aa];refine Qq (fun (i:Nat) (bv:Value)=>[(0,v),(1,.int .i64 (n:Int)),(5,xv),(6,bv),(24,.int .i64 ((n-1:Nat):Int)),(25,.int .i64 (i:Int))]) (λi bv w'=>i<=n-1/\Ext w4 w'/\NatV w' bv (x^i)) (λi _=>n-1-i) 0 o sB ⟨Nat.zero_le _,Ext.refl _,by rw[Nat.pow_zero];exact ho.1⟩ ?_;rintro i bv w5 ⟨hi,D,hb⟩;refine ρ ?_;refine ci (λO=>?_) (λO=>?_)
 .have ad:i<n-1:=by have:=oT O;omega
  clear O;refine ρ ?_;refine cl (Yr hb (hX.ext (a1.trans D)) (Yt (a4 i hi) om) ac) ?_;rintro b6 w6 ⟨ae,_,y⟩;rw[<-Nat.pow_succ]at ae;refine ρ ?_;exact Ju (i+1) b6 sO ⟨om,D.trans y,ae⟩ om
 have aw:i=n-1:=by have:=oF O;omega
 subst aw;clear O hi;have G:=a8.trans D;refine ρ ?_;refine cl (hdiv (hv.ext G) hb hpK (a4 _ (Nat.le_refl _)) (Nat.pow_pos U)) ?_;rintro _ w6 ⟨⟨qv,rv,rfl,hq,hr⟩,y⟩;have bb:n-1<64:=om
 have an:(n-1)*x<2^(K+6):=by
  rw[Nat.pow_add,Nat.mul_comm];exact Nat.lt_of_le_of_lt (Nat.mul_le_mul_left x (show n-1<=2^6 by omega)) (Nat.mul_lt_mul_of_pos_right a6 (by decide))
 have ao:p / x^(n-1)<2^K:=Nat.lt_of_le_of_lt (Nat.div_le_self _ _) hpK;have am:(n-1)*x+p / x^(n-1)<2^(K+7):=by
  have:2^(K+7)=2^(K+6)+2^(K+6):=by rw[show K+7=K+6+1 by omega,Nat.pow_succ];omega
  have h2:2^K<=2^(K+6):=Nat.pow_le_pow_right (by decide) om;omega
 refine ρ ?_;rw[aa,Zt (z:=((n-1:Nat):Int)) om];refine cl (Zd (n-1) om _) ?_;rintro m7 w7 ⟨au,Z⟩;have az:=G.trans (y.trans Z);refine ρ ?_;refine cl (Yr au.1 (hX.ext (a1.trans (D.trans (y.trans Z)))) (by have:=Qa (n:=n-1) om;omega) ac) ?_;rintro m8 w8 ⟨ar,_,a7⟩;refine ρ ?_;refine cl (Qpj ar ((hq.ext Z).ext a7).1 (Yt an om) (Yt ao om)) ?_;rintro m9 w9 ⟨aq,ag⟩;refine ρ ?_;rw[Zt (z:=(n:Int)) om];refine cl (Zd n om _) ?_;rintro b8 b5 ⟨ab,a2⟩;refine ρ ?_;refine cl (Jjr (aq.ext a2) ab.1 (Yt am om) om om) ?_;rintro _ b4 ⟨⟨nv,b7,rfl,a5,b1⟩,a9⟩;have B:=Z.trans (a7.trans (ag.trans (a2.trans a9)));have J:=G.trans (y.trans B);have a3:=hX.ext (a1.trans (D.trans (y.trans B)));have ak:((n-1)*x+p / x^(n-1)) / n=Nw.step p n x:=rfl;rw[ak]at a5;refine ρ ?_;refine cl (Jxs a5.1 a3) ?_
 rintro _ b3 ⟨rfl,j⟩;refine ρ ?_;refine ci (λO=>?_) (λO=>?_)
 .have ax:x<=Nw.step p n x:=by
   have:=oT O;unfold Vt at this;split at this
   .omega
   omega
  refine ρ ?_;exact Jq ⟨⟨x,a3.ext j,Qdp om U ax,ap⟩,J.trans j⟩
 have ad:Nw.step p n x<x:=by
  have:=oF O;unfold Vt at this;split at this
  .assumption
  split at this<;>omega
 refine ρ ?_;exact Ju (Nw.step p n x) nv sB ⟨J.trans j,(a5.ext j).1,Qdq om om U,om,Jps om U⟩ ad
end Go.Proofs.YtebiphhfkdbpfaaGreatDoor
namespace Go.Wk
open Go.RowKit
variable {cs xs:List Value}{base e g j m n t ty:Nat}{w:World}
theorem Blk.rdAt(h:Blk w g t cs)(hl:j+m<=cs.length): Rd w 1 (some ⟨g,j,none⟩) m ((cs.drop j).take m):=by
 refine⟨by simp;omega,λh0=>⟨⟨g,j,none⟩,rfl,h.lt,λi u y=>?_⟩⟩;rw[Zm,h.cell];rw[List.getElem?_take]at y;split at y
 .rw[List.getElem?_drop]at y;exact y
 cases y
theorem stJ{P:Program}{al:AL}{Q:Exit->Act->World->Prop}{ops:Array Oper}{rest:List Oper}{pos:String}{aft:Array Edge}{tt:TT}[h:Tab P tt]{x y:Operand}{bt i:Nat}{k:TK}{v:Value}(hb:Blk w g bt cs)(hu:j+i<cs.length)(kk:∀ w1,Blk w1 g bt (cs.set (j+i) v)->w.grownBy w1 (some g)->WL P n ops Q rest al w1)(ht:tk tt t=some k:=by rfl)(hk:k.size=1:=by rfl)(hp:Vj k.desc=true:=by rfl)(hx:ev al x=some (.pointer (some (adr (some ⟨g,j,none⟩) i))):=by rfl)(hy:ev al y=some v:=by rfl)(hv:v.oneCell'=true:=by rfl):
  WL P n ops Q (⟨none,.store t x y,ty,pos,aft,none⟩::rest) al w:=by
 have e:adr (some ⟨g,j,none⟩) i=⟨g,j+i,none⟩:=by unfold adr;exact Zm _ _ _
 refine sto (u:=cs[j+i]) ?_ ?_ (kk _ ?_ ⟨rfl,rfl,rfl,by simp[World.setCell],λk hk hn=>Below.heap_setCell w _ v k (λB=>hn (by rw[B,e]))⟩) ht hk hp hx hy hv
 .rw[e,hb.cell];exact gE hu
 .rw[e];exact hb.frozen _
 rw[e];exact hb.set _ v
theorem Jtp{O:Option Addr}(h:w.ownsRow base e 1 (.slice O n n) n xs)(h0:0<n): ∃ g,O=some ⟨g,0,none⟩/\base<=g/\Blk w g e xs:=by
 rcases h.2 with⟨i,_⟩|⟨g,cap,cur,i,hb,hh,_,_,hs,ht⟩
 .injection i with _ e2 _;omega
 injection i with e1 _ e3
 refine⟨g,e1,hb,?_⟩;rw[List.take_of_length_le (by simp[hs];omega)]at ht;unfold Blk;rw[hh,<-ht]
end Go.Wk
namespace Go.Proofs.YtebiphhfkdbpfaaGreatDoor
open Go.RowKit Pl Go.Wk Kn
attribute [local irreducible] WC WL QX WD WDB WP WN WG WH
variable {l os us vs:List UInt32}{L b c cv f g gu gv i j k n s t v x y:Nat}{A:Option Addr}{w:World}
theorem Qfc(s:Nat)(h:s<32): (2:Int)^min ((s:Nat):Int).toNat IntKind.u64.bits=((2^s:Nat):Int):=by
 have:min ((s:Nat):Int).toNat IntKind.u64.bits=s:=by simp[IntKind.bits];omega
 rw[this];simp
theorem Qmc(hs:s<32)(hc:c<2^s)(hx:x<4294967296): bits .or .u64 (c:Int) (IntKind.u64.wrap (IntKind.u64.wrap (x:Int)*2^min ((s:Nat):Int).toNat IntKind.u64.bits))=((c+x*2^s:Nat):Int):=by
 have i:2^s<=2^31:=Nat.pow_le_pow_right (by decide) om;have y:x*2^s<=4294967295*2^31:=Nat.mul_le_mul om i;have u:IntKind.u64.wrap (x:Int)=(x:Int):=by rw[IntKind.wrap_u64];omega
 rw[Qfc s hs,u,<-Int.natCast_mul];have j:IntKind.u64.wrap ((x*2^s:Nat):Int)=((x*2^s:Nat):Int):=by rw[IntKind.wrap_u64];omega
 rw[j,u64_or_nat _ _ om om,Nat.or_comm,nat_join s (x*2^s) c (by simp) hc,Nat.add_comm]
theorem Jrf(hL:l.length=L)(hLm:L<=1000)(hr:Rd w 1 A L (Nc l))(hs:s<32):
  Ret Tryz.prog 195 [.slice A L c,.int .u64 (s:Int)] w λr w'=>∃ g os,r=.slice (some ⟨g,0,none⟩) (L+1) (L+1)/\os.length=L+1/\val os=val l*2^s/\w.heap.size<=g/\Blk w' g 63 (Nc os)/\Ext w w':=by
 refine Jz Tryz.func195 Tryz.ntmps195 rfl kr rfl ?_;refine ρ ?_;refine mkn EN (L+1) om (by unfold maxLen;omega) ?_;intro w1 O a5 ad hO;have a3:Xd w1 w.heap.size (.slice O (L+1) (L+1)) ([]++List.replicate (L+1) 0):=by
  have e:(madeCells (Value.int .u32 0).cells ((L+1)*1)).toList=Nc (List.replicate (L+1) 0):=by rw[Nat.mul_one,<-Jqh];exact Vw _ _
  grind
 refine ρ ?_;refine Xf (fun (k j:Nat) (os:List UInt32)=>[(0,.slice A L c),(1,.int .u64 (s:Int)),(5,.slice O (L+1) (L+1)),(6,.int .u64 (j:Int)),(13,.int .i64 (L:Int)),(14,.int .i64 (k:Int))])
  (λk j os w2=>Ext w w2/\k<=L/\ShlI l s k j os/\Xd w2 w.heap.size (.slice O (L+1) (L+1)) (os++List.replicate (L+1-k) 0)) (λk _ _=>L-k) 0 0 [] sB
  ⟨a5,Nat.zero_le _,⟨rfl,Nat.two_pow_pos s,by simp[val]⟩,a3⟩ ?_
 rintro k j os w2 ⟨a1,hk,hI,a7⟩;have a6:=hI.len;have a2:=hr.ext a1;have B:(os++List.replicate (L+1-k) (0:UInt32)).length=L+1:=by simp;omega
 have y:=a7;rw[Xd,B]at y;have i:(Nc (os++List.replicate (L+1-k) 0))[k]?=some (.int .u32 (((os++List.replicate (L+1-k) 0).getD k 0).toNat:Int)):=Qm (by rw[B];omega);have store:∀ x:Nat,w2.cell? (adr O k)=(Nc (os++List.replicate (L+1-k) 0))[k]?/\w2.frozen? (adr O k)=false /\
   Xd (w2.setCell (adr O k) (.int .u32 ((UInt32.ofNat x).toNat:Int))) w.heap.size (.slice O (L+1) (L+1)) ((os++[UInt32.ofNat x])++List.replicate (L+1-(k+1)) 0)/\Ext w (w2.setCell (adr O k) (.int .u32 ((UInt32.ofNat x).toNat:Int))):=λx=>by
  obtain⟨Z,U,D,J,s5⟩:=Xp y (q:=k) om (.int .u32 ((UInt32.ofNat x).toNat:Int));refine⟨Z,U,?_,a1.setCell J _⟩;rw[Yc,show L+1-k=(L-k)+1 by omega]at D;have e:=Jyd os (L-k) (UInt32.ofNat x);grind
 refine ρ ?_;refine ci (λh=>?_) (λh=>?_)
 .have a9:k<L:=by have:=oT h;omega
  clear h;have a8:(l.getD k 0).toNat<4294967296:=(l.getD k 0).toNat_lt;obtain⟨G,ab⟩:=hI.step hs rfl;obtain⟨Z,U,D,J⟩:=store (j+(l.getD k 0).toNat*2^s);refine ρ ?_;refine ix k a2 a9 ?_;refine ρ ?_;refine ld (a2.cell (Qm (show k<l.length by omega))) ?_;refine ρ ?_;refine Jzw rfl rfl om rfl ?_;refine ρ ?_;have eo:=Qmc hs hI.lt a8;refine kv 6 (u:=.int .u64 ((j+(l.getD k 0).toNat*2^s:Nat):Int)) (congrArg (Value.int .u64) eo) ?_;refine kv 29 (u:=.int .u32 ((UInt32.ofNat (j+(l.getD k 0).toNat*2^s)).toNat:Int)) (congrArg (Value.int .u32) ((congrArg IntKind.u32.wrap eo).trans (Zv _))) ?_;refine ix k (Rd.own y) om ?_;refine sto (Z.trans i) U ?_;refine ρ ?_;refine Zk rfl rfl (by decide) rfl ?_;rw[Jqv];refine ρ ?_;exact Qn (k+1) _ _ sO ⟨J,om,G,D⟩ om
 have aa:k=L:=by have:=oF h;omega
 subst aa;clear h;obtain⟨Z,U,D,J⟩:=store j;refine ρ ?_;refine ix k (Rd.own y) om ?_;rw[Zv];refine sto (Z.trans i) U ?_;refine ρ ?_;rw[show k+1-(k+1)=0 by omega,List.replicate_zero,List.append_nil]at D;have a4:(os++[UInt32.ofNat j]).length=k+1:=by simp;omega
 rw[Xd,a4]at D;obtain⟨g,e,hg,hB⟩:=Jtp D om;subst e;refine Jq ⟨g,_,rfl,a4,?_,hg,hB,J⟩;obtain⟨_,h2,h3⟩:=hI;have ac:2^s<=2^31:=Nat.pow_le_pow_right (by decide) om;rw[Xa,a6];simp only[val,UInt32.toNat_ofNat'];rw[List.take_of_length_le om]at h3;rw[show j % 2^32+4294967296*0=j by omega,h3]
theorem Qfd(hL:l.length=L)(hLm:L<=1001)(hr:Rd w 1 A L (Nc l))(hs:s<32):
  Ret Tryz.prog 199 [.slice A L c,.int .u64 (s:Int)] w λr w'=>∃ O os,r=.slice O L L/\os.length=L/\val os=val l / 2^s/\w'.ownsRow w.heap.size 63 1 (.slice O L L) L (Nc os)/\Ext w w':=by
 refine Jz Tryz.func199 Tryz.ntmps199 rfl kr rfl ?_;refine ρ ?_;refine mkn EN L om (by unfold maxLen;omega) ?_;intro w1 O J a5 hO;have D:w1.ownsRow w.heap.size 63 1 (.slice O L L) L (Nc (List.replicate L 0++[])):=by
  have e:(madeCells (Value.int .u32 0).cells (L*1)).toList=Nc (List.replicate L 0):=by rw[Nat.mul_one,<-Jqh];exact Vw _ _
  grind
 refine ρ ?_;refine Xf (fun (k hi:Nat) (os:List UInt32)=>[(0,.slice A L c),(1,.int .u64 (s:Int)),(5,.slice O L L),(6,.int .u64 (hi:Int)),(7,.int .i64 ((k:Int)-1))])
  (λk hi os w2=>Ext w w2/\k<=L/\hi<18446744073709551616/\os.length=L-k/\val os=val (l.drop k) / 2^s/\hi % 2^s=val (l.drop k) % 2^s/\w2.ownsRow w.heap.size 63 1 (.slice O L L) L (Nc (List.replicate k 0++os))) (λk _ _=>k) L 0 [] sB
  ⟨J,Nat.le_refl _,by decide,by simp,by rw[List.drop_of_length_le om];simp[val],by rw[List.drop_of_length_le om];simp[val],D⟩ ?_
 rintro k hi os w2 ⟨y,hk,a6,a4,hv,hm,i⟩;have B:=hr.ext y;refine ρ ?_;refine ci (λh=>?_) (λh=>?_)
 .obtain⟨k,rfl⟩:∃ j,k=j+1:=⟨k-1,by grind⟩;clear h;have a2:(l.getD k 0).toNat<4294967296:=(l.getD k 0).toNat_lt;have hp:2^s*2^(32-s)=4294967296:=by rw[<-Nat.pow_add,show s+(32-s)=32 by omega]
  have Z:(hi % 4294967296) % 2^s=val (l.drop (k+1)) % 2^s:=by
   rw[<-hm,Nat.mod_mod_of_dvd _ ⟨2^(32-s),hp.symm⟩]
  obtain⟨U,a1⟩:=Qfb hs (show k<l.length by omega) hv Z;have eo:bits .or .u64 (IntKind.u64.wrap ((hi:Int)*2^min (32:Int).toNat IntKind.u64.bits)) (IntKind.u64.wrap ((l.getD k 0).toNat:Int))=(((hi % 4294967296)*4294967296+(l.getD k 0).toNat:Nat):Int):=by
   have e1:IntKind.u64.wrap ((hi:Int)*2^min (32:Int).toNat IntKind.u64.bits)=IntKind.u64.wrap (((hi % 4294967296:Nat):Int)*2^min (32:Int).toNat IntKind.u64.bits):=by
    have e1:(2:Int)^min (32:Int).toNat IntKind.u64.bits=4294967296:=by decide
    rw[e1];simp only[IntKind.wrap_u64];omega
   rw[e1,Jcg (Nat.mod_lt _ (by decide)) a2]
  obtain⟨s1,s2,G,s4,s5⟩:=Xp i (q:=k) om (.int .u32 ((UInt32.ofNat (((hi % 4294967296)*4294967296+(l.getD k 0).toNat) / 2^s)).toNat:Int));refine ρ ?_;refine Jzw rfl rfl (by decide) rfl ?_;refine ρ ?_;refine ix k B om ?_;refine ρ ?_;refine ld (B.cell (Qm (show k<l.length by omega))) ?_;refine ρ ?_;refine kv 6 (u:=.int .u64 (((hi % 4294967296)*4294967296+(l.getD k 0).toNat:Nat):Int)) (congrArg (Value.int .u64) eo) ?_;refine kv 28 (u:=.int .u64 (((hi % 4294967296)*4294967296+(l.getD k 0).toNat:Nat):Int)) (congrArg (Value.int .u64) eo) ?_;refine Zk rfl rfl om rfl ?_;have er:((((hi % 4294967296)*4294967296+(l.getD k 0).toNat:Nat):Int)).fdiv (2^min ((s:Nat):Int).toNat IntKind.u64.bits)=((((hi % 4294967296)*4294967296+(l.getD k 0).toNat) / 2^s:Nat):Int):=by
   rw[Jjc,show min s IntKind.u64.bits=s by simp[IntKind.bits];omega]
  rw[er];refine ρ ?_;refine ix k (Rd.own i) om ?_;rw[Zv];refine sto (s1.trans (Qm (by simp;omega))) s2 ?_;refine ρ ?_;refine Qn k _ (UInt32.ofNat (((hi % 4294967296)*4294967296+(l.getD k 0).toNat) / 2^s)::os) sO ⟨y.setCell s4 _,om,by have:=Nat.mod_lt hi (show 0<4294967296 by decide);omega,by simp;omega,U,a1,?_⟩ om;rw[Yc]at G;have e:(List.replicate (k+1) (0:UInt32)++os).set k (UInt32.ofNat (((hi % 4294967296)*4294967296+(l.getD k 0).toNat) / 2^s))=List.replicate k 0++UInt32.ofNat (((hi % 4294967296)*4294967296+(l.getD k 0).toNat) / 2^s)::os:=by
   rw[List.replicate_succ',List.append_assoc,List.set_append_right _ _ (by simp)];simp
  rw[e]at G;exact G
 have a3:k=0:=by have:=oF h;omega
 subst a3;refine ρ ?_;rw[List.replicate_zero,List.nil_append]at i;exact Jq ⟨O,os,rfl,om,hv,i,y⟩
theorem Jpr(hx:x<4294967296)(hb:b<=1)(hy:y<4294967296): IntKind.u64.wrap (IntKind.u64.wrap (IntKind.u64.wrap (x:Int)-(y:Int))-(b:Int))=(dif x b y:Int):=by
 unfold dif;simp only[IntKind.wrap_u64];omega
theorem Xvc(h:x<18446744073709551616): bits .and .u64 (x:Int) 4294967295=((x % 4294967296:Nat):Int):=by
 rw[show(4294967295:Int)=((4294967295:Nat):Int) from rfl,u64_and_nat _ _ h (by decide)];congr 1
 exact Nat.and_two_pow_sub_one_eq_mod x 32
theorem Qpn(hv:v<4294967296)(h:c+f*v<18446744073709551616): IntKind.u64.wrap ((c:Int)+IntKind.u64.wrap ((f:Int)*IntKind.u64.wrap (v:Int)))=((c+f*v:Nat):Int):=by
 have i:IntKind.u64.wrap (v:Int)=(v:Int):=by rw[IntKind.wrap_u64];omega
 rw[i,<-Int.natCast_mul];generalize f*v=z at *
 simp only[IntKind.wrap_u64];omega
def mid(us:List UInt32)(j i:Nat)(os:List UInt32): List UInt32:=us.take j++os++us.drop (j+i)
theorem Jbf(h:os.length=i)(hl:j+i<=us.length): (mid us j i os).length=us.length:=by simp[mid];omega
theorem Jgn(h:os.length=i)(hl:j+i<=us.length)(hk:i<=k): (mid us j i os).getD (j+k) 0=us.getD (j+k) 0:=by
 unfold mid;rw[List.getD,List.getElem?_append_right (by simp;omega),List.getElem?_drop,List.getD];congr 2
 simp;omega
theorem Jbd(x:UInt32)(h:os.length=i)(hl:j+i<us.length): (mid us j i os).set (j+i) x=mid us j (i+1) (os++[x]):=by
 unfold mid;have u:(us.take j++os).length=j+i:=by simp;omega
 rw[List.set_append_right _ _ om,u,Nat.sub_self,List.drop_eq_getElem_cons hl,List.set_cons_zero,show j+i+1=j+(i+1) by omega];simp
theorem Qjp(us:List UInt32)(j:Nat): mid us j 0 []=us:=by simp[mid]
abbrev prt(us:List UInt32)(j n:Nat): List UInt32:=(us.drop j).take (n+1)
theorem Jfr(h:i<=n): (prt us j n).getD i 0=us.getD (j+i) 0:=by
 simp only[prt,List.getD,List.getElem?_take,List.getElem?_drop];rw[if_pos om]
theorem adrJ(g j i:Nat): adr (some ⟨g,j,none⟩) i=⟨g,j+i,none⟩:=by unfold adr;exact Zm _ _ _
theorem Jvb(h:Blk w g t (Nc us))(hl:j+i<us.length): w.cell? (adr (some ⟨g,j,none⟩) i)=some (.int .u32 ((us.getD (j+i) 0).toNat:Int)):=by
 rw[adrJ,h.cell,Qm hl]
theorem Qdj(hU:Blk w gu 63 (Nc us))(hV:Blk w gv 63 (Nc vs))(hne:gv≠gu)(hj:j+n+1<=us.length)(hn:n<=vs.length)(hn1:n<=1000)(hf:f<4294967296):
  Ret Tryz.prog 197 [.slice (some ⟨gu,j,none⟩) (n+1) c,.slice (some ⟨gv,0,none⟩) n cv,.int .u64 (f:Int)] w λr w'=>∃ neg os,r=.bool (neg == 1)/\neg<=1/\os.length=n+1/\val os+f*val (vs.take n)=val (prt us j n)+4294967296^(n+1)*neg/\Blk w' gu 63 (Nc (mid us j (n+1) os))/\w.grownBy w' (some gu):=by
 refine Jz Tryz.func197 Tryz.ntmps197 rfl kr rfl ?_;refine ρ ?_;have a6:(vs.take n).length=n:=by simp;omega
 refine Kh (fun (i y b:Nat) (os:List UInt32)=>[(0,.slice (some ⟨gu,j,none⟩) (n+1) c),(1,.slice (some ⟨gv,0,none⟩) n cv),(2,.int .u64 (f:Int)),(7,.int .u64 (y:Int)),(8,.int .u64 (b:Int)),(13,.int .i64 (n:Int)),(14,.int .i64 (i:Int))])
  (λi y b os w2=>i<=n/\SbI (prt us j n) (vs.take n) f i y b os/\Blk w2 gu 63 (Nc (mid us j i os))/\w.grownBy w2 (some gu)) (λi _ _ _=>n-i) 0 0 0 [] sB
  ⟨Nat.zero_le _,⟨rfl,by decide,by decide,by simp[val]⟩,by rw[Qjp];exact hU,Xl (Ext.refl w) _⟩ ?_
 rintro i y b os w2 ⟨hi,hI,hB,hg⟩;have B:=hI.len;have a3:Blk w2 gv 63 (Nc vs):=hV.grown hg (λe=>hne (by injection e));have O:=Jbf (us:=us) (j:=j) B om;have J:Rd w2 1 (some ⟨gu,j,none⟩) (n+1) (((Nc (mid us j i os)).drop j).take (n+1)):=hB.rdAt (by rw[Va,O];omega);have a7:Rd w2 1 (some ⟨gv,0,none⟩) n (((Nc vs).drop 0).take n):=a3.rdAt (by rw[Va];omega);have a2:∀ k,i<=k->k<=n->w2.cell? (adr (some ⟨gu,j,none⟩) k)=some (.int .u32 (((prt us j n).getD k 0).toNat:Int)):=λk h1 h2=>by
  rw[Jvb hB (by rw[O];omega),Jgn B om h1,Jfr h2]
 refine ρ ?_;refine ci (λh=>?_) (λh=>?_)
 .have a1:i<n:=by have:=oT h;omega
  clear h;have hx:((prt us j n).getD i 0).toNat<4294967296:=((prt us j n).getD i 0).toNat_lt;have hy:((vs.take n).getD i 0).toNat<4294967296:=((vs.take n).getD i 0).toNat_lt;have aa:w2.cell? (adr (some ⟨gv,0,none⟩) i)=some (.int .u32 (((vs.take n).getD i 0).toNat:Int)):=by
   rw[Jvb a3 om,Nat.zero_add];congr 3
   simp[List.getD,a1]
  obtain⟨U,a4⟩:=hI.step hf rfl rfl;have a5:=Qpn hy a4;refine ρ ?_;refine ix i a7 a1 ?_;refine ρ ?_;refine ld aa ?_;refine ρ ?_;refine kv 7 (u:=.int .u64 ((y+f*((vs.take n).getD i 0).toNat:Nat):Int)) (congrArg (Value.int .u64) a5) ?_;refine ix i J om ?_;refine ρ ?_;refine ld (a2 i (Nat.le_refl _) om) ?_;refine ρ ?_;have ed:IntKind.u64.wrap (IntKind.u64.wrap (IntKind.u64.wrap (((prt us j n).getD i 0).toNat:Int)-bits .and .u64 ((y+f*((vs.take n).getD i 0).toNat:Nat):Int) 4294967295)-(b:Int))=(dif ((prt us j n).getD i 0).toNat b ((y+f*((vs.take n).getD i 0).toNat) % 4294967296):Int):=by
   rw[Xvc a4];exact Jpr hx hI.le (Nat.mod_lt _ (by decide))
  refine kv 10 (u:=.int .u64 (dif ((prt us j n).getD i 0).toNat b ((y+f*((vs.take n).getD i 0).toNat) % 4294967296):Int)) (congrArg (Value.int .u64) ed) ?_;refine kv 39 (u:=.int .u32 ((UInt32.ofNat (dif ((prt us j n).getD i 0).toNat b ((y+f*((vs.take n).getD i 0).toNat) % 4294967296))).toNat:Int)) (congrArg (Value.int .u32) ((congrArg IntKind.u32.wrap ed).trans (Zv _))) ?_;refine ix i J om ?_;refine stJ (j:=j) (i:=i) hB (by rw[Va,O];omega) ?_;intro w3 G Z;rw[Yc,Jbd _ B om]at G;refine ρ ?_;refine Zk rfl rfl (by decide) rfl ?_;rw[Jvz];refine ρ ?_;refine Zk rfl rfl (by decide) rfl ?_;rw[Jqv];refine ρ ?_;exact Ym (i+1) _ _ _ sO ⟨om,U,G,Xy hg Z⟩ om
 have a9:i=n:=by have:=oF h;omega
 subst a9;clear h;have hx:((prt us j i).getD i 0).toNat<4294967296:=((prt us j i).getD i 0).toNat_lt;obtain⟨D,a8⟩:=hI.last a6 rfl;have ed:IntKind.u64.wrap (IntKind.u64.wrap (IntKind.u64.wrap (((prt us j i).getD i 0).toNat:Int)-(y:Int))-(b:Int))=(dif ((prt us j i).getD i 0).toNat b y:Int):=Jpr hx hI.le hI.lt;refine ρ ?_;refine ix i J om ?_;refine ρ ?_;refine ld (a2 i (Nat.le_refl _) om) ?_;refine ρ ?_;refine kv 11 (u:=.int .u64 (dif ((prt us j i).getD i 0).toNat b y:Int)) (congrArg (Value.int .u64) ed) ?_;refine kv 60 (u:=.int .u32 ((UInt32.ofNat (dif ((prt us j i).getD i 0).toNat b y)).toNat:Int)) (congrArg (Value.int .u32) ((congrArg IntKind.u32.wrap ed).trans (Zv _))) ?_;refine ix i J om ?_;refine stJ (j:=j) (i:=i) hB (by rw[Va,O];omega) ?_;intro w3 G Z;rw[Yc,Jbd _ B om]at G;refine ρ ?_;refine Zk rfl rfl (by decide) rfl ?_;rw[Jvz];refine ρ ?_
 refine Jq ⟨dif ((prt us j i).getD i 0).toNat b y / 9223372036854775808,_,?_,a8,by simp[B],?_,G,Xy hg Z⟩
 .congr 1
  rcases(show dif ((prt us j i).getD i 0).toNat b y / 9223372036854775808=0∨dif ((prt us j i).getD i 0).toNat b y / 9223372036854775808=1 by omega) with e|e<;>rw[e]<;>rfl
 rw[List.take_of_length_le (l:=prt us j i) (by simp;omega)]at D;exact D
theorem Xvj(hU:Blk w gu 63 (Nc us))(hV:Blk w gv 63 (Nc vs))(hne:gv≠gu)(hj:j+n+1<=us.length)(hn:n<=vs.length)(hn1:n<=1000):
  Ret Tryz.prog 198 [.slice (some ⟨gu,j,none⟩) (n+1) c,.slice (some ⟨gv,0,none⟩) n cv] w λr w'=>∃ os k,os.length=n+1/\val os+4294967296^(n+1)*k=val (prt us j n)+val (vs.take n)/\Blk w' gu 63 (Nc (mid us j (n+1) os))/\w.grownBy w' (some gu):=by
 refine Jz Tryz.func198 Tryz.ntmps198 rfl kr rfl ?_;refine ρ ?_;have a6:(vs.take n).length=n:=by simp;omega
 refine Xf (fun (i O:Nat) (os:List UInt32)=>[(0,.slice (some ⟨gu,j,none⟩) (n+1) c),(1,.slice (some ⟨gv,0,none⟩) n cv),(4,.int .u64 (O:Int)),(7,.int .i64 (n:Int)),(8,.int .i64 (i:Int))])
  (λi O os w2=>i<=n/\AddInv (prt us j n) (vs.take n) i O os/\Blk w2 gu 63 (Nc (mid us j i os))/\w.grownBy w2 (some gu)) (λi _ _=>n-i) 0 0 [] sB
  ⟨Nat.zero_le _,⟨rfl,by decide,by simp[val]⟩,by rw[Qjp];exact hU,Xl (Ext.refl w) _⟩ ?_
 rintro i O os w2 ⟨hi,hI,hB,hg⟩;have y:=hI.1;have aa:=hI.2.1;have B:=Jbf (us:=us) (j:=j) y om;refine ρ ?_;refine ci (λh=>?_) (λh=>?_)
 .have a3:i<n:=by have:=oT h;omega
  clear h;have hx:((prt us j n).getD i 0).toNat<4294967296:=((prt us j n).getD i 0).toNat_lt;have hy:((vs.take n).getD i 0).toNat<4294967296:=((vs.take n).getD i 0).toNat_lt;refine ρ ?_;have a2:Ext w2 w2.drew:=(Ext.refl w2).drew;have a4:w.grownBy w2.drew (some gu):=Xy hg (Xl a2 _);have a1:=hB.ext a2;have a5:Blk w2.drew gv 63 (Nc vs):=hV.grown a4 (λe=>hne (by injection e));have D:Rd w2.drew 1 (some ⟨gu,j,none⟩) (n+1) (((Nc (mid us j i os)).drop j).take (n+1)):=a1.rdAt (by rw[Va,B];omega);have a7:Rd w2.drew 1 (some ⟨gv,0,none⟩) n (((Nc vs).drop 0).take n):=a5.rdAt (by rw[Va];omega);have Z:w2.drew.cell? (adr (some ⟨gu,j,none⟩) i)=some (.int .u32 (((prt us j n).getD i 0).toNat:Int)):=by
   rw[Jvb a1 (by rw[B];omega),Jgn y om (Nat.le_refl _),Jfr hi]
  have a9:w2.drew.cell? (adr (some ⟨gv,0,none⟩) i)=some (.int .u32 (((vs.take n).getD i 0).toNat:Int)):=by
   rw[Jvb a5 om,Nat.zero_add];congr 3
   simp[List.getD,a3]
  have es:IntKind.u64.wrap ((O:Int)+IntKind.u64.wrap (IntKind.u64.wrap (((prt us j n).getD i 0).toNat:Int)+IntKind.u64.wrap (((vs.take n).getD i 0).toNat:Int)))=((O+((prt us j n).getD i 0).toNat+((vs.take n).getD i 0).toNat:Nat):Int):=by
   simp only[IntKind.wrap_u64];omega
  refine dr [(0,0),(0,1),(0,2),(0,3),(0,4),(0,5),(0,6),(0,7),(0,8),(0,9),(0,10),(0,11),(0,12),(0,13)] kr ?_;refine ρd ?_;refine dix i D om ?_;refine ρd ?_;refine dld Z ?_;refine ρd ?_;refine dix i a7 a3 ?_;refine ρd ?_;refine dld a9 ?_;refine ρd ?_;refine ρ ?_;refine kv 4 (u:=.int .u64 ((O+((prt us j n).getD i 0).toNat+((vs.take n).getD i 0).toNat:Nat):Int)) (congrArg (Value.int .u64) es) ?_;refine kv 27 (u:=.int .u32 ((UInt32.ofNat (O+((prt us j n).getD i 0).toNat+((vs.take n).getD i 0).toNat)).toNat:Int)) (congrArg (Value.int .u32) ((congrArg IntKind.u32.wrap es).trans (Zv _))) ?_;refine ix i D om ?_;refine stJ (j:=j) (i:=i) a1 (by rw[Va,B];omega) ?_;intro w3 J U;rw[Yc,Jbd _ y om]at J;refine ρ ?_;refine Zk rfl rfl (by decide) rfl ?_;rw[Jqv];refine ρ ?_;exact Qn (i+1) _ _ sO ⟨om,hI.step rfl,J,Xy a4 U⟩ om
 have a8:i=n:=by have:=oF h;omega
 subst a8;clear h;have hx:((prt us j i).getD i 0).toNat<4294967296:=((prt us j i).getD i 0).toNat_lt;have D:Rd w2 1 (some ⟨gu,j,none⟩) (i+1) (((Nc (mid us j i os)).drop j).take (i+1)):=hB.rdAt (by rw[Va,B];omega);have Z:w2.cell? (adr (some ⟨gu,j,none⟩) i)=some (.int .u32 (((prt us j i).getD i 0).toNat:Int)):=by
  rw[Jvb hB (by rw[B];omega),Jgn y om (Nat.le_refl _),Jfr (Nat.le_refl _)]
 obtain⟨kk,G⟩:=Xvh hI a6;have es:IntKind.u32.wrap ((((prt us j i).getD i 0).toNat:Int)+IntKind.u32.wrap (O:Int))=((UInt32.ofNat (((prt us j i).getD i 0).toNat+O)).toNat:Int):=by
  rw[<-Zv];simp only[IntKind.wrap_u32];omega
 refine ρ ?_;refine ix i D om ?_;refine ρ ?_;refine ld Z ?_;refine ρ ?_;refine ix i D om ?_;refine kv 39 (u:=.int .u32 ((UInt32.ofNat (((prt us j i).getD i 0).toNat+O)).toNat:Int)) (congrArg (Value.int .u32) es) ?_;refine stJ (j:=j) (i:=i) hB (by rw[Va,B];omega) ?_;intro w3 J U;rw[Yc,Jbd _ y om]at J;refine ρ ?_;refine Yx ⟨_,kk,by simp[y],?_,J,Xy hg U⟩;rw[List.take_of_length_le (l:=prt us j i) (by simp;omega)]at G;exact G
open Go.RowKit Pl Go.Wk Kn
variable {al bl l os os2 ul us vl vs:List UInt32}{g i j k la n rest s x:Nat}{AA BA UA VA:Option Addr}{w:World}
theorem Jnt(h:l.length=k+2): val l=((l.getD (k+1) 0).toNat*4294967296+(l.getD k 0).toNat)*4294967296^k+val (l.take k):=by
 have e:l.take (k+2)=l:=List.take_of_length_le om;have j:=Zr (a:=l) (i:=k+1);have u:=Zr (a:=l) (i:=k);rw[show k+1+1=k+2 by omega,e]at j;rw[j,u,Nat.pow_succ];grind
theorem Jns(h:l.length=k+3): val l=(((l.getD (k+2) 0).toNat*4294967296+(l.getD (k+1) 0).toNat)*4294967296+(l.getD k 0).toNat)*4294967296^k+val (l.take k):=by
 have e:l.take (k+3)=l:=List.take_of_length_le om;have h0:=Zr (a:=l) (i:=k+2);have j:=Zr (a:=l) (i:=k+1);have u:=Zr (a:=l) (i:=k);rw[show k+2+1=k+3 by omega,e]at h0;rw[show k+1+1=k+2 by omega]at j;rw[h0,j,u,show k+2=k+1+1 by omega,Nat.pow_succ,Nat.pow_succ];grind
theorem Jkf(l:List UInt32)(k:Nat): val (l.take k)<4294967296^k:=by
 refine nM (Gq _) (Nat.pow_le_pow_right (by decide) ?_);rw[List.length_take];omega
theorem Qcl(hul:ul.length=k+3)(hvl:vl.length=k+2)(h:val ul<4294967296*val vl): (ul.getD (k+2) 0).toNat<=(vl.getD (k+1) 0).toNat:=by
 have D:=Jns hul;have B:=Jnt hvl;have u:=Jkf vl k;have i:(vl.getD k 0).toNat<4294967296:=(vl.getD k 0).toNat_lt;generalize (ul.getD (k+2) 0).toNat=a at *
 generalize (ul.getD (k+1) 0).toNat=b at *
 generalize (ul.getD k 0).toNat=c at *
 generalize (vl.getD (k+1) 0).toNat=x at *
 generalize (vl.getD k 0).toNat=y at *
 generalize val (ul.take k)=r at *
 generalize val (vl.take k)=s at *
 have j:0<4294967296^k:=Nat.pow_pos (by decide);generalize 4294967296^k=E at *
 rcases Nat.lt_or_ge x a with hlt|hge
 .exfalso
  have U:(x+1)*(4294967296*4294967296)*E<=a*(4294967296*4294967296)*E:=nO _ (nO _ hlt);have O:(x*4294967296+y)*E+E<=(x*4294967296+4294967296)*E:=by
   have:=nO E (show x*4294967296+y+1<=x*4294967296+4294967296 by omega);rw[Nat.add_mul (x*4294967296+y) 1 E,Nat.one_mul]at this;exact this
  have J:((a*4294967296+b)*4294967296+c)*E=a*(4294967296*4294967296)*E+(b*4294967296+c)*E:=by grind
  have G:(x*4294967296+4294967296)*E*4294967296=(x+1)*(4294967296*4294967296)*E:=by grind
  omega
 exact hge
theorem Qxm(hul:ul.length=k+3)(hvl:vl.length=k+2)(hv1:2147483648<=(vl.getD (k+1) 0).toNat)(hinv:rest+g*(vl.getD (k+1) 0).toNat=(ul.getD (k+2) 0).toNat*4294967296+(ul.getD (k+1) 0).toNat)(hq:val ul / val vl<=g∨((ul.getD (k+2) 0).toNat*4294967296+(ul.getD (k+1) 0).toNat)*4294967296+(ul.getD k 0).toNat<(g+1)*((vl.getD (k+1) 0).toNat*4294967296+(vl.getD k 0).toNat))(hg:g<4294967296)(hgv:g*(vl.getD k 0).toNat<=rest*4294967296+(ul.getD k 0).toNat): val ul / val vl<=g/\g<=val ul / val vl+1:=by
 have j:=Jns hul;have i:=Jnt hvl;refine Qtj (B:=0) (E:=4294967296^k) (P':=val (ul.take k)) (V':=val (vl.take k)) (Nat.pow_pos (by decide)) j (Jkf _ _) i (Jkf _ _) ?_ ?_ hq ?_
 .omega
 .rw[Nat.mul_add,<-Nat.mul_assoc];generalize g*(vl.getD (k+1) 0).toNat=z at *
  omega
 omega
theorem Qtk{T r a u b:Nat}(h:r+a=T)(h1:r*4294967296+u<b): T*4294967296+u<a*4294967296+b:=by
 rw[<-h,Nat.add_mul,Nat.add_comm (r*4294967296),Nat.add_assoc];exact Nat.add_lt_add_left h1 _
theorem Qtl{c cv:Nat}(hn:n=k+2)(hU:Rd w 1 UA (n+1) (Nc ul))(hV:Rd w 1 VA n (Nc vl))(hul:ul.length=n+1)(hvl:vl.length=n)(hn1:n<=1000)(hv1:2147483648<=(vl.getD (k+1) 0).toNat)(hP:val ul<4294967296*val vl):
  Ret Tryz.prog 196 [.slice UA (n+1) c,.slice VA n cv] w λr w'=>∃ g:Nat,r=.int .u64 (g:Int)/\g<4294967296/\val ul / val vl<=g/\g<=val ul / val vl+1/\Ext w w':=by
 subst hn;have ae:=Qcl hul hvl hP;have a8:(ul.getD (k+2) 0).toNat<4294967296:=(ul.getD (k+2) 0).toNat_lt;have a7:(ul.getD (k+1) 0).toNat<4294967296:=(ul.getD (k+1) 0).toNat_lt;have a6:(ul.getD k 0).toNat<4294967296:=(ul.getD k 0).toNat_lt;have a1:(vl.getD (k+1) 0).toNat<4294967296:=(vl.getD (k+1) 0).toNat_lt;have Z:(vl.getD k 0).toNat<4294967296:=(vl.getD k 0).toNat_lt;have aj:val ul / val vl<=4294967295:=by
  have:=Nat.div_lt_of_lt_mul (m:=val ul) (n:=val vl) (k:=4294967296) (by rw[Nat.mul_comm];exact hP);omega
 have cU:∀ {w':World} (j:Nat),Ext w w'->j<k+3->w'.cell? (adr UA j)=some (.int .u32 ((ul.getD j 0).toNat:Int)):=λj hx hj=>(hU.ext hx).cell (Qm om);have cV:∀ {w':World} (j:Nat),Ext w w'->j<k+2->w'.cell? (adr VA j)=some (.int .u32 ((vl.getD j 0).toNat:Int)):=λj hx hj=>(hV.ext hx).cell (Qm om);have eU:IntKind.u64.wrap ((vl.getD (k+1) 0).toNat:Int)=((vl.getD (k+1) 0).toNat:Int):=by rw[IntKind.wrap_u64];omega
 refine Jz Tryz.func196 Tryz.ntmps196 rfl kr rfl ?_;refine ρ ?_;have y:Ext w w.drew:=(Ext.refl w).drew;refine dr [(0,0),(0,1),(0,2),(0,3),(0,4),(0,5),(0,6),(0,7),(0,8),(0,9),(0,10),(0,11),(0,12),(0,13)] kr ?_;refine ρd ?_;refine dix (k+2) (hU.ext y) om ?_;refine ρd ?_;refine dld (cU (k+2) y om) ?_;refine ρd ?_;refine dshl ?_;refine ρd ?_;refine dix (k+1) (hU.ext y) om ?_;refine ρd ?_;refine dld (cU (k+1) y om) ?_;refine ρd ?_;have O:bits .or .u64 (IntKind.u64.wrap (IntKind.u64.wrap ((ul.getD (k+2) 0).toNat:Int)*2^min (32:Int).toNat IntKind.u64.bits)) (IntKind.u64.wrap ((ul.getD (k+1) 0).toNat:Int))=(((ul.getD (k+2) 0).toNat*4294967296+(ul.getD (k+1) 0).toNat:Nat):Int):=by
  rw[Zt (z:=((ul.getD (k+2) 0).toNat:Int)) om];exact Jcg a8 a7
 obtain⟨T,hT⟩:∃ T,(ul.getD (k+2) 0).toNat*4294967296+(ul.getD (k+1) 0).toNat=T:=⟨_,rfl⟩;rw[hT]at O;have ag:T<18446744073709551616:=om
 have a4:T / (vl.getD (k+1) 0).toNat<=T:=Nat.div_le_self _ _;have ad:IntKind.u64.wrap ((T:Int).tdiv ((vl.getD (k+1) 0).toNat:Int))=((T / (vl.getD (k+1) 0).toNat:Nat):Int):=by
  rw[show(T:Int).tdiv ((vl.getD (k+1) 0).toNat:Int)=((T / (vl.getD (k+1) 0).toNat:Nat):Int) from rfl];generalize T / (vl.getD (k+1) 0).toNat=q at a4 ⊢
  exact Zt om
 have ac:(T:Int).tmod ((vl.getD (k+1) 0).toNat:Int)=((T % (vl.getD (k+1) 0).toNat:Nat):Int):=rfl;refine ρ ?_;refine kv 6 (u:=.int .u64 (T:Int)) (congrArg (Value.int .u64) O) ?_;refine kv 24 (u:=.int .u64 (T:Int)) (congrArg (Value.int .u64) O) ?_;refine ix (k+1) (hV.ext y) om ?_;refine ρ ?_;refine ld (cV (k+1) y om) ?_;refine ρ ?_;refine kv 30 (u:=.int .u64 ((vl.getD (k+1) 0).toNat:Int)) (congrArg (Value.int .u64) eU) ?_;refine Ie rfl rfl om rfl ?_;rw[ad];refine ρ ?_;refine ix (k+1) (hV.ext y) om ?_;refine ρ ?_;refine ld (cV (k+1) y om) ?_;refine ρ ?_;refine kv 38 (u:=.int .u64 ((vl.getD (k+1) 0).toNat:Int)) (congrArg (Value.int .u64) eU) ?_;refine wrem rfl rfl om rfl ?_;rw[ac];refine ρ ?_;have U:T % (vl.getD (k+1) 0).toNat+T / (vl.getD (k+1) 0).toNat*(vl.getD (k+1) 0).toNat=T:=by rw[Nat.mul_comm];exact Nat.mod_add_div _ _
 have af:=Nat.mod_lt T (show 0<(vl.getD (k+1) 0).toNat by omega);have a9:T*4294967296+(ul.getD k 0).toNat<(T / (vl.getD (k+1) 0).toNat+1)*((vl.getD (k+1) 0).toNat*4294967296+(vl.getD k 0).toNat):=by
  have e:(T / (vl.getD (k+1) 0).toNat+1)*(vl.getD (k+1) 0).toNat ≥ T+1:=by rw[Nat.add_mul];omega
  have e1:=nO 4294967296 e;rw[Nat.mul_add,<-Nat.mul_assoc];omega
 refine Qq (fun (g r:Nat)=>[(0,.slice UA (k+2+1) c),(1,.slice VA (k+2) cv),(5,.int .i64 ((k+2:Nat):Int)),(7,.int .u64 (g:Int)),(8,.int .u64 (r:Int))])
  (λg r w'=>Ext w w'/\g<=T/\r<4294967296/\r+g*(vl.getD (k+1) 0).toNat=T/\(val ul / val vl<=g∨T*4294967296+(ul.getD k 0).toNat<(g+1)*((vl.getD (k+1) 0).toNat*4294967296+(vl.getD k 0).toNat))) (λg _=>g) (T / (vl.getD (k+1) 0).toNat) (T % (vl.getD (k+1) 0).toNat) sB
  ⟨y,a4,om,U,.inr a9⟩ ?_
 rintro g r w2 ⟨a5,ah,hr,J,hq⟩;have i:Ext w w2.drew:=a5.drew;refine ρ ?_;refine Xn (fun (t:Bool)=>[(0,.slice UA (k+2+1) c),(1,.slice VA (k+2) cv),(5,.int .i64 ((k+2:Nat):Int)),(7,.int .u64 (g:Int)),(8,.int .u64 (r:Int)),(61,.bool t)])
  (λt w'=>Ext w w'/\(t=true↔4294967295<g∨r*4294967296+(ul.getD k 0).toNat<g*(vl.getD k 0).toNat)) ?_ ?_
 .refine dr [(0,0),(0,1),(0,2),(0,3),(0,4),(0,5),(0,6),(0,7),(0,8),(0,9),(0,10),(0,11),(0,12),(0,13),(0,14),(0,15),(0,16),(0,17),(0,18),(0,19),(0,20),(0,21)] kr ?_;refine ρd ?_;refine dki 42 (λh=>?_) (λh=>?_)
  .have a3:=oT h;refine ρd ?_;exact Jg true sB ⟨i,⟨λ_=>.inl om,λ_=>rfl⟩⟩
  have a3:g<4294967296:=by have:=oF h;omega
  refine ρd ?_;refine dix k (hV.ext i) om ?_;refine ρd ?_;refine dld (cV k i om) ?_;refine ρd ?_;refine dshl ?_;refine ρd ?_;refine dix k (hU.ext i) om ?_;refine ρd ?_;refine dld (cU k i om) ?_;have em:IntKind.u64.wrap ((g:Int)*IntKind.u64.wrap ((vl.getD k 0).toNat:Int))=((g*(vl.getD k 0).toNat:Nat):Int):=by
   rw[Zt (z:=((vl.getD k 0).toNat:Int)) om,<-Int.natCast_mul];have:=Jxt a3 Z;generalize g*(vl.getD k 0).toNat=z at *
   exact Zt om
  refine ρd ?_;rw[Jcg hr a6,em];refine Jg _ sB ⟨i,?_⟩;rw[decide_eq_true_eq];generalize g*(vl.getD k 0).toNat=z at *
  omega
 rintro t w3 ⟨D,ht⟩;refine ρ ?_;refine ci (λh=>?_) (λh=>?_)
 .have hc:=ht.1 h;have ai:1<=g:=by
   rcases Nat.eq_zero_or_pos g with h0|h0
   .subst h0;simp at hc
   exact h0
  obtain⟨g,rfl⟩:∃ x,g=x+1:=⟨g-1,om⟩;have e7:IntKind.u64.wrap (((g+1:Nat):Int)-1)=(g:Int):=by
   rw[show(((g+1:Nat):Int)-1)=(g:Int) by omega];exact Zt om
  have e8:IntKind.u64.wrap ((r:Int)+IntKind.u64.wrap ((vl.getD (k+1) 0).toNat:Int))=((r+(vl.getD (k+1) 0).toNat:Nat):Int):=Qvz om a1;have G:(r+(vl.getD (k+1) 0).toNat)+g*(vl.getD (k+1) 0).toNat=T:=by
   rw[Nat.add_mul,Nat.one_mul]at J;omega
  have a2:val ul / val vl<=g∨T*4294967296+(ul.getD k 0).toNat<(g+1)*((vl.getD (k+1) 0).toNat*4294967296+(vl.getD k 0).toNat):=by
   rcases hc with h1|h1
   .exact .inl om
   right
   rw[Nat.mul_add,<-Nat.mul_assoc];exact Qtk J h1
  refine ρ ?_;refine kv 7 (u:=.int .u64 (g:Int)) (congrArg (Value.int .u64) e7) ?_;refine ix (k+1) (hV.ext D) om ?_;refine ρ ?_;refine ld (cV (k+1) D om) ?_;refine ρ ?_;rw[e8];refine ci (λh2=>?_) (λh2=>?_)
  .have ab:=oT h2;have B:g<4294967296:=by
    rcases Nat.lt_or_ge g 4294967296 with h3|h3
    .exact h3
    have:=nO (vl.getD (k+1) 0).toNat h3;omega
   refine ρ ?_;refine Jq ⟨g,rfl,B,?_⟩;have aa:g*(vl.getD k 0).toNat<=(r+(vl.getD (k+1) 0).toNat)*4294967296+(ul.getD k 0).toNat:=by
    have:=Jxt B Z;omega
   obtain⟨a,b⟩:=Qxm hul hvl hv1 (by rw[hT];exact G) (by rw[hT];exact a2) B aa;exact⟨a,b,D⟩
  have ab:=oF h2;refine ρ ?_;exact Ju g (r+(vl.getD (k+1) 0).toNat) sB ⟨D,om,om,G,a2⟩ om
 have hc:¬ (4294967295<g∨r*4294967296+(ul.getD k 0).toNat<g*(vl.getD k 0).toNat):=λe=>by
  have:=ht.2 e;rw[h]at this;cases this
 have B:g<4294967296:=om
 obtain⟨a,b⟩:=Qxm hul hvl hv1 (by rw[hT];exact J) (by rw[hT];exact hq) B om;refine ρ ?_;exact Jq ⟨g,rfl,B,a,b,D⟩
theorem Qps(h:os.length=i)(hl:j+i<=us.length): mid (mid us j i os) j i os2=mid us j i os2:=by
 unfold mid;have y:(us.take j++os++us.drop (j+i)).take j=us.take j:=by
  rw[List.append_assoc,List.take_append_of_le_length (by simp;omega),List.take_of_length_le (by simp;omega)]
 have u:(us.take j++os++us.drop (j+i)).drop (j+i)=us.drop (j+i):=by
  rw[List.drop_append_of_le_length (by simp;omega),List.drop_of_length_le (by simp;omega),List.nil_append]
 rw[y,u]
theorem Qjn(hl:j+i<=us.length): (mid us j i os).drop j=os++us.drop (j+i):=by
 unfold mid;rw[List.append_assoc,List.drop_append_of_le_length (by simp;omega),List.drop_of_length_le (by simp;omega),List.nil_append]
theorem Qhj(h:os.length=n+1)(hl:j+(n+1)<=us.length): prt (mid us j (n+1) os) j n=os:=by
 unfold prt;rw[Qjn hl,List.take_append_of_le_length om,List.take_of_length_le om]
theorem Qkh{V:Nat}(hV:0<V)(hVn:V<=4294967296^n)(hl:j+(n+1)<=us.length)(hlt:val (us.drop (j+1))<V):
  val (prt us j n)=val (us.drop j)/\val (us.drop j)<4294967296*V/\(os.length=n+1->val os=val (prt us j n) % V->val ((mid us j (n+1) os).drop j)<V/\val (mid us j (n+1) os)+4294967296^j*(val (prt us j n) / V)*V=val us):=by
 have h1:val (us.drop j)=(us.getD j 0).toNat+4294967296*val (us.drop (j+1)):=Jvq om;have hu:(us.getD j 0).toNat<4294967296:=(us.getD j 0).toNat_lt;have G:val (us.drop j)<4294967296*V:=om
 have e:us.drop j=prt us j n++us.drop (j+(n+1)):=by
  unfold prt;rw[<-List.drop_drop,List.take_append_drop]
 have y:(prt us j n).length=n+1:=by simp[prt];omega
 have u:val (us.drop j)=val (prt us j n)+4294967296^(n+1)*val (us.drop (j+(n+1))):=by
  conv=>lhs;rw[e,Xa,y]
 have B:val (us.drop (j+(n+1)))=0:=by
  rcases Nat.eq_zero_or_pos (val (us.drop (j+(n+1)))) with h0|h0
  .exact h0
  exfalso
  have Z:=Nat.mul_le_mul_left (4294967296^(n+1)) h0;have h4:=Nat.mul_le_mul_left 4294967296 hVn;rw[Nat.pow_succ]at Z u;omega
 rw[B,Nat.mul_zero,Nat.add_zero]at u;refine⟨u.symm,G,λD i=>?_⟩;have U:val ((mid us j (n+1) os).drop j)=val os:=by
  rw[Qjn hl,Xa,B,Nat.mul_zero,Nat.add_zero]
 refine⟨by rw[U,i];exact Nat.mod_lt _ hV,?_⟩;have e2:us=us.take j++us.drop j:=(List.take_append_drop j us).symm;have O:val us=val (us.take j)+4294967296^j*val (us.drop j):=by
  conv=>lhs;rw[e2,Xa,List.length_take,Nat.min_eq_left om]
 have J:val (mid us j (n+1) os)=val (us.take j)+4294967296^j*val os:=by
  unfold mid;rw[List.append_assoc,Xa,List.length_take,Nat.min_eq_left om,Xa,B,Nat.mul_zero,Nat.add_zero]
 rw[O,J,i,<-u,Nat.mul_assoc,Nat.add_assoc,<-Nat.mul_add,Nat.mod_add_div']
theorem Qnk(h0:0<x)(h:x<4294967296): Jw x<=32/\32-Jw x<32/\2147483648<=x*2^(32-Jw x)/\x*2^(32-Jw x)<4294967296:=by
 have D:=Ys (x:=x) (k:=32) h;obtain⟨B,j⟩:=Ky (x:=x) om;have i:=Up (x:=x);have J:2^(Jw x-1)*2^(32-Jw x)=2147483648:=by rw[<-Nat.pow_add,show Jw x-1+(32-Jw x)=31 by omega]
 have G:2^Jw x*2^(32-Jw x)=4294967296:=by rw[<-Nat.pow_add,show Jw x+(32-Jw x)=32 by omega]
 have y:=nO (2^(32-Jw x)) j;have u:=Nat.mul_lt_mul_of_pos_right i (Nat.two_pow_pos (32-Jw x));omega
theorem Qrd(h:x<4294967296)(w:World): Ret Tryz.prog 194 [.int .u32 (x:Int)] w λv w'=>v=.int .i64 ((32-Jw x:Nat):Int)/\w'=w:=by
 have i:=Ys (x:=x) (k:=32) h;refine Jz Tryz.func194 Tryz.ntmps194 rfl kr rfl ?_;refine ρ ?_;refine cl (Qqs x h _) ?_;rintro _ w1 ⟨rfl,rfl⟩;have e:IntKind.i64.wrap ((32:Int)-(Jw x:Int))=((32-Jw x:Nat):Int):=by rw[Vn om];omega
 refine ρ ?_;refine Jq ⟨?_,rfl⟩;first
  | exact congrArg (Value.int .i64) e
  | exact congrArg (Value.int .i64) om
theorem Xqf(hn:n=k+2)(hbl:bl.length=n)(hvl:vs.length=n+1)(hvv:val vs=val bl*2^s)(hs:s<32)(hs3:2147483648<=(bl.getD (k+1) 0).toNat*2^s)(hs4:(bl.getD (k+1) 0).toNat*2^s<4294967296):
  val (vs.take n)=val bl*2^s/\val bl*2^s<4294967296^n/\2147483648*4294967296^(k+1)<=val bl*2^s/\2147483648<=((vs.take n).getD (k+1) 0).toNat:=by
 subst hn;have e:bl.take (k+2)=bl:=List.take_of_length_le om;have O:=Zr (a:=bl) (i:=k+1);rw[show k+1+1=k+2 by omega,e]at O;have h2:=Jkf bl (k+1);have hp:2^s*2^(32-s)=4294967296:=by rw[<-Nat.pow_add,show s+(32-s)=32 by omega]
 have B:=Nat.two_pow_pos s;generalize (bl.getD (k+1) 0).toNat=t at *
 generalize val (bl.take (k+1))=lo at *
 have hE:0<4294967296^(k+1):=Nat.pow_pos (by decide);have J:4294967296^(k+2)=4294967296^(k+1)*4294967296:=Nat.pow_succ ..;have y:(t+1)*2^s<=4294967296:=by
  rw[<-hp,Nat.mul_comm (2^s)]at hs4 ⊢;exact nO _ (Nat.lt_of_mul_lt_mul_right hs4)
 have G:val bl*2^s<4294967296^(k+2):=by
  have u:val bl<4294967296^(k+1)*(t+1):=by rw[O,Nat.mul_add];omega
  have U:=Nat.mul_lt_mul_of_pos_right u B;have a3:=Nat.mul_le_mul_left (4294967296^(k+1)) y;rw[Nat.mul_assoc]at U;rw[J];omega
 have D:2147483648*4294967296^(k+1)<=val bl*2^s:=by
  have u:=nO (4294967296^(k+1)) hs3;have U:t*2^s*4294967296^(k+1)=4294967296^(k+1)*t*2^s:=by grind
  have a3:val bl*2^s=lo*2^s+4294967296^(k+1)*t*2^s:=by rw[O,Nat.add_mul]
  omega
 have j:=Zr (a:=vs) (i:=k+2);rw[show k+2+1=k+3 by omega,List.take_of_length_le om,hvv]at j;have Z:(vs.getD (k+2) 0).toNat=0:=by
  rcases Nat.eq_zero_or_pos (vs.getD (k+2) 0).toNat with h0|h0
  .exact h0
  have:=Nat.mul_le_mul_left (4294967296^(k+2)) h0;omega
 rw[Z,Nat.mul_zero,Nat.add_zero]at j;refine⟨j.symm,G,D,?_⟩;have h4:=Zr (a:=vs) (i:=k+1);have h5:=Jkf vs (k+1);have e2:(vs.take (k+2)).getD (k+1) 0=vs.getD (k+1) 0:=by simp[List.getD]
 rw[e2];rw[show k+1+1=k+2 by omega,<-j]at h4;generalize (vs.getD (k+1) 0).toNat=x at *
 rcases Nat.lt_or_ge x 2147483648 with h6|h6
 .exfalso
  have u:=Nat.mul_le_mul_left (4294967296^(k+1)) (show x+1<=2147483648 from h6);rw[Nat.mul_add,Nat.mul_one,Nat.mul_comm _ 2147483648]at u;omega
 exact h6
theorem Xqd{V:Nat}(hn:n=k+2)(hal:al.length=la)(hul:us.length=la+1)(hle:n<=la)(huv:val us=val al*2^s)(hs:s<32)(hV:2147483648*4294967296^(k+1)<=V): val (us.drop (la-n+1))<V:=by
 subst hn;have y:us=us.take (la-(k+2)+1)++us.drop (la-(k+2)+1):=(List.take_append_drop _ us).symm;have D:val us=val (us.take (la-(k+2)+1))+4294967296^(la-(k+2)+1)*val (us.drop (la-(k+2)+1)):=by
  conv=>lhs;rw[y,Xa,List.length_take,Nat.min_eq_left om]
 have i:=Gq al;rw[hal]at i;have j:2^s<=2^31:=Nat.pow_le_pow_right (by decide) om;have u:4294967296^la=4294967296^(la-(k+2)+1)*4294967296^(k+1):=by rw[<-Nat.pow_add];congr 1;omega
 have B:val al*2^s<4294967296^(la-(k+2)+1)*(2147483648*4294967296^(k+1)):=by
  refine nM (Nat.mul_lt_mul_of_pos_right i (Nat.two_pow_pos s)) ?_;rw[u,Nat.mul_assoc];refine Nat.mul_le_mul_left _ ?_;rw[Nat.mul_comm];exact nO _ j
 refine nM ?_ hV;refine Nat.lt_of_mul_lt_mul_left (a:=4294967296^(la-(k+2)+1)) ?_;omega
theorem Jmk(us:List UInt32)(j m:Nat): ((Nc us).drop j).take m=Nc ((us.drop j).take m):=by simp[Nc,List.map_drop,List.map_take]
theorem Xqv(g j c:Nat)(h:¬ c=j): (if c=j then(some ⟨g,0,none⟩:Option Addr) else(some ⟨g,0,none⟩:Option Addr).map λx=>x.add (j*1))=some ⟨g,j,none⟩:=by
 rw[if_neg h,Option.map_some,Zm];simp
theorem Xqh{ca cb:Nat}(hn:n=k+2)(hA:Rd w 1 AA la (Nc al))(hB:Rd w 1 BA n (Nc bl))(hal:al.length=la)(hbl:bl.length=n)(hla:la<=1000)(hle:n<=la)(htop:0<(bl.getD (k+1) 0).toNat):
  Ret Tryz.prog 167 [.slice AA la ca,.slice BA n cb] w λr w'=>∃ Q R qs rs,r=.tuple #[.slice Q (la-n+1) (la-n+1),.slice R n n]/\qs.length=la-n+1/\rs.length=n/\val qs=val al / val bl/\val rs=val al % val bl/\w'.ownsRow w.heap.size 63 1 (.slice Q (la-n+1) (la-n+1)) (la-n+1) (Nc qs)/\w'.ownsRow w.heap.size 63 1 (.slice R n n) n (Nc rs)/\Ext w w':=by
 have b1:(bl.getD (k+1) 0).toNat<4294967296:=(bl.getD (k+1) 0).toNat_lt;obtain⟨c0,a5,bg,bf⟩:=Qnk htop b1;generalize hS:32-Jw (bl.getD (k+1) 0).toNat=s at *
 refine Jz Tryz.func167 Tryz.ntmps167 rfl kr rfl ?_;refine ρ ?_;refine ix (k+1) hB om ?_;refine ρ ?_;refine ld (hB.cell (Qm (show k+1<bl.length by omega))) ?_;refine ρ ?_;refine cl (Qrd b1 _) ?_;rintro _ w1 ⟨rfl,rfl⟩;rw[hS];refine ρ ?_;rw[Zt (z:=(s:Int)) om];refine cl (Jrf hbl om hB a5) ?_;rintro _ w2 ⟨gv,vs,rfl,be,bc,c2,G,aa⟩;refine ρ ?_;refine slh n ?_;refine ρ ?_;refine cl (Jrf hal hla (hA.ext aa) a5) ?_;rintro _ w3 ⟨B,us,rfl,a3,ao,bs,J,an⟩;refine ρ ?_;refine mkn EN (la-n+1) om (by unfold maxLen;omega) ?_;intro w4 O ay b4 _;have af:w4.ownsRow w3.heap.size 63 1 (.slice O (la-n+1) (la-n+1)) (la-n+1) (Nc (List.replicate (la-n+1) 0)):=by
  have e:(madeCells (Value.int .u32 0).cells ((la-n+1)*1)).toList=Nc (List.replicate (la-n+1) 0):=by rw[Nat.mul_one,<-Jqh];exact Vw _ _
  rw[<-e];exact b4
 obtain⟨gq,rfl,bt,a9⟩:=Jtp af om;obtain⟨d1,d2,d3,d4⟩:=Xqf hn hbl be bc a5 bg bf;have d5:=Xqd hn hal a3 hle ao a5 d3;have ac:0<val bl*2^s:=by
  have:=Nat.mul_le_mul_left 2147483648 (Nat.pow_pos (n:=k+1) (show 0<4294967296 by decide));omega
 generalize hVd:val bl*2^s=V at *
 have ab:gv≠B:=by have:=G.lt;omega
 have bd:gv≠gq:=by have:=(G.ext an).lt;omega
 have ap:B≠gq:=by have:=J.lt;omega
 have ad:=an.trans ay;have az:=aa.trans ad;have b9:w1.heap.size<=B:=nL aa.size bs;have ba:w1.heap.size<=gq:=nL (aa.trans an).size bt;refine ρ ?_;refine Xf (fun (kk:Nat) (us qs:List UInt32)=>[(0,.slice AA la ca),(1,.slice BA n cb),(6,.int .i64 (n:Int)),(7,.int .u64 (s:Int)),(8,.slice (some ⟨gv,0,none⟩) n (n+1)),(9,.slice (some ⟨B,0,none⟩) (la+1) (la+1)),(10,.slice (some ⟨gq,0,none⟩) (la-n+1) (la-n+1)),(11,.int .i64 ((kk:Int)-1))])
  (λkk us qs w'=>Ext w1 w'/\kk<=la-n+1/\us.length=la+1/\qs.length=la-n+1/\Blk w' B 63 (Nc us)/\Blk w' gv 63 (Nc vs)/\Blk w' gq 63 (Nc qs)/\val (us.drop kk)<V/\val qs*V+val us=val al*2^s/\∀ j,j<kk->qs.getD j 0=0) (λkk _ _=>kk) (la-n+1) us (List.replicate (la-n+1) 0) sO
  ⟨az,Nat.le_refl _,a3,by simp,J.ext ay,G.ext ad,a9,d5,?_,λj hj=>by simp[List.getD,hj]⟩ ?_
 .have e0:∀ m,val (List.replicate m (0:UInt32))=0:=λm=>by
   induction m with
   | zero=>rfl
   | succ m ih=>rw[List.replicate_succ];simp[val,ih]
  rw[e0,Nat.zero_mul,Nat.zero_add,ao]
 clear J G a9 d5 ao a3 b4 af;rintro kk us qs w5 ⟨am,c1,a3,ar,J,G,a9,a6,a2,hz⟩;refine ρ ?_;refine ci (λh=>?_) (λh=>?_)
 .obtain⟨j,rfl⟩:∃ j,kk=j+1:=⟨kk-1,by have:=oT h;omega⟩;clear h;obtain⟨p1,p2,p3⟩:=Qkh (us:=us) (os:=(us.drop j).take (n+1)) (j:=j) (n:=n) ac (Nat.le_of_lt d2) om a6;have b3:(prt us j n).length=n+1:=by simp[prt];omega
  have b2:(vs.take n).length=n:=by simp;omega
  refine ρ ?_;refine slb j (j+n+1) ?_ (show j<=j+n+1 by omega) (show j+n+1<=la+1 by omega) (show((j+1:Nat):Int)-1=(j:Int) by omega) (show((j+1:Nat):Int)-1+(n:Int)+1=((j+n+1:Nat):Int) by omega);have ec:(if la+1=j then(some ⟨B,0,none⟩:Option Addr) else(some ⟨B,0,none⟩:Option Addr).map λx=>x.add (j*1))=some ⟨B,j,none⟩:=Xqv B j (la+1) om;have ev:Value.slice (if la+1=j then(some ⟨B,0,none⟩:Option Addr) else(some ⟨B,0,none⟩:Option Addr).map λx=>x.add (j*1)) (j+n+1-j) (la+1-j)=.slice (some ⟨B,j,none⟩) (n+1) (la+1-j):=by rw[ec,show j+n+1-j=n+1 by omega]
  refine ρ ?_;refine kv 12 (u:=.slice (some ⟨B,j,none⟩) (n+1) (la+1-j)) ev ?_;refine kv 52 (u:=.slice (some ⟨B,j,none⟩) (n+1) (la+1-j)) ev ?_;have aq:Rd w5 1 (some ⟨B,j,none⟩) (n+1) (Nc (prt us j n)):=by
   have:=J.rdAt (j:=j) (m:=n+1) (by rw[Va];omega);rwa [Jmk]at this
  have bm:Rd w5 1 (some ⟨gv,0,none⟩) n (Nc (vs.take n)):=by
   have:=G.rdAt (j:=0) (m:=n) (by rw[Va];omega);rwa [Jmk,List.drop_zero]at this
  refine cl (Qtl hn aq bm b3 b2 om d4 (by rw[p1,d1];exact p2)) ?_;rintro _ w6 ⟨g,rfl,hg,av,au,D⟩;have ai:=G.ext D;have b7:=a9.ext D;refine ρ ?_;refine cl (Qdj (n:=n) (j:=j) (J.ext D) ai ab om om om hg) ?_;rintro _ w7 ⟨neg,os,rfl,ag,y,a4,a7,hg7⟩;rw[d1]at a4 av au;have U:=ai.grown hg7 (λe=>ab (by injection e));have a8:=b7.grown hg7 (λe=>ap (by injection e with e;exact e.symm));have ak:Ext w1 w7:=Ja (am.trans D) hg7 λq e=>by injection e with e;rw[<-e];exact b9
  have bw:val (prt us j n)<4294967296^(n+1):=by have:=Gq (prt us j n);rwa [b3]at this
  have b5:val os<4294967296^(n+1):=by have:=Gq os;rwa [y]at this
  obtain⟨g0,g1⟩:=digit ac a4 bw b5 ag ⟨av,au⟩;refine ρ ?_;refine Gn (fun (g:Nat) (os:List UInt32)=>[(0,.slice AA la ca),(1,.slice BA n cb),(6,.int .i64 (n:Int)),(7,.int .u64 (s:Int)),(8,.slice (some ⟨gv,0,none⟩) n (n+1)),(9,.slice (some ⟨B,0,none⟩) (la+1) (la+1)),(10,.slice (some ⟨gq,0,none⟩) (la-n+1) (la-n+1)),(11,.int .i64 (((j+1:Nat):Int)-1)),(13,.int .u64 (g:Int))])
   (λg os w'=>Ext w1 w'/\g=val (prt us j n) / V/\os.length=n+1/\val os=val (prt us j n) % V/\Blk w' B 63 (Nc (mid us j (n+1) os))/\Blk w' gv 63 (Nc vs)/\Blk w' gq 63 (Nc qs)) ?_ ?_
  .refine ci (λh=>?_) (λh=>?_)
   .have bo:neg=1:=eq_of_beq h;obtain⟨q1,q2⟩:=g1 bo;have e7:IntKind.u64.wrap ((g:Int)-1)=((val (prt us j n) / V:Nat):Int):=by
     rw[q1];generalize val (prt us j n) / V=z at *
     rw[Zt om];omega
    have bq:(mid us j (n+1) os).length=us.length:=Jbf y om;refine ρ ?_;rw[e7];refine cl (Xvj (n:=n) (j:=j) a7 U ab (by rw[bq];omega) om om) ?_;rintro _ w8 ⟨a1,k2,ae,ah,Z,ax⟩;rw[Qhj y om,d1]at ah;rw[Qps y om]at Z;have bz:val a1<4294967296^(n+1):=by have:=Gq a1;rwa [ae]at this
    refine ρ ?_;exact Xe (val (prt us j n) / V) a1 sB ⟨Ja ak ax λq e=>by injection e with e;rw[<-e];exact b9,rfl,ae,q2 _ k2 bz ah,Z,U.grown ax (λe=>ab (by injection e)),a8.grown ax (λe=>ap (by injection e with e;exact e.symm))⟩
   have bp:neg=0:=by
    have:neg≠1:=λe=>by rw[e]at h;cases h
    omega
   obtain⟨q1,q2⟩:=g0 bp;refine ρ ?_;exact Xe g os sB ⟨ak,q1,y,q2,a7,U,a8⟩
  clear g0 g1 a4 b5 a7 U a8 hg7 ak y ag av au hg p3;rintro g a1 w8 ⟨bb,rfl,y,bn,Z,b6,aj⟩;obtain⟨_,_,p3⟩:=Qkh (us:=us) (os:=a1) (j:=j) (n:=n) ac (Nat.le_of_lt d2) om a6;obtain⟨p4,p5⟩:=p3 y bn;have bu:val (prt us j n) / V<4294967296:=Nat.div_lt_of_lt_mul (by rw[p1,Nat.mul_comm];exact p2);refine ρ ?_;rw[Zv];refine ix j (aj.rd (n:=la-n+1) (by rw[Va];omega)) om ?_;refine stJ (j:=0) (i:=j) aj (by rw[Va];omega) ?_;intro w9 b8 aw;rw[Nat.zero_add,Yc]at b8;refine ρ ?_;refine Qn j (mid us j (n+1) a1) (qs.set j (UInt32.ofNat (val (prt us j n) / V))) sO ⟨Ja bb aw λq e=>by injection e with e;rw[<-e];exact ba,om,by rw[Jbf y om];exact a3,by simp[ar],Z.grown aw (λe=>ap (by injection e)),b6.grown aw (λe=>bd (by injection e)),b8,p4,?_,λi hi=>?_⟩ om
  .have h1:=Jdh (UInt32.ofNat (val (prt us j n) / V)) (show j<qs.length by omega);rw[hz j om,UInt32.toNat_ofNat',Nat.mod_eq_of_lt (show val (prt us j n) / V<2^32 from bu)]at h1;rw[show(0:UInt32).toNat=0 from rfl,Nat.mul_zero,Nat.add_zero]at h1;rw[h1,Nat.add_mul,Nat.add_assoc,Nat.add_comm (4294967296^j*_*V),p5];exact a2
  rw[Qxq _ om];exact hz i om
 have br:kk=0:=by have:=oF h;omega
 subst br;clear h;rw[List.drop_zero]at a6;have ht:val (us.take n)=val us:=by
  have e2:us=us.take n++us.drop n:=(List.take_append_drop _ us).symm;have h6:val us=val (us.take n)+4294967296^n*val (us.drop n):=by
   conv=>lhs;rw[e2,Xa,List.length_take,Nat.min_eq_left om]
  rcases Nat.eq_zero_or_pos (val (us.drop n)) with h0|h0
  .rw[h0]at h6;omega
  have:=Nat.mul_le_mul_left (4294967296^n) h0;omega
 have hp:=Nat.two_pow_pos s;have hq:val qs=val al / val bl:=by
  rw[<-Nat.mul_div_mul_right _ _ hp,hVd,<-a2,Nat.add_comm,Nat.add_mul_div_right _ _ ac,Nat.div_eq_of_lt a6,Nat.zero_add]
 have hr:val us=val al % val bl*2^s:=by
  rw[<-Nat.mul_mod_mul_right,hVd,<-a2,Nat.add_comm,Nat.add_mul_mod_self_right,Nat.mod_eq_of_lt a6]
 refine ρ ?_;refine slh n ?_;refine ρ ?_;have aq:Rd w5 1 (some ⟨B,0,none⟩) n (Nc (us.take n)):=by
  have:=J.rdAt (j:=0) (m:=n) (by rw[Va];omega);rwa [Jmk,List.drop_zero]at this
 refine cl (Qfd (l:=us.take n) (by simp;omega) om aq a5) ?_;rintro _ w6 ⟨R,rs,rfl,bj,bh,bi,D⟩;refine ρ ?_;refine Xb ⟨_,R,qs,rs,rfl,ar,bj,hq,?_,(a9.ext D).own ba (by rw[Va,ar];omega) (by unfold maxLen;omega),Kj bi am.size,am.trans D⟩;rw[bh,ht,hr,Nat.mul_div_cancel _ hp]
open Go.RowKit Pl Go.Wk Kn
variable {K a b:Nat}
theorem Qph{v u:Value}{w:World}(hv:NatV w v a)(hu:NatV w u b)(hn:(Jj a).length<=1000)(hb:4294967296<=b):
  Ret Tryz.prog 102 [v,u] w λr w'=>(∃ x y,r=.tuple #[x,y,.int .i64 0]/\NatX (Ol w) w' x (a / b)/\NatX (Ol w) w' y (a % b))/\Ext w w':=by
 have ag:(Jj b).length<=4611686018427387904:=by obtain⟨_,_,_,_,h,_⟩:=hu;exact h
 have a7:2<=(Jj b).length:=by
  rcases Nat.lt_or_ge (Jj b).length 2 with h|h
  .exfalso
   have h1:=Qql b;have h2:4294967296^(Jj b).length<=4294967296^1:=Nat.pow_le_pow_right (by decide) om;omega
  exact h
 refine Jz Tryz.func102 Tryz.ntmps102 rfl kr rfl ?_;refine ρ ?_;refine cl (Za hv) ?_;rintro v' w' ⟨⟨A,rfl,ha⟩,rfl⟩;refine ρ ?_;refine cl (Za hu) ?_;rintro u' D ⟨⟨B,rfl,a6⟩,rfl⟩;refine ρ ?_;refine cf ?_ ?_
 .exact Jcq om
 refine ρ ?_;refine cl (Jxs (n:=a) (m:=b) ⟨A,_,rfl,Nat.le_refl _,om,ha⟩ ⟨B,_,rfl,Nat.le_refl _,ag,a6⟩) ?_;rintro t w' ⟨rfl,i⟩;refine ρ ?_;refine ci (λh=>?_) (λh=>?_)
 .have a4:a<b:=by
   have:=oT h;unfold Vt at this;grind
  refine ρ ?_;refine cl (Jwz (ha.ext i) (Jzr _) om) ?_;rintro v' w1 ⟨ho,hx⟩;obtain⟨A',c',rfl,hc,hf⟩:=Jv ho;refine ρ ?_;refine Jwn ⟨⟨.slice none 0 0,_,rfl,?_,?_⟩,i.trans hx⟩
  .rw[Nat.div_eq_of_lt a4];exact NatX.nil _
  rw[Nat.mod_eq_of_lt a4];exact⟨⟨A',c',rfl,hc,om,Rd.own ho⟩,λ_ j m c e hk=>by
   injection e with O e2 e3
   subst O;have:=(hf j.block rfl).1;have:=i.size;have a5:j.block<D.heap.size:=hk;omega⟩
 have ah:b<=a:=by
  have:=oF h;unfold Vt at this;grind
 clear h;have ae:(Jj b).length<=(Jj a).length:=by
  rcases Nat.lt_or_ge (Jj a).length (Jj b).length with h1|h1
  .have:=Jgt h1;omega
  exact h1
 refine ρ ?_;refine cf ?_ ?_
 .exact Jcq om
 refine ρ ?_;obtain⟨l,c,hl,af⟩:=Jgx (n:=b) om;have U:0<((Jj b).getD ((Jj b).length-2+1) 0).toNat:=by
  have e:(Jj b).length-2+1=l.length:=by rw[hl];simp;rw[hl]at a7;simp at a7;omega
  rw[e,hl];simp only[List.getD,List.getElem?_concat_length,Option.getD_some];rcases Nat.eq_zero_or_pos c.toNat with h0|h0
  .exact absurd (UInt32.toNat_inj.1 h0) af
  exact h0
 refine cl (Xqh (k:=(Jj b).length-2) om (ha.ext i) (a6.ext i) rfl rfl hn ae U) ?_;rintro _ w1 ⟨Q,R,qs,rs,rfl,ab,a9,a2,Z,a3,a1,a8⟩;rw[Zs,Zs]at a2 Z;obtain⟨_,_,O,_,ac⟩:=Jv a3;obtain⟨_,_,e2,_,aa⟩:=Jv a1;have J:=Rd.own a3;have G:=Rd.own a1;rw[<-ab]at J ⊢;rw[<-a9]at G ⊢;refine ρ ?_;refine cl (Gx J (Nat.le_refl _) om) ?_;rintro t w3 ⟨rfl,rfl⟩;have kq:=Kl J om;rw[a2]at kq ⊢;refine ρ ?_;refine cl (Gx G (Nat.le_refl _) om) ?_;rintro t w3 ⟨rfl,rfl⟩;have kr:=Kl G om;rw[Z]at kr ⊢;have hs:=i.size;refine ρ ?_;refine Jwn ⟨⟨_,_,rfl,⟨kq,λ_ j m c e hk=>?_⟩,⟨kr,λ_ j m c e hk=>?_⟩⟩,i.trans a8⟩
 .injection e with O e2 e3
  subst O;have:=(ac j.block rfl).1;have a5:j.block<D.heap.size:=hk;omega
 injection e with O e2 e3
 subst O;have:=(aa j.block rfl).1;have a5:j.block<D.heap.size:=hk;omega
theorem divCL(hK:K<=29000): Gl K:=λi j y B h0=>by
 have u:=Yt y om;rename_i a b w;rcases Nat.lt_or_ge b 4294967296 with h|h
 .exact Jjr i j u h0 h
 exact Qph i j u h
open Go.RowKit Pl Go.Wk Bl Nw
variable {K n p sc:Nat}{P1 Q1 Q2 SA:Option Addr}{v vW:Value}{w:World}
theorem Qgj(hv:NatV w v p)(hn:1<=n)(hn64:n<=64)(hK:K<=29000)(hK6:7<=K)(hL:Jw p+n<=K)(hdiv:Gl K): Ret Tryz.prog 58 [v,.int .i64 (n:Int)] w λu w'=>(∃ r,NatV w' u r/\Kd p n r)/\Ext w w':=by
 have D:p<2^K:=nM Up (Nat.pow_le_pow_right (by decide) om);have y:=Yt D om;have O:=Up (x:=p);refine Jz Tryz.func58 Tryz.ntmps58 rfl kr rfl ?_;refine ρ ?_;refine cl (Um hv y) ?_;rintro _ w1 ⟨rfl,rfl⟩;refine ρ ?_;by_cases h1:Jw p<=1
 .have a1:p<=1:=by
   have:2^Jw p<=2^1:=Nat.pow_le_pow_right (by decide) h1;omega
  refine kt 14 ?_ ?_
  .exact decide_eq_true om
  refine ρ ?_;refine cl (Qjj hv y) ?_;rintro u w2 ⟨B,i⟩;refine ρ ?_;refine Jq ⟨⟨p,B,?_⟩,i⟩;rcases(show p=0∨p=1 by omega) with rfl|rfl
  .exact⟨by rw[Nat.zero_pow om];exact Nat.le_refl _,by rw[Nat.zero_add,Nat.one_pow];decide⟩
  exact⟨by rw[Nat.one_pow];exact Nat.le_refl _,Nat.lt_of_lt_of_le (show 1<(1+1)^1 by decide) (Nat.pow_le_pow_right (by decide) hn)⟩
 refine kf 14 ?_ ?_
 .exact dF om
 refine ρ ?_;refine ci (λj=>?_) (λj=>?_)
 .have J:n=1:=by have:=eq_of_beq j;omega
  subst J;refine ρ ?_;refine cl (Qjj hv y) ?_;rintro u w2 ⟨B,i⟩;refine ρ ?_;exact Jq ⟨⟨p,B,by rw[Nat.pow_one];exact Nat.le_refl _,by rw[Nat.pow_one];omega⟩,i⟩
 have a2:n≠1:=λe=>by rw[e]at j;revert j;decide
 have Z:2<=p:=by
  rcases(show p=0∨p=1∨2<=p by omega) with rfl|rfl|h
  .exact absurd (show Jw 0<=1 by decide) h1
  .exact absurd (show Jw 1<=1 by decide) h1
  exact h
 clear j;refine ρ ?_;refine ci (λj=>?_) (λj=>?_)
 .have G:Jw p<=n:=by have:=oT j;omega
  refine ρ ?_;refine cl (Zd 1 (by decide) _) ?_;rintro o w2 ⟨ho,i⟩;refine ρ ?_;exact Jq ⟨⟨1,ho.1,by rw[Nat.one_pow];omega,Nat.lt_of_lt_of_le O (Nat.pow_le_pow_right (by decide) G)⟩,i⟩
 clear j;refine ρ ?_;refine ci (λj=>?_) (λj=>?_)
 .refine ρ ?_;refine cl (Qns hv om hn64 om hK hK6 D ?_ hdiv) ?_
  .rw[<-Nat.pow_mul];refine Nat.pow_lt_pow_right (by decide) ?_;have h3:=Nat.div_mul_le_self (Jw p+n-1) n;have h4:(Jw p+n-1) / n*(n-1)<=(Jw p+n-1) / n*n:=Nat.mul_le_mul_left _ om;omega
  rintro u w2 ⟨⟨r,B,U⟩,i⟩;refine ρ ?_;exact Jq ⟨⟨r,B,U⟩,i⟩
 exfalso
 have:=oF j;omega
theorem Xkh{b:Bool}{P2 P3 m1 c1 m2 c2 K2:Nat}{ws:List PR}{sizes:List Nat}(hW:GX 3 RtC Nn w vW ws)(hS:Rd w 1 SA sizes.length (Jb (nz sizes)))(hn:∀ q∈ws,0<=q.sign/\q.num<18446744073709551616)(hd:∀ i,i<=ws.length->dnK ws i<4294967296)(hq:∀ q∈ws,q.num<18446744073709551616/\q.den<4294967296/\0<q.norm.den/\q.norm.den<4294967296)(hd1:1<=dnm ws)(hd64:dnm ws<=64)(ho:PrOk ws sizes (dnm ws) K)(hK:K2<=29000)(hK6:7<=K2)(hL:Jw (Vo ws sizes (dnm ws))+dnm ws<=K2)(hdiv:Gl K2):
  Ret Tryz.prog 24 [.agg #[vW,.slice P1 P2 P3,.bool b,.slice Q1 m1 c1,.slice Q2 m2 c2],.slice SA sizes.length sc] w λu w'=>(∃ v r,u=.tuple #[v,.int .i64 0]/\NatV w' v r/\Kd (Vo ws sizes (dnm ws)) (dnm ws) r)/\Ext w w':=by
 obtain⟨W1,W2,_,rfl,_,a4,a6,_,a7⟩:=id hW.el;refine Jz Tryz.func24 Tryz.ntmps24 rfl kr rfl ?_;refine ρ ?_;refine bx (cs:=[.slice W1 ws.length W2,.slice P1 P2 P3,.bool b,.slice Q1 m1 c1,.slice Q2 m2 c2]) ?_;intro w1 b1 G a5 J;refine ρ ?_;refine lds (cs:=[.slice W1 ws.length W2,.slice P1 P2 P3,.bool b,.slice Q1 m1 c1,.slice Q2 m2 c2]) (λj u hu=>J.at hu) ?_;refine ρ ?_;refine cl (Xzt (hW.ext RtC.sta (by decide) G) (hS.ext G) ho.len hn) ?_;rintro _ w2 ⟨rfl,D⟩;refine ρ ?_;refine ld ((J.ext D).at (i:=0) rfl) ?_;have B:=G.trans D;refine ρ ?_;refine cl (Xqq (hW.ext RtC.sta (by decide) B) hd hq) ?_;rintro dv w3 ⟨U,O⟩;refine ρ ?_;refine cl (Qzq U.1 om) ?_;rintro _ w4 ⟨rfl,rfl⟩;refine ρ ?_;refine ld (((J.ext D).ext O).at (i:=0) rfl) ?_;have y:=B.trans O;refine ρ ?_;refine cl (Qhk (hW.ext RtC.sta (by decide) y) U (hS.ext y) ho) ?_;rintro _ w5 ⟨⟨pv,rfl,a2⟩,a1⟩
 refine ρ ?_;refine cl (Qgj a2.1 hd1 hd64 hK hK6 hL hdiv) ?_;rintro rv w6 ⟨⟨r,hr,a3⟩,Z⟩;refine ρ ?_;exact Xb ⟨⟨_,r,rfl,hr,a3⟩,y.trans (a1.trans Z)⟩
open Go.RowKit Pl Go.Wk Bl Nw
abbrev hlf: PR:=⟨false,1,2⟩
theorem Qcf: cvr 216 3 [3,6,5] 7=some ⟨[hlf,hlf,hlf],[hlf,hlf,hlf],⟨false,3,2⟩⟩:=by decide +kernel
theorem Jkb: dnm [hlf,hlf,hlf]=2:=by decide +kernel
theorem Jpb: Vo [hlf,hlf,hlf] [4,4,4] 2=64:=by decide +kernel
theorem Jpc: Uu 3 [3,6,5] 7:=by
 intro v i _;rcases(show v=0∨v=1∨v=2 by omega) with rfl|rfl|rfl
 .exact⟨0,by decide,by decide⟩
 .exact⟨0,by decide,by decide⟩
 exact⟨1,by decide,by decide⟩
theorem Qtb: EOk hlf 2:=⟨by decide,by decide,by decide,by decide +kernel,by decide +kernel,by decide +kernel,by decide +kernel,by decide +kernel,by decide +kernel⟩
theorem Qcd: PrOk [hlf,hlf,hlf] [4,4,4] 2 32:=by
 refine⟨by decide,rfl,λq u=>?_,λs j=>?_,λi hi=>?_,λi y B=>?_⟩
 .simp only[List.mem_cons,List.not_mem_nil,or_false,or_self]at u;rw[u];exact Qtb
 .simp only[List.mem_cons,List.not_mem_nil,or_false,or_self]at j;rw[j];decide
 .have hi:i<=3:=hi;rcases(show i=0∨i=1∨i=2∨i=3 by omega) with rfl|rfl|rfl|rfl<;>decide +kernel
 have y:i<3:=y;have e:4^Vr hlf 2<2^32:=by decide +kernel
 rcases(show i=0∨i=1∨i=2 by omega) with rfl|rfl|rfl<;>exact e
end Go.Proofs.YtebiphhfkdbpfaaGreatDoor
namespace Go.Proofs.YtebiphhfkdbpfaaGreatDoor
open Bl
variable {l:List PR}{a n set:Nat}{c f g:Nat->Rat}
def bv(b:Bool): Rat:=if b then 1 else 0
theorem bv_nn(b:Bool): 0<=bv b:=by cases b<;>decide
def wv(ws:List PR)(k:Nat): Rat:=(ws.getD k pr0).val
theorem Qsm(b:Bool): (PR.int b.toNat).val=bv b:=by cases b<;>decide +kernel
theorem Jvv(h:∀ j,j<n->f j<=g j): Jk n f<=Jk n g:=by
 induction n with
 | zero=>simp[Jk]
 | succ n ih=>
  have y:=ih λj i=>h j om;have u:=h n om;rw[Jk,Jk];grind
theorem Jmq(ha:a<l.length)(x:PR)(k:Nat): wv (l.set a x) k=if k=a then x.val else wv l k:=by
 unfold wv;by_cases e:k=a
 .subst e;rw[if_pos rfl];simp[List.getD,ha]
 rw[if_neg e];simp[List.getD,Ne.symm e]
theorem Qdb(ha:a<l.length)(x:PR)(hn:a<n): Jk n (λk=>c k*wv (l.set a x) k)=Jk n (λk=>c k*wv l k)+c a*(x.val-wv l a):=by
 have e:Jk n (λk=>c k*wv (l.set a x) k)=Jk n (λk=>c k*wv l k+if k=a then c a*(x.val-wv l a) else 0):=Zb λk u=>by
  rw[Jmq ha];split
  .rename_i e;subst e;grind
  grind
 rw[e,Jvw,Gk hn λj _ i=>if_neg i,if_pos rfl]
theorem Jsm{n:Nat}{is:List Nat}{xs:List PR}{c:Nat->Rat}(hnd:is.Nodup)(hlt:∀ i∈is,i<n)(hl:is.length=xs.length): ∀ i,i<=is.length->Jk n (λk=>c k*wv (Ze (List.replicate n pr0) is xs i) k)=Jk i (λj=>c (is.getD j 0)*(xs.getD j pr0).val)/\∀ k,k ∉ is.take i->wv (Ze (List.replicate n pr0) is xs i) k=0
 | 0,_=>by
  have h0:∀ k,wv (List.replicate n pr0) k=0:=λk=>by
   unfold wv;simp only[List.getD,List.getElem?_replicate];split<;>exact Ko
  refine⟨?_,λk _=>by rw[Jkl];exact h0 k⟩;rw[Jkl,Ks λk _=>by rw[h0];grind];rfl
 | i+1,hi=>by
  obtain⟨h1,h2⟩:=Jsm (c:=c) hnd hlt hl i om;have hi':i<is.length:=om
  have hn:is[i]<n:=hlt _ (List.getElem_mem _);have hll:is[i]<(Ze (List.replicate n pr0) is xs i).length:=by rw[Jqz,List.length_replicate];exact hn
  have hz:wv (Ze (List.replicate n pr0) is xs i) is[i]=0:=h2 _ (λhm=>by
   obtain⟨j,hj,e⟩:=List.getElem_of_mem hm;rw[List.getElem_take]at e;have hj':j<i:=by simp at hj;omega
   have:=(List.getElem_inj hnd).1 e;omega)
  rw[Jyl hi' om];refine⟨?_,λk hk=>?_⟩
  .rw[Qdb hll _ hn,h1,hz,Jk,Qv 0 hi',Qv pr0 (show i<xs.length by omega)];grind
  rw[List.take_add_one,List.getElem?_eq_getElem hi']at hk;simp only[Option.toList_some,List.mem_append,List.mem_singleton,not_or]at hk;rw[Jmq hll,if_neg hk.2];exact h2 k hk.1
theorem Jsn{l:List PR}{is:List Nat}{xs:List PR}(hl:is.length=xs.length){q:PR}: ∀ {i},i<=is.length->q∈Ze l is xs i->q∈l∨q∈xs
 | 0,_,h=>by rw[Jkl]at h;exact .inl h
 | i+1,hi,h=>by
  rw[Jyl om om]at h;rcases List.mem_or_eq_of_mem_set h with h|h
  .exact Jsn hl om h
  exact .inr (h ▸ List.getElem_mem _)
theorem Jhm(E:List Nat)(set:Nat): ∀ i,(Jl E set i).Nodup
 | 0=>List.nodup_nil
 | i+1=>by
  by_cases h1:(E.getD i 0) &&& set=0∨Yb E set i ((E.getD i 0) &&& set)=true
  .rw[Jzb h1];exact Jhm E set i
  rw[Jwj (λe=>h1 (.inl e)) (by cases hs:Yb E set i ((E.getD i 0) &&& set);rfl;exact absurd (.inr hs) h1)];refine List.nodup_append.2 ⟨Jhm E set i,by simp,λa ha b hb e=>?_⟩;rw[List.mem_singleton.1 hb]at e;have:=Jwk ha;omega
structure CvOk(n:Nat)(es:List Nat)(set:Nat)(ws:List PR): Prop where
 len:ws.length=es.length
 nrm:∀ q∈ws,q.Nrm
 nn:∀ q∈ws,0<=q.val
 den:∃ D,0<D/\D<=60/\∀ q∈ws,q.den ∣ D
 cov:∀ v,v<n->set.testBit v=true->1<=Jk es.length λk=>bv ((es.getD k 0).testBit v)*wv ws k
 opt:∀ u:Nat->Rat,(∀ k,0<=u k)->(∀ v,v<n->set.testBit v=true->1<=Jk es.length λk=>bv ((es.getD k 0).testBit v)*u k)->Jk es.length (wv ws)<=Jk es.length u
def Jxz(n:Nat)(es:List Nat)(set:Nat): Nat:=((Jy n set).length+(Jl es set es.length).length)^(Jl es set es.length).length
theorem fc2_5: ∀ m,m<=5->fc2 m<=60:=by decide
theorem Xqt{es:List Nat}(h5:es.length<=5)(h0:set≠0)(hlt:set<2^n)(hc:Uu n es set): ∃ pc,cvr (Jxz n es set) n es set=some pc/\CvOk n es set pc.ws:=by
 have ab:=Jfw n es set;have aa:=Jyp hc;have a8:(Vf n es set).length=(Jl es set es.length).length:=Jkp n es set;have af:(Jl es set es.length).length<=5:=nL (Jwl es set es.length) h5;obtain⟨hb,B,S,a7,J,hg⟩:=Jfz ab aa (fuel:=Jxz n es set) (by rw[a8];exact Nat.le_refl _);obtain⟨U,a3⟩:=PSt.dual J;rw[a8]at a7 J hg U a3;have a1:∀ v,v<n->set.testBit v=true->∃ j,∃ h:j<(Jy n set).length,(Jy n set)[j]=v:=λv hv hb=>by
  have:v∈Jy n set:=List.mem_filter.2 ⟨List.mem_range.2 hv,hb⟩;obtain⟨j,y,e⟩:=List.getElem_of_mem this;exact⟨j,y,e⟩
 have O:∀ j (h:j<(Jy n set).length),set.testBit (Jy n set)[j]=true:=λj h=>(List.mem_filter.1 (List.getElem_mem h)).2;have ao:0<(Jy n set).length:=by
  obtain⟨v,hv⟩:=Nat.exists_testBit_of_ne_zero h0;have ac:v<n:=by
   rcases Nat.lt_or_ge v n with h|h
   .exact h
   rw[Nat.testBit_lt_two_pow (nM hlt (Nat.pow_le_pow_right (by decide) h))]at hv;cases hv
  obtain⟨j,y,_⟩:=a1 v ac hv;omega
 generalize hF:Jl es set es.length=F at *
 generalize hV:Jy n set=V at *
 have Z:∀ i j (hi:i<F.length) (y:j<V.length),Zj (Vf n es set) i j=bv ((es.getD F[i] 0).testBit V[j]):=λi j hi y=>by
  subst hF;subst hV;unfold Zj;rw[Jfx hi y,Nat.testBit_and,O j y,Bool.and_true,Qsm]
 obtain⟨a4,hz⟩:=Qmg J.wf J.e1 om hg;obtain⟨a2,ad⟩:=Qmf J.wf J.feas J.e2 (show 0<V.length+F.length by omega);have ak:F.Nodup:=by subst hF;exact Jhm _ _ _
 have am:∀ i∈F,i<es.length:=λi hi=>by subst hF;exact Jwk hi
 have a6:∀ c:Nat->Rat,Jk es.length (λk=>c k*wv (Zo (List.replicate es.length pr0) F B.dual) k)=Jk F.length λi=>c (F.getD i 0)*S.g (V.length+i):=λc=>by
  rw[<-Jjl U.symm,(Jsm ak am U.symm F.length (Nat.le_refl _)).1];exact Zb λi hi=>by rw[a3 i hi]
 have G:∀ q∈Zo (List.replicate es.length pr0) F B.dual,q=pr0∨∃ i,i<F.length/\q=B.dual.getD i pr0:=λq hq=>by
  rw[<-Jjl U.symm]at hq;rcases Jsn U.symm (Nat.le_refl _) hq with h|h
  .exact .inl (List.eq_of_mem_replicate h)
  obtain⟨i,hi,e⟩:=List.getElem_of_mem h;exact .inr ⟨i,om,by rw[Qv pr0 hi,e]⟩
 have a9:∀ i,i<F.length->B.dual.getD i pr0=B.goal.getD (V.length+i) pr0:=λi hi=>by
  have h1:=J.em;have h2:=J.en;have hl:=J.agr.ok.goal.1;have er:B.right=B.n+B.m+1:=rfl;rw[Qv pr0 om,Qv pr0 (l:=B.goal) om];simp[PT.dual,h2]
 have ae:cvr (Jxz n es set) n es set=some ⟨Zo (List.replicate es.length pr0) F B.dual,Zo (List.replicate n pr0) V B.point,B.goal.getD B.right pr0⟩:=by
  unfold cvr;rw[hF,hV,a7];rfl
 refine⟨_,ae,?_,λq hq=>?_,λq hq=>?_,?_,λv hv hb=>?_,λu hu aj=>?_⟩
 .show(Zo (List.replicate es.length pr0) F B.dual).length=_;rw[<-Jjl U.symm,Jqz,List.length_replicate]
 .rcases G q hq with rfl|⟨i,hi,rfl⟩
  .exact Jxf
  rw[a9 i hi];exact J.nrm.goal _ (by have:=J.em;have:=J.en;simp only[PT.right];omega)
 .rcases G q hq with rfl|⟨i,hi,rfl⟩
  .rw[Ko];exact Rat.le_refl
  rw[a3 i hi];exact hg _ om
 .obtain⟨D,an,hD,ah⟩:=PSt.dens J λi j hi y=>by
   rw[Z i j hi y];cases (es.getD F[i] 0).testBit V[j]
   .exact .inl rfl
   exact .inr rfl
  refine⟨D,an,Nat.le_trans hD (fc2_5 _ af),λq hq=>?_⟩;rcases G q hq with rfl|⟨i,hi,rfl⟩
  .exact Nat.one_dvd _
  rw[a9 i hi];exact ah _ om
 .obtain⟨j,y,e⟩:=a1 v hv hb;have h:=a4 j y;rw[a6 λk=>bv ((es.getD k 0).testBit v)];refine Rat.le_trans h (Jvv λi hi=>?_);rw[Z i j hi y,e,Qv 0 hi];grind
 have hx:∀ j,0<=bpt F.length S j:=λj=>Qvf J.feas j;have hk:∀ k,k<es.length->Jk V.length (λj=>bv ((es.getD k 0).testBit (V.getD j 0))*bpt F.length S j)<=1:=λk hk=>by
  by_cases hz0:(es.getD k 0) &&& set=0
  .rw[Ks λj y=>by
    have hb:((es.getD k 0) &&& set).testBit V[j]=false:=by rw[hz0];simp
    rw[Nat.testBit_and,O j y,Bool.and_true]at hb;rw[Qv 0 y,hb];show 0*_=_;grind]
   decide
  obtain⟨x,a5,e⟩:=Jbw es set hk hz0;rw[hF]at a5;obtain⟨i,hi,rfl⟩:=List.getElem_of_mem a5;refine Rat.le_trans (Jvv λj y=>?_) (a2 i hi);have hb:((es.getD F[i] 0) &&& set).testBit V[j]=((es.getD k 0) &&& set).testBit V[j]:=by rw[e]
  rw[Nat.testBit_and,Nat.testBit_and,O j y,Bool.and_true,Bool.and_true]at hb;rw[Qv 0 y,Z i j hi y,hb];exact Rat.le_refl
 have e1:Jk es.length (wv (Zo (List.replicate es.length pr0) F B.dual))=Jk V.length (bpt F.length S):=by
  have:=a6 λ_=>1;rw[Zb (g:=wv (Zo (List.replicate es.length pr0) F B.dual)) λk _=>by grind]at this;rw[this,ad,hz];exact Zb λi _=>by grind
 show Jk es.length (wv (Zo (List.replicate es.length pr0) F B.dual))<=_;rw[e1];have e2:Jk V.length (bpt F.length S)<=Jk V.length λj=>Jk es.length λk=>u k*(bv ((es.getD k 0).testBit (V.getD j 0))*bpt F.length S j):=Jvv λj y=>by
  have ai:=aj V[j] (by subst hV;exact Jgq (List.getElem_mem y)) (O j y);have h3:Jk es.length (λk=>u k*(bv ((es.getD k 0).testBit (V.getD j 0))*bpt F.length S j))=bpt F.length S j*Jk es.length λk=>bv ((es.getD k 0).testBit V[j])*u k:=by
   rw[<-Yh];exact Zb λk _=>by rw[Qv 0 y];grind
  rw[h3];have:=Rat.mul_le_mul_of_nonneg_left ai (hx j);grind
 refine Rat.le_trans e2 ?_;rw[Jpm];refine Jvv λk ag=>?_;rw[Yh];have:=Rat.mul_le_mul_of_nonneg_left (hk k ag) (hu k);grind
open Bl Nw
variable {ws:List PR}{a d i k n p v:Nat}{e f g s:Nat->Nat}{q:PR}
def sN: Nat->(Nat->Nat)->Nat
 | 0,_=>0
 | n+1,f=>sN n f+f n
def prN: Nat->(Nat->Nat)->Nat
 | 0,_=>1
 | n+1,f=>prN n f*f n
theorem Qht(h:∀ j,j<n->f j<=g j): prN n f<=prN n g:=by
 induction n with
 | zero=>exact Nat.le_refl _
 | succ n ih=>rw[prN,prN];exact Nat.mul_le_mul (ih λj i=>h j om) (h n om)
theorem sN_ge(h:k<n): f k<=sN n f:=by
 induction n with
 | zero=>omega
 | succ n ih=>
  rw[sN];by_cases e:k=n
  .subst e;omega
  have:=ih om;omega
theorem Qfk(h:i<=n): sN i f<=sN n f:=by
 induction n with
 | zero=>rw[show i=0 by omega];exact Nat.le_refl _
 | succ n ih=>
  by_cases e:i=n+1
  .rw[e];exact Nat.le_refl _
  have:=ih om;rw[sN];omega
theorem Jfc(n:Nat)(f:Nat->Nat): ((sN n f:Nat):Rat)=Jk n λk=>(f k:Rat):=by
 induction n with
 | zero=>rfl
 | succ n ih=>rw[sN,Jk,Rat.natCast_add,ih]
theorem Jtb(h:∀ k,k<n->0<e k->s k<=a): prN n (λk=>s k^e k)<=a^sN n e:=by
 induction n with
 | zero=>exact Nat.le_refl _
 | succ n ih=>
  rw[prN,sN,Nat.pow_add];refine Nat.mul_le_mul (ih λk i=>h k om) ?_;rcases Nat.eq_zero_or_pos (e n) with h0|h0
  .rw[h0,Nat.pow_zero,Nat.pow_zero];exact Nat.le_refl _
  exact Nat.pow_le_pow_left (h n om h0) _
theorem Qrv(d e:Nat): d / Nat.gcd d e*e=Nat.lcm d e:=by
 unfold Nat.lcm;rw[Nat.mul_comm d e,Nat.mul_div_assoc e (Nat.gcd_dvd_left d e),Nat.mul_comm]
theorem Qkb: ∀(ws:List PR) (d:Nat),0<d->(∀ q∈ws,0<q.norm.den)->d ∣ ws.foldl (λd w=>d / Nat.gcd d w.norm.den*w.norm.den) d/\(∀ q∈ws,q.norm.den ∣ ws.foldl (λd w=>d / Nat.gcd d w.norm.den*w.norm.den) d)/\0<ws.foldl (λd w=>d / Nat.gcd d w.norm.den*w.norm.den) d/\∀ D,d ∣ D->(∀ q∈ws,q.norm.den ∣ D)->ws.foldl (λd w=>d / Nat.gcd d w.norm.den*w.norm.den) d ∣ D
 | [],d,h0,_=>⟨Nat.dvd_refl _,by simp,h0,λD h _=>h⟩
 | w::ws,d,h0,h=>by
  have hw:=h w (by simp);have hl:0<Nat.lcm d w.norm.den:=Nat.lcm_pos h0 hw;rw[List.foldl_cons,Qrv];obtain⟨h1,h2,h3,h4⟩:=Qkb ws _ hl λq hq=>h q (by simp[hq]);refine⟨Nat.dvd_trans (Nat.dvd_lcm_left _ _) h1,λq hq=>?_,h3,λD hd hD=>h4 D (Nat.lcm_dvd hd (hD w (by simp))) λq hq=>hD q (by simp[hq])⟩;rcases List.mem_cons.1 hq with rfl|hq
  .exact Nat.dvd_trans (Nat.dvd_lcm_right _ _) h1
  exact h2 q hq
theorem Jcf(h:∀ q∈ws,q.Nrm): (∀ q∈ws,q.den ∣ dnm ws)/\0<dnm ws/\∀ D,(∀ q∈ws,q.den ∣ D)->dnm ws ∣ D:=by
 have e:∀ q∈ws,q.norm.den=q.den:=λq i=>by rw[(h q i).norm]
 obtain⟨_,B,y,u⟩:=Qkb ws 1 (by decide) λq i=>by rw[e q i];exact Nat.pos_of_ne_zero (h q i).den
 exact⟨λq i=>by rw[<-e q i];exact B q i,y,λD j=>u D (Nat.one_dvd _) λq i=>by rw[e q i];exact j q i⟩
theorem Jxp(d:Nat): PR.norm ⟨false,d,0⟩=⟨false,d,1⟩:=by simp[PR.norm]
theorem Jgg(d:Nat): PR.norm ⟨false,d,1⟩=⟨false,d,1⟩:=by
 unfold PR.norm;split<;>simp
theorem Qjm(hq:q.Nrm)(hn:q.neg=false)(hd:q.den ∣ d): PR.mul q ⟨false,d,1⟩=⟨false,q.num*(d / q.den),1⟩:=by
 unfold PR.mul;rw[hq.norm,Jgg];unfold PR.mulN;have e:(q.neg != false)=false:=by rw[hn];rfl
 simp only[e,Nat.mul_one];have i:=Nat.pos_of_ne_zero hq.den;unfold PR.norm;by_cases h0:q.num*d=0
 .rw[if_pos (.inl h0)];have:q.num*(d / q.den)=0:=by
   rcases Nat.mul_eq_zero.1 h0 with h|h
   .rw[h,Nat.zero_mul]
   rw[h,Nat.zero_div,Nat.mul_zero]
  simp[h0,this]
 rw[if_neg (by simp only[not_or];exact⟨h0,om⟩)];have j:Nat.gcd (q.num*d) q.den=q.den:=Nat.gcd_eq_right (Nat.dvd_mul_left_of_dvd hd q.num);simp only[j];rw[Nat.div_self i,Nat.mul_div_assoc _ hd]
theorem Jhr(hq:q.Nrm)(hn:q.neg=false)(hd:q.den ∣ d): Vr q d=q.num*(d / q.den):=by
 unfold Vr;rw[Jxp,Qjm hq hn hd,Jgg]
theorem Jnr(hq:q.Nrm)(h:0<=q.val): q.neg=false:=by
 cases hn:q.neg with
 | false=>rfl
 | true=>
  exfalso
  have j:=(PR.sign_val hq.den).1;have i:¬ q.sign<0:=λe=>by have:=j.1 e;grind
  unfold PR.sign at i;by_cases h0:q.num=0
  .have:=hq.sgn h0;rw[hn]at this;cases this
  rw[if_neg h0,hn]at i;simp at i
theorem Xjf(hq:q.Nrm)(h:0<=q.val)(hd:q.den ∣ d): (Vr q d:Rat)=(d:Rat)*q.val:=by
 have hn:=Jnr hq h;rw[Jhr hq hn hd];obtain⟨k,rfl⟩:=hd;have i:=Vc hq.den;rw[Nat.mul_div_cancel_left _ (Nat.pos_of_ne_zero hq.den),Rat.natCast_mul,Rat.natCast_mul];unfold PR.val;rw[hn];simp only[Bool.false_eq_true,if_false];grind
def exK(ws:List PR)(k:Nat): Nat:=Vr (ws.getD k pr0) (dnm ws)
section
variable {n:Nat} {es:List Nat} {set:Nat} {ws:List PR}
theorem CvOk.mem(h:CvOk n es set ws)(hk:k<es.length): ws.getD k pr0∈ws:=by
 rw[Qv pr0 (by rw[h.len];exact hk)];exact List.getElem_mem _
theorem CvOk.d60(h:CvOk n es set ws): dnm ws ∣ dnm ws/\0<dnm ws/\dnm ws<=60:=by
 obtain⟨D,h0,j,i⟩:=h.den;obtain⟨_,y,u⟩:=Jcf h.nrm;exact⟨Nat.dvd_refl _,y,Nat.le_trans (Nat.le_of_dvd h0 (u D i)) j⟩
theorem CvOk.ex(h:CvOk n es set ws)(hk:k<es.length): (exK ws k:Rat)=(dnm ws:Rat)*wv ws k :=
 Xjf (h.nrm _ (h.mem hk)) (h.nn _ (h.mem hk)) ((Jcf h.nrm).1 _ (h.mem hk))
theorem CvOk.covN(h:CvOk n es set ws)(hv:v<n)(hb:set.testBit v=true): dnm ws<=sN es.length λk=>if(es.getD k 0).testBit v then exK ws k else 0:=by
 have i:=Rat.mul_le_mul_of_nonneg_left (h.cov v hv hb) (Rat.natCast_nonneg (a:=dnm ws));rw[<-Yh]at i;rw[<-Rat.natCast_le_natCast,Jfc];rw[Zb (g:=λk=>(((if(es.getD k 0).testBit v then exK ws k else 0:Nat):Nat):Rat)) λk j=>by
  split
  .rename_i e;rw[e,h.ex j];unfold bv;rw[if_pos rfl];grind
  rename_i e;rw[Bool.not_eq_true]at e;rw[e];unfold bv;show _=(0:Rat);grind]at i
 grind
theorem CvOk.totN(h:CvOk n es set ws)(u:Nat->Nat)(hu:∀ v,v<n->set.testBit v=true->∃ k,k<es.length/\(es.getD k 0).testBit v=true/\1<=u k): sN es.length (exK ws)<=dnm ws*sN es.length u:=by
 have i:=h.opt (λk=>(u k:Rat)) (λk=>Rat.natCast_nonneg) λv G J=>by
  obtain⟨k,B,y,i⟩:=hu v G J;refine Rat.le_trans ?_ (Jpp (λj _=>Qjl (bv_nn _) Rat.natCast_nonneg) B);rw[y];have:((1:Nat):Rat)<=(u k:Rat):=Rat.natCast_le_natCast.2 i;have O:((1:Nat):Rat)=1:=rfl;unfold bv;rw[if_pos rfl];grind
 rw[<-Jfc]at i;have D:=Rat.mul_le_mul_of_nonneg_left i (Rat.natCast_nonneg (a:=dnm ws));rw[<-Yh,<-Rat.natCast_mul,Zb (g:=λk=>(exK ws k:Rat)) λk B=>(h.ex B).symm,<-Jfc]at D;exact Rat.natCast_le_natCast.1 D
theorem CvOk.tot5(h:CvOk n es set ws)(hc:Uu n es set): sN es.length (exK ws)<=dnm ws*es.length:=by
 have j:=h.totN (λ_=>1) λv u i=>by
  obtain⟨k,y,i⟩:=hc v u i;exact⟨k,y,i,Nat.le_refl _⟩
 have e:∀ m,sN m (λ_=>1)=m:=λm=>by induction m with
  | zero=>rfl
  | succ m ih=>rw[sN,ih]
 rw[e]at j;exact j
end
theorem Jfs{ws:List PR}{sizes:List Nat}{d:Nat}(hl:sizes.length=ws.length): ∀ i,i<=ws.length->prK ws sizes d i=prN i λk=>sizes.getD k 0^Vr (ws.getD k pr0) d
 | 0,_=>by unfold prK Vo;simp[prN]
 | i+1,h=>by
  rw[Jtc om om,Jfs hl i om,prN,Qv 0 om,Qv pr0 om]
theorem Jsq{sizes:List Nat}(hl:sizes.length=ws.length): Vo ws sizes d=prN ws.length λk=>sizes.getD k 0^Vr (ws.getD k pr0) d:=by
 rw[<-Jfs hl _ (Nat.le_refl _)];unfold prK;rw[List.take_length,<-hl,List.take_length]
def rtN(p n:Nat): Nat->Nat
 | 0=>0
 | k+1=>if(k+1)^n<=p then k+1 else rtN p n k
theorem Jrv{p n:Nat}(hn:0<n): ∀ k,p<(k+1)^n->Kd p n (rtN p n k)
 | 0,h=>⟨by rw[rtN,Nat.zero_pow hn];omega,h⟩
 | k+1,h=>by
  rw[rtN];split
  .exact⟨by assumption,h⟩
  exact Jrv hn k om
def Jkj(p n:Nat): Nat:=rtN p n p
theorem Qgk(hn:0<n): Kd p n (Jkj p n):=Jrv hn p (nM (show p<p+1 by omega) (Nat.le_self_pow om _))
end Go.Proofs.YtebiphhfkdbpfaaGreatDoor
