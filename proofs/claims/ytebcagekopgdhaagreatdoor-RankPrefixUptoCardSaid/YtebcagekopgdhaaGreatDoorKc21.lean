/- Part 1. -/
import Derived.Test.YtebcagekopgdhaaGreatDoorKc20
set_option linter.unusedVariables false
set_option maxRecDepth 100000
set_option maxHeartbeats 40000000
namespace Go.Proofs.YtebcagekopgdhaaGreatDoor
open Go.RowKit Pl Go.Wk
variable {i j m:Nat}
section
variable {ds:List Bool} {L:List Row} {p:Row}
theorem cmp_lt_of_le{a b c:Row}(h1:Jw a b ds<=0)(h2:Jw b c ds<0): Jw a c ds<0:=by
 have k:=Jbl _ _ _ ds h1 (Int.le_of_lt h2);rcases Int.lt_or_eq_of_le k with h|h
 .exact h
 .have e:=Jzd _ _ ds h;subst e;have:=Jwk a b ds;omega
theorem in_pre(h:Lt ds L)(hj:j<L.length)(h1:Qy ds L p<=j)(h2:j<Qy ds L p+(wiL L p).length): (L.getD j []).take p.length=p:=by
 have le:∀ i k,i<=k->k<L.length->Jw ((L.getD i []).take p.length) ((L.getD k []).take p.length) ds<=0:=λi k O J=>by
  rcases Nat.lt_or_ge i k with hlt|hge
  .exact cmpR_takeD _ _ ds _ (Int.le_of_lt (lt_getD h hlt J))
  .rw [show i=k by omega,Va];exact Int.le_refl _
 refine Jzd _ _ ds ?_;have e1:¬ Jw ((L.getD j []).take p.length) p ds<0:=λG=>by
  have u:∀ x∈L.take (j+1),Jw (x.take p.length) p ds<0:=λx o=>by
   obtain ⟨i,hi,rfl⟩:=List.getElem_of_mem o;rw [List.length_take]at hi;rw [List.getElem_take,<-Jr [] _ (show i<L.length by omega)];exact cmp_lt_of_le (le i j om hj) G
  have e:Qy ds L p=Qy ds (L.take (j+1)) p+Qy ds (L.drop (j+1)) p:=by rw [<-Qrg,List.take_append_drop]
  have e':Qy ds (L.take (j+1)) p=j+1:=by
   unfold Qy;rw [List.filter_eq_self.2 λx o=>by simpa using u x o,List.length_take];omega
  omega
 have e2:¬ 0<Jw ((L.getD j []).take p.length) p ds:=λG=>by
  have Z:=hi_eq ds L p;have hn:(L.drop j).filter (λx=>decide (Jw (x.take p.length) p ds<=0))=[]:=List.filter_eq_nil_iff.2 λx o=>by
   obtain ⟨i,hi,rfl⟩:=List.getElem_of_mem o;rw [List.length_drop]at hi;rw [List.getElem_drop,<-Jr [] _ (show j+i<L.length by omega)];intro C;have C:=oT C;have k:=Jbl _ _ _ ds (le j (j+i) om om) C;omega
  have U:(L.filter λx=>decide (Jw (x.take p.length) p ds<=0)).length<=j:=by
   rw [<-List.take_append_drop j L,List.filter_append,hn,List.append_nil];exact nL (List.length_filter_le _ _) (by rw [List.length_take];omega)
  omega
 omega
theorem pre_in(h:Lt ds L)(hj:j<L.length)(he:(L.getD j []).take p.length=p): Qy ds L p<=j/\j<Qy ds L p+(wiL L p).length:=by
 have k:=rk_pre h hj he;have e:wiL L p=wiL (L.take j) p++wiL (L.drop j) p:=by unfold wiL;rw [<-List.filter_append,List.take_append_drop]
 have o:0<(wiL (L.drop j) p).length:=List.length_pos_of_mem (a:=L.getD j []) (by
  unfold wiL;refine List.mem_filter.2 ⟨?_,by simpa using he⟩;rw [List.drop_eq_getElem_cons hj,<-Jr [] _ hj];exact mC ..)
 rw [e,List.length_append];omega
def nxG(L:List Row)(m i:Nat): Row:=(L.getD i []).take (m+1)
theorem nxG_len(hi:i<L.length)(hl:∀ x∈L,m<x.length): (nxG L m i).length=m+1:=by
 have:=hl _ (getD_mem' [] _ hi);unfold nxG;rw [List.length_take];omega
theorem nx_pre(hi:i<L.length)(hl:∀ x∈L,m<x.length)(hp:p.length=m)(h1:(L.getD i []).take m=p)(h2:(L.getD j []).take (nxG L m i).length=nxG L m i): (L.getD j []).take m=p:=by
 rw [nxG_len hi hl]at h2;have:=congrArg (List.take m) h2;unfold nxG at this;rwa [List.take_take,List.take_take,Nat.min_eq_left om,h1]at this
theorem nx_first(h:Lt ds L)(hl:∀ x∈L,p.length<x.length)(h0:0<(wiL L p).length)(hL:Qy ds L p<L.length): Qy ds L (nxG L p.length (Qy ds L p))=Qy ds L p:=by
 have C:=in_pre h hL (Nat.le_refl _) om;have g:=nxG_len hL hl;have k:=pre_in h hL (p:=nxG L p.length (Qy ds L p)) (by rw [g];rfl);rcases Nat.lt_or_ge (Qy ds L (nxG L p.length (Qy ds L p))) (Qy ds L p) with hlt|hge
 .have u:=in_pre h (j:=Qy ds L p-1) om (p:=nxG L p.length (Qy ds L p)) om om;have o:=nx_pre hL hl rfl C u;have:=pre_in h om o;omega
 .omega
theorem nx_new(h:Lt ds L)(hl:∀ x∈L,m<x.length)(hi:i+1<L.length)(he:Qy ds L (nxG L m i)+(wiL L (nxG L m i)).length=i+1): Qy ds L (nxG L m (i+1))=i+1:=by
 have g:=nxG_len hi hl;have u:=nxG_len (show i<L.length by omega) hl;have k:=pre_in h hi (p:=nxG L m (i+1)) (by rw [g];rfl);rcases Nat.lt_or_ge (Qy ds L (nxG L m (i+1))) (i+1) with hlt|hge
 .have o:=in_pre h (j:=i) om (p:=nxG L m (i+1)) om om;rw [g]at o;have e:nxG L m i=nxG L m (i+1):=o;rw [e]at he;omega
 .omega
theorem nx_last(h:Lt ds L)(hl:∀ x∈L,p.length<x.length)(hi:i+1=Qy ds L p+(wiL L p).length)(hL:Qy ds L p+(wiL L p).length<=L.length)(h0:0<(wiL L p).length): Qy ds L (nxG L p.length i)+(wiL L (nxG L p.length i)).length=i+1:=by
 have o:i<L.length:=om
 have J:=in_pre h o (p:=p) om om;have g:=nxG_len o hl;have k:=pre_in h o (p:=nxG L p.length i) (by rw [g];rfl);rcases Nat.lt_or_ge (i+1) (Qy ds L (nxG L p.length i)+(wiL L (nxG L p.length i)).length) with hlt|hge
 .have u:i+1<L.length:=by
   have:Qy ds L (nxG L p.length i)+(wiL L (nxG L p.length i)).length<=L.length:=by
    rw [<-hi_eq];exact List.length_filter_le _ _
   omega
  have G:=in_pre h u (p:=nxG L p.length i) om hlt;have C:=nx_pre o hl rfl J G;have:=pre_in h u C;omega
 .omega
def smN(ds:List Bool)(L:List Row)(p:Row)(i:Nat): Nat :=
 if i=Qy ds L p then i else Qy ds L (nxG L p.length (i-1))+(wiL L (nxG L p.length (i-1))).length
theorem smN_0: smN ds L p (Qy ds L p)=Qy ds L p:=if_pos rfl
theorem smN_succ(hi:Qy ds L p<=i): smN ds L p (i+1)=Qy ds L (nxG L p.length i)+(wiL L (nxG L p.length i)).length:=by
 unfold smN;rw [if_neg om,Nat.add_sub_cancel]
theorem smN_le(hi:i<=L.length): smN ds L p i<=L.length:=by
 unfold smN;split
 .exact hi
 .rw [<-hi_eq];exact List.length_filter_le _ _
theorem smN_new(h:Lt ds L)(hl:∀ x∈L,p.length<x.length)(h1:Qy ds L p<=i)(h2:i<Qy ds L p+(wiL L p).length)(hL:Qy ds L p+(wiL L p).length<=L.length)(he:smN ds L p i=i): Qy ds L (nxG L p.length i)=i:=by
 rcases Nat.eq_or_lt_of_le h1 with e|hlt
 .subst e;exact nx_first h hl om om
 .obtain ⟨k,rfl⟩:∃ k,i=k+1:=⟨i-1,om⟩;rw [smN_succ om]at he;exact nx_new h hl om he
theorem smN_last(h:Lt ds L)(hl:∀ x∈L,p.length<x.length)(hL:Qy ds L p+(wiL L p).length<=L.length): smN ds L p (Qy ds L p+(wiL L p).length)=Qy ds L p+(wiL L p).length:=by
 rcases Nat.eq_zero_or_pos (wiL L p).length with e|hp
 .rw [e];exact smN_0
 .obtain ⟨k,o⟩:∃ k,Qy ds L p+(wiL L p).length=k+1:=⟨Qy ds L p+(wiL L p).length-1,om⟩;rw [o,smN_succ om];exact nx_last h hl o.symm hL hp
end
end Go.Proofs.YtebcagekopgdhaaGreatDoor
namespace Go.Wk
open Go.RowKit
section
variable {P:Program} {n:Nat} {al:AL} {w:World} {Q:Exit->Act->World->Prop} {ops:Array Oper} {rest:List Oper} {d ty:Nat} {pos:String} {aft:Array Edge}
theorem apz0{t e sz bytes:Nat}{z:Value}(hE:ElT P t e sz bytes z){x y:Operand}{b:Addr}{A':Option Addr}{c':Nat}(kk:WL P n ops Q rest ((d,.slice (some b) 0 0)::al) w)(hx:ev al x=some (.slice (some b) 0 0):=by rfl)(hy:ev al y=some (.slice A' 0 c'):=by rfl)(hd:Nat.blt d n=true:=by rfl):
  WL P n ops Q (⟨some d,.call { callee:=.builtin .append,args:=#[x,y],argTypes:=#[t,t] },ty,pos,aft,none⟩::rest) al w:=by
 obtain ⟨i,hi,J,C,G⟩:=hE.info;have o:(Builtin.append_ #[t,t] ty #[.slice (some b) 0 0,.slice A' 0 c']).run P w=.ok (.slice (some b) 0 0) w:=by
  cases A'<;>simp [Builtin.append_,run_underlying hE.sl,sizeOf,typeInfo,hi,Builtin.lenOf,Builtin.firstCells,loadCells,loadCellsFrom,storeCells]
 refine wop hd (λa u=>?_) kk;simp [execOp,resolve,invoke,builtin,u.ev hx,u.ev hy,o]
end
end Go.Wk
namespace Go.Proofs.YtebcagekopgdhaaGreatDoor
open Go.RowKit Pl Go.Wk
attribute [local irreducible] WC WL QX WD WDB WP WN WG WH WM
variable {B0 pc:Nat}
def SF.cp(base:Nat)(p:Row): SF:=⟨λv w=>(p=[]/\∃ b,v=.slice (some b) 0 0)∨(0<p.length/\w.ownsRow base 47 3 v p.length (Jm p)),λh hx=>h.imp id λh=>⟨h.1,Jk h.2 hx⟩⟩
set_option linter.constructorNameAsVariable false in
theorem rankPrefix_any(hAw:Aw42){w:World}{cs:List Value}{c:Cse}{PA:Option Addr}{p:Row}(hTB:TB B0 w)(h:CseV w cs c)(hfit:∀ i,i<c.rss.length->∀ r∈c.rss.getD i [],∀ u∈r,Vt u)(hp:RowV w (.slice PA p.length pc) p):
  Ret Tryz.prog 9 [.agg cs.toArray,.slice PA p.length pc] w λu w'=>u=.bool true/\Ext w w':=by
 obtain ⟨dA,dc,pA,ck,vA,vc,rA,rc,rfl,hD,hP,hV,hR,hn,hf⟩:=id h;obtain ⟨_,_,eP,bu,cr,be⟩:=id hp;injection eP with e1 _ e2
 subst e1;subst e2;refine Jz Tryz.func9 Tryz.ntmps9 rfl kr rfl ?_;refine ρ ?_;refine bx ?_;intro w1 b ad hb hB;refine ρ ?_;refine ldW hB ?_;refine ρ ?_;refine cl (Xjz (hTB.ext ad) (h.ext ad) hfit) ?_;rintro u w2 ⟨ah,c5⟩;rcases c5 with ⟨rfl,cv⟩|⟨ats,x,av,kf,pf,BB,tot,hOk,rfl,hIx,hav⟩
 .refine ρ ?_;refine alc Kw ?_;intro w3 b3 aw b5 ay;refine ρ ?_;refine stW ay ?_;intro w4 ai c1 au;have O:Ext w2 w4:=au w2 aw b5;refine ρ ?_;refine Go.Wk.kt 31 ?_ ?_
  .rfl
  refine ρ ?_;refine cl (hAw (hTB.ext ((ad.trans ah).trans O))) ?_;rintro _ w5 ⟨rfl,J⟩;refine ρ ?_;exact Jq ⟨rfl,((ad.trans ah).trans O).trans J⟩
 have am:=hOk.ans.1;obtain ⟨XA,xd,YA,yd,ZA,zd,UA,ud,tv,cm,cj,rfl,_,_,_,_,_,_,bp,_⟩:=id hIx.ix.ex;obtain ⟨TA,tc,rfl,_⟩:=id bp;obtain ⟨LA,lc,rfl,cx,cw,_⟩:=hav.parts;have d3:=hOk.fF.1;obtain ⟨L,hL⟩:∃ L,L=c.ans:=⟨_,rfl⟩;have cy:L.length<=5000:=by rw [hL];exact hOk.anl
 have ak:∀ r∈L,r.length=c.F:=λr hr=>hOk.arow (hL ▸ hr);rw [<-hL]at hIx hav am;rw [show c.ans.length=L.length by rw [hL]];refine ρ ?_;refine alc Kw ?_;intro w3 b3 aw b5 ay;refine ρ ?_;refine stW ay ?_;intro w4 ai c1 au;have O:Ext w2 w4:=au w2 aw b5;have o:=(ad.trans ah).trans O;have ag:=hIx.ext O;have ap:=hav.ext O;have an:=(hB.ext ah).ext O;have bv:=hp.ext o;refine ρ ?_;refine ci (λU=>?_) (λU=>?_)
 .clear U;refine ρ ?_;refine cl (hAw (hTB.ext o)) ?_;rintro _ w5 ⟨rfl,J⟩;refine ρ ?_;exact Jq ⟨rfl,o.trans J⟩
 clear U;refine ρ ?_;refine ldW ai ?_;refine ρ ?_;refine cl (Jrm (hTB.ext o) ag (Rd.ext be o) bu) ?_;rintro u w5 ⟨J,bz,b4⟩;have b6:=an.ext J;have a7:=o.trans J;by_cases hpF:p.length<=c.F
 rotate_left
 .have e:=bz om;subst e;refine ρ ?_;refine ld (b6.at (i:=1) rfl) ?_;refine ρ ?_;refine ci (λU=>?_) (λU=>?_);rotate_left
  .exfalso
   simp at U;omega
  clear U;refine ρ ?_;refine cl (hAw (hTB.ext a7)) ?_;rintro _ w6 ⟨rfl,a8⟩;refine ρ ?_;exact Jq ⟨rfl,a7.trans a8⟩
 obtain ⟨lv,hv,st,rfl,bg,bh,cn⟩:=b4 hpF;obtain ⟨KA,kc,rfl,_⟩:=id bg;obtain ⟨HA,c4,rfl,_⟩:=id bh;refine ρ ?_;refine ld (b6.at (i:=1) rfl) ?_;refine ρ ?_;refine ci (λU=>?_) (λU=>?_)
 .exfalso
  simp at U;omega
 clear U;refine ρ ?_;refine ld (b6.at (i:=2) rfl) ?_;refine ρ ?_;refine cl (ref42Prefix_any (ap.ext J) (bv.ext J) (hD.ext a7) (λy hy=>by rw [ak y hy];exact hpF)) ?_;rintro _ w6 ⟨rfl,a8⟩;have c8:=a7.trans a8;refine ρ ?_;have d2:Qy c.ds L p<=L.length:=Jhm c.ds L p;have d1:(wiL L p).length<=L.length:=List.length_filter_le _ _;refine cl (Jjw (k:=Qy c.ds L p) (bg.ext a8) om) ?_;rintro _ w7 ⟨rfl,b8⟩;rw [decide_eq_true rfl];refine ρ ?_;refine cl (Jjw (k:=Qy c.ds L p+(wiL L p).length) ((bh.ext a8).ext b8) om) ?_;rintro _ w8 ⟨rfl,bo⟩;rw [decide_eq_true rfl];have aa:=(a8.trans b8).trans bo;refine ρ ?_;refine ldW ((ai.ext J).ext aa) ?_;refine ρ ?_;have af:=ag.ext (J.trans aa);refine cl (heights42_any af.ix af.ip.f32 af.hb) ?_;rintro _ w9 ⟨rfl,bn⟩;refine ρ ?_;refine ci (λU=>?_) (λU=>?_)
 .exact absurd (oT U) om
 clear U;have b9:=(J.trans aa).trans bn;have bi:Qy c.ds L p+(wiL L p).length<=L.length:=by rw [<-hi_eq];exact List.length_filter_le _ _
 refine ρ ?_;refine Qh (fun (i:Nat)=>[(1,.slice PA p.length pc),(2,.pointer (some ⟨b,0,none⟩)),(5,.pointer (some ⟨b3,0,none⟩)),(6,.slice LA L.length lc),(12,.int .i64 (Qy c.ds L p:Int)),(13,.int .i64 ((Qy c.ds L p+(wiL L p).length:Nat):Int)),(14,.int .i64 (smN c.ds L p i:Int)),(15,.int .i64 (i:Int))])
  (λi w'=>Qy c.ds L p<=i/\i<=Qy c.ds L p+(wiL L p).length/\(i=Qy c.ds L p∨p.length<c.F)/\Ext w4 w') (λi=>Qy c.ds L p+(wiL L p).length-i) (Qy c.ds L p) (by rw [smN_0];exact sB) ⟨Nat.le_refl _,om,.inl rfl,b9⟩ ?_
 rintro i a1 ⟨b1,d0,cz,Z⟩;have co:smN c.ds L p i<=L.length:=smN_le om;have G:=o.trans Z;have c7:∀ (_:i=Qy c.ds L p+(wiL L p).length∨p.length=c.F),p.length≠c.F->smN c.ds L p i=Qy c.ds L p+(wiL L p).length:=λh1 h2=>by
  have e:i=Qy c.ds L p+(wiL L p).length:=h1.resolve_right h2;rw [e];exact smN_last am (λy hy=>by rw [ak y hy];omega) bi
 refine ρ ?_;refine ki 96 (λhg=>?_) (λhg=>?_)
 .have bf:i<Qy c.ds L p+(wiL L p).length:=by have:=oT hg;omega
  clear hg;refine ρ ?_;refine ld ((an.ext Z).at (i:=1) rfl) ?_;refine ρ ?_;refine ci (λU=>?_) (λU=>?_)
  .have a5:p.length<c.F:=by simp at U;omega
   clear U;have lk:i<L.length:=om
   have hpre:(L.getD i []).take p.length=p:=in_pre am lk b1 bf;have aq:p.length<(L.getD i []).length:=by rw [ak _ (getD_mem' [] _ lk)];exact a5
   obtain ⟨y,hy⟩:∃ y,y=(L.getD i []).getD p.length V0:=⟨_,rfl⟩;have bw:nxG L p.length i=p++[y]:=by
    unfold nxG;rw [Qb V0 aq,hpre,hy]
   have ar:Ext a1 a1.drew:=(Ext.refl _).drew;have ac:=Z.trans ar;obtain ⟨rv,cg,bc,_,br,bs⟩:=(ap.ext ac).one lk;obtain ⟨RA,ch,rfl,ca,cq,ao⟩:=id bs;have bt:RdR a1.drew PA p:=Rd.ext be (o.trans ac);refine ρ ?_;refine drH (λi=>Nat.ble 12 i) ?_;refine Go.Wk.hpre (fuel':=5) 14 [(0,1),(0,3),(0,4),(0,5),(0,6),(0,7),(0,8),(0,9),(0,10)] #[false,true,false,true,true,true,true,true,true,true,true,false,false,false] kr kr rfl ?_;refine ρd ?_;refine dix i bc lk ?_;refine ρd ?_;refine dld (bc.cell br) ?_;refine ρd ?_;refine Kj 3 p.length ao aq ?_;refine ρd ?_;refine Qw (cs:=((L.getD i []).getD p.length V0).cells) (λj u hu=>RdR.cell ao aq hu) ?_;rw [<-hy];refine ρd ?_;refine Qz ?_;refine Qqg 14 99 2 _ #[true,true,true,true,true,true,true,true,true,true,true,true,false,false] [0,2,11] [105,107,116] [SF.zs,SF.cp a1.drew.heap.size p,SF.rw y] kr (by rfl) ?_ ?_ (λh=>absurd h (by decide))
   .refine gsc (λvs v1 a4 hd=>?_) ?_
    .simp only [slM];refine bsl bs0V ?_;intro v2 b2 a2 c6 ae;exact Jg (Zz a2 ⟨b2,rfl⟩)
    refine gsc (λvs v1 a4 hd=>?_) ?_
    .obtain ⟨b0,e0⟩:=hd 0;simp only [slM,e0];rcases Nat.eq_zero_or_pos p.length with h0|h0
     .rw [h0];refine apz0 EV ?_;exact Jg (Zz (Ext.refl _) (.inl ⟨List.eq_nil_of_length_eq_zero h0,_,rfl⟩))
     .refine apz EV (base:=a1.drew.heap.size) (Rd.ext bt a4) (Jvq p) h0 (by unfold maxLen;omega) om a4.size ?_;intro v' v2 a2 a6;exact Jg (Zz a2 (.inr ⟨h0,a6⟩))
    refine gsc (λvs v1 a4 hd=>?_) gse
    .simp only [slM];refine bsl (bs1V y) ?_;intro v2 b2 a2 c6 ae;exact Jg (Zz a2 ⟨b2,rfl,ae⟩)
   intro vs v1 a4 hd;have c2:(p=[]/\∃ b,vs 1=.slice (some b) 0 0)∨(0<p.length/\v1.ownsRow a1.drew.heap.size 47 3 (vs 1) p.length (Jm p)):=hd 1;obtain ⟨b2,e2,ae⟩:=hd 2;refine Jxt 1 (lst 14 13) (fun (y:Option Addr×Nat)=>[(117,.slice y.1 (p.length+1) y.2),(1,.slice PA p.length pc),(2,.pointer (some ⟨b,0,none⟩)),(5,.pointer (some ⟨b3,0,none⟩)),(6,.slice LA L.length lc),(12,.int .i64 (Qy c.ds L p:Int)),(13,.int .i64 ((Qy c.ds L p+(wiL L p).length:Nat):Int)),(14,.int .i64 (smN c.ds L p i:Int)),(15,.int .i64 (i:Int))])
    (λq W=>Ext a1 W/\RdR W q.1 (p++[y])/\p.length+1<=q.2) ?_ ?_
   rotate_left
   .intro rest;rcases c2 with ⟨rfl,b0,e1⟩|⟨h0,ho⟩
    .simp only [slM,e1,e2];refine Go.Wk.hpre (fuel':=1) 14 [(2,12)] (lst 14 13) kr kr rfl ?_;refine Ja ?_;refine apz EV (base:=a1.drew.heap.size) (ae.rd (n:=1) rfl) (V.one _) (by decide) (by unfold maxLen;omega) om a4.size ?_;intro v' v2 a2 a6;obtain ⟨A3,c3,rfl,a9,_⟩:=Jy a6;refine Jg (Qg ?_);refine Vb (Qz ?_);exact rest (A3,c3) _ _ ⟨(ar.trans a4).trans a2,Rd.own a6,a9⟩ sB
    .simp only [slM,e2];refine Go.Wk.hpre (fuel':=1) 14 [(2,12)] (lst 14 13) kr kr rfl ?_;refine Ja ?_;refine apo (a:=a1.drew) a4 EV ho (ae.rd (n:=1) rfl) (V.one _) (by unfold maxLen;omega) om ?_;intro v' v2 a6 a2 _ _;obtain ⟨A3,c3,rfl,a9,_⟩:=Jy a6;refine Jg (Qg ?_);refine Vb (Qz ?_);refine rest (A3,c3) _ _ ⟨ar.trans a2,?_,a9⟩ sB;have h1:=Rd.own a6;rw [<-rowC_app']at h1;exact (by rw [List.length_append];exact h1:Rd _ 3 A3 (p++[y]).length (Jm (p++[y])))
   rintro ⟨A3,c3⟩ b7 ⟨C,bj,a9⟩;simp only at bj a9;refine Go.Wk.hpre (fuel':=0) 14 [(2,13)] (lst 14 14) kr kr rfl ?_;refine Ja ?_;refine ρ ?_;refine Qg ?_;refine Vb (Qz ?_);refine Ks kr ?_;have a3:=Z.trans C;refine ρ ?_;refine ldW (ai.ext a3) ?_;refine ρ ?_;have bd:(p++[y]).length=p.length+1:=by simp
   have bm:=Jrm (hTB.ext (o.trans a3)) (ag.ext a3) bj (bd ▸ a9);rw [bd]at bm;refine cl bm ?_;rintro u cd ⟨bb,_,b4⟩;obtain ⟨lv,hv,ce,rfl,ax,aj,_⟩:=b4 om;rw [<-bw]at ax aj;have bq:smN c.ds L p (i+1)=Qy c.ds L (nxG L p.length i)+(wiL L (nxG L p.length i)).length:=smN_succ b1;rw [<-bq]at aj;obtain ⟨KA,kc,rfl,_⟩:=id ax;obtain ⟨HA,c4,rfl,_⟩:=id aj;have c9:smN c.ds L p (i+1)<=L.length:=smN_le om;refine ρ ?_;refine cl (natUint64_any aj om) ?_;rintro _ cc ⟨rfl,rfl⟩;have ab:=a3.trans bb;refine ρ ?_;refine ki 141 (λhg=>?_) (λhg=>?_)
   .have he:smN c.ds L p i=i:=by have:=oT hg;omega
    refine ρ ?_;refine cl (Jjw (k:=i) ax om) ?_;rintro _ cb ⟨rfl,ba⟩;rw [decide_eq_true (smN_new am (λx hx=>by rw [ak x hx];exact a5) b1 bf bi he)];refine ρ ?_;rw [Ga (z:=(smN c.ds L p (i+1):Int)) om];exact Qv (i+1) sO ⟨om,om,.inr a5,ab.trans ba⟩ om
   .refine ρ ?_;rw [Ga (z:=(smN c.ds L p (i+1):Int)) om];exact Qv (i+1) sO ⟨om,om,.inr a5,ab⟩ om
  .have a5:p.length=c.F:=by simp at U;omega
   clear U;refine ρ ?_;refine cl (hAw (hTB.ext G)) ?_;rintro _ b7 ⟨rfl,C⟩;refine ρ ?_;refine ld (((an.ext Z).ext C).at (i:=1) rfl) ?_;refine ρ ?_;refine Go.Wk.kt 157 ?_ ?_
   .exact decide_eq_true om
   refine ρ ?_;exact Jq ⟨rfl,G.trans C⟩
 .have c0:i=Qy c.ds L p+(wiL L p).length:=by have:=oF hg;omega
  clear hg;refine ρ ?_;refine cl (hAw (hTB.ext G)) ?_;rintro _ b7 ⟨rfl,C⟩;refine ρ ?_;refine ld (((an.ext Z).ext C).at (i:=1) rfl) ?_;refine ρ ?_;refine ki 157 (λhg=>?_) (λhg=>?_)
  .refine ρ ?_;exact Jq ⟨rfl,G.trans C⟩
  .have a5:p.length≠c.F:=by have:=oF hg;omega
   have e:=c7 (.inl c0) a5;refine ρ ?_;refine Jq ⟨congrArg Value.bool ?_,G.trans C⟩;exact decide_eq_true om
end Go.Proofs.YtebcagekopgdhaaGreatDoor
namespace Go.Proofs.YtebcagekopgdhaaGreatDoor
open Go.RowKit Pl Go.Wk
theorem rankPrefix_walk{B0:Nat}{w:World}{v u:Value}(hTB:TB B0 w)(h:CaseE w v)(hu:∃ r,RowE w u r): Ret Tryz.prog 9 [v,u] w λu w'=>u=.bool true/\Ext w w':=by
 obtain ⟨cs,c,rfl,G,C⟩:=h;obtain ⟨p,o,_⟩:=hu;obtain ⟨J,pc,rfl,_⟩:=id o;exact rankPrefix_any Xqb hTB G C o
end Go.Proofs.YtebcagekopgdhaaGreatDoor
