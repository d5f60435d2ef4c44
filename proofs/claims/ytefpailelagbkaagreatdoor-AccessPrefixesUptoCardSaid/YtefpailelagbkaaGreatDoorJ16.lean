/- Part 16 of the proof: Tri4, Ptr, It. -/
import Derived.Test.YtefpailelagbkaaGreatDoorJ15
import Derived.Laws.CopyRow
set_option linter.unusedVariables false
set_option maxRecDepth 100000
set_option maxHeartbeats 40000000
namespace Go.Proofs.YtefpailelagbkaaGreatDoor
open Go.RowKit Pl Go.Wk
attribute [local irreducible] WC WL QX WD WDB WP WN
theorem Qrj{r:Row}{d:Nat}(h:r.length=d): pmR (List.range d) r=r:=by
 apply List.ext_getElem
 ·simp [pmR,h]
 ·intro i h1 h2;simp [pmR,List.getD,List.getElem?_eq_getElem h2]
theorem TriB.nil(w:World)(base:Nat){A:Option Addr}{d:Nat}(hl:w.ownsRow base 289 2 (.slice A d d) d (Jvq d (λ_=>.slice none 0 0) (λ_=>.slice none 0 0))): TriB w base A d (λ_=>.slice none 0 0) (λ_=>.slice none 0 0) (λ_=>[]) (λ_=>[]) :=
 ⟨hl,⟨λi hi=>Jxj _ _ _ _,λi j g _ _ _ e=>by cases e⟩,⟨λi hi=>Jxj _ _ _ _,λi j g _ _ _ e=>by cases e⟩⟩
theorem Qqr{rs:List Row}(l:Nat): (lvl rs l).length<=rs.length:=by
 rw [Jfz];have:=Jnj (rs.map (List.take (l+1)));rw [List.length_map]at this;exact this
theorem Xvx{rs:List Row}{x:Row}: stp rs x<=x.length:=by
 unfold stp;split
 ·exact (Xjg _ _).2
 ·exact Nat.zero_le _
theorem Qcf{w:World}{v vc:Value}{d:Nat}{ls:List Row}(hrel:RelV w v d ls)(hlt:Lt [] ls)(hlen:∀ r∈ls,r.length=d)(hc:IntsV w vc (nz (List.range d)))(hd:d<=32)(hbig:ls.length<=65536):
  Ret Tryz.prog 192 [v,vc] w λu w'=>Ext w w'/\∃ t,u=.tuple #[t,.int .i64 0]/\(∃ A,t=.agg #[.slice A d d])/\Off (λk=>k<w.heap.size) w' (λx=>TriV x t d ls):=by
 obtain ⟨C,cc,rfl,hcc,hcm,hcr⟩:=id hc;obtain ⟨rv,rfl,hrows⟩:=id hrel;obtain ⟨ps0,A0,c0,_,rfl,_⟩:=id hrows;have hcl:(nz (List.range d)).length=d:=by rw [Jqc,List.length_range]
 rw [hcl]at hc hcc hcm hcr ⊢;have cget:∀ {k:Nat},k<d->(List.range d).getD k 0=k:=fun {k} hk=>by simp [List.getD,hk]
 have hcell:∀ {k:Nat},k<d->(Jzw (nz (List.range d)))[k]?=some (.int .i64 (k:Int)):=fun {k} hk=>by
  have:=Jxw (cs:=List.range d) (i:=k) (by rw [List.length_range];exact hk);rw [cget hk]at this;exact this
 refine Jjb Tryz.func192 Tryz.ntmps192 rfl (by kernel_rfl) rfl ?_;refine ρ ?_;refine bx (cs:=[.int .i64 (d:Int),.slice A0 ps0.length c0]) ?_;intro w1 b1 hx1 hb1 hB1;refine ρ ?_;refine alc (cs:=[.slice none 0 0]) Xql ?_;intro w2 b2 hx2 hb2 hB2;have hxw2:=hx1.trans hx2;refine ρ ?_;refine Jqn (fun (k:Nat)=>[(1,.slice C d cc),(2,.pointer (some ⟨b1,0,none⟩)),(4,.pointer (some ⟨b2,0,none⟩)),(15,.slice C d cc),(16,.int .i64 (d:Int)),(17,.int .i64 (k:Int))]) (λk w'=>Ext w2 w'/\k<=d) (λk=>d-k) 0 sB ⟨Ext.refl _,Nat.zero_le _⟩ ?_;rintro k w3 ⟨hx3,hk⟩;have hxw3:=hxw2.trans hx3;have hB13:=(hB1.ext hx2).ext hx3;refine ρ ?_;refine ci (λh=>?_) (λh=>?_)
 ·have lk:k<d:=by have:=of_decide_eq_true h;omega
  have hcr3:=hcr.ext hxw3;refine ρ ?_;refine ix k hcr3 lk ?_;refine ρ ?_;refine ld (hcr3.cell (hcell lk)) ?_;refine ρ ?_;refine kf 24 ?_ ?_
  ·exact decide_eq_false (by omega)
  refine ρ ?_;refine lds (cs:=[.int .i64 (d:Int),.slice A0 ps0.length c0]) (λj u hu=>hB13.at hu) ?_;refine ρ ?_;refine cl (Jys (hrel.ext hxw3)) ?_;rintro u w4 ⟨rfl,hx4⟩;refine ρ ?_;refine cf ?_ ?_
  ·exact decide_eq_false (by omega)
  refine ρ ?_;refine slh k ?_;refine ρ ?_;have hRk:Rd w4 1 C k (Jzw ((nz (List.range d)).take k)):=by
   have:=(hcr3.ext hx4).take (m:=k) (by omega);rw [Nat.mul_one]at this;have e:Jzw ((nz (List.range d)).take k)=(Jzw (nz (List.range d))).take k:=by simp [Jzw]
   rw [e];exact this
  refine cl (Jnk (t:=(k:Int)) hRk (by rw [List.length_take,hcl];omega) (by omega)) ?_;rintro u w5 ⟨rfl,t,rfl,ht⟩;have htf:t=false:=by
   cases t with
   | false=>rfl
   | true=>
    exfalso
    have hm:=ht.1 rfl;obtain ⟨i,hi,e⟩:=List.getElem_of_mem hm;rw [List.length_take,hcl]at hi;have:((nz (List.range d)).take k)[i]'(by rw [List.length_take,hcl];exact hi)=(i:Int):=by simp [nz]
    rw [this]at e;omega
  refine ρ ?_;refine cf htf ?_;refine ρ ?_;exact Jjt (k+1) sO ⟨hx3.trans hx4,by omega⟩ (by omega)
 clear h;have hm0:ls.map (pmR (List.range d))=ls:=by
  conv=>rhs;rw [<-List.map_id ls]
  exact List.map_congr_left λr hr=>by rw [Qrj (hlen r hr)];rfl
 refine ρ ?_;refine lds (cs:=[.int .i64 (d:Int),.slice A0 ps0.length c0]) (λj u hu=>hB13.at hu) ?_;refine ρ ?_;refine cl (Jcf (cs:=List.range d) (hrel.ext hxw3) (hc.ext hxw3) hlen (λc hc=>List.mem_range.1 hc) (by rw [List.length_range];exact hd) hbig) ?_;rintro u w4 ⟨hx4,pv,rfl,⟨pz,pB,pm,pd,rfl⟩,m,hm1,hm2,hm3,hm4⟩;have hml:m=ls:=by
  have:=hm4 (.inr (by rw [hm0];exact Jcj hlt));rw [hm0]at this;exact Jbg this.1 hlt this.2
 subst hml;rw [List.length_range]at hm1;have hxw4:=hxw3.trans hx4;refine ρ ?_;refine alc (cs:=[.int .i64 0,.slice none 0 0]) Qpm ?_;intro w5 b5 hx5 hb5 hB5;refine ρ ?_;refine stb hB5 ?_ (Qyk (z:=pz) (A:=pB) (n:=pm) (c:=pd));intro w6 hB6 hg6 hx6;have hx46:Ext w4 w6:=hx6 w4 hx5 hb5;have hxw6:=hxw4.trans hx46;have hR6:RelV w6 (.agg #[.int .i64 pz,.slice pB pm pd]) d m:=hm1.here.ext hx46;refine ρ ?_;refine mkn EL d (by omega) (by unfold maxLen;omega) ?_;intro w7 A hx7 ho7 hO;rw [made2]at ho7;refine ρ ?_;refine bld (Qth A d d _) ?_;refine ρ ?_;refine alc (cs:=[.slice none 0 0]) Xql ?_;intro w8 b8 hx8 hb8 hB8;refine ρ ?_;refine stb hB8 ?_ (one1 (A:=A) (n:=d) (c:=d));intro w9 hB9 hg9 hx9;have hx79:Ext w7 w9:=hx9 w7 hx8 hb8;have hx69:=hx7.trans hx79;have hxw9:=hxw6.trans hx69;have hT9:=TriB.nil w9 w6.heap.size (Jjc ho7 hx79);have hlev:∀ j,(Value.slice A d d).ownBlock=some j->w6.heap.size<=j/\j<w7.heap.size:=by
  obtain ⟨_,_,_,_,hf⟩:=Jjd ho7;exact hf
 refine ρ ?_;refine lds (cs:=[.int .i64 pz,.slice pB pm pd]) (λj u hu=>(hB6.ext hx69).at hu) ?_;refine ρ ?_;refine cl (Jcv (hR6.ext hx69)) ?_;rintro u w10 ⟨hx10,hrow10⟩;obtain ⟨ps,R,rc,hls,rfl,hrle,hrmx,hRR,hRV⟩:=hrow10;have hps:ps.length=m.length:=by rw [hls,List.length_map]
 generalize hn:ps.length=n at *
 have hget:∀ i,m.getD i []=(ps.getD i z0).2:=λi=>by rw [hls];exact Jrc
 have hxw10:=hxw9.trans hx10;obtain ⟨Ar,hAr⟩:∃ Ar:Nat->Prop,Ar=λj=>j<w9.heap.size∨w10.heap.size<=j:=⟨_,rfl⟩;have hRA:Off Ar w10 (λu=>Rd u 1 R n (ps.map (·.1))):=hRR.mono λj hj hj'=>by rw [hAr]at hj';omega
 have hVA:∀ p∈ps,Off Ar w10 (λu=>RowV u p.1 p.2):=λp hp=>(hRV p hp).mono λj hj hj'=>by rw [hAr]at hj';omega
 have hB8':=hB9.ext hx10;have hB2':=(((((hB2.ext hx3).ext hx4).ext hx46).ext hx69).ext hx10);obtain ⟨M,hM⟩:∃ M:Nat->Prop,M=λj=>w6.heap.size<=j/\Ar j/\j≠b8:=⟨_,rfl⟩;have hMA:∀ j,M j->Ar j:=λj hj=>by rw [hM]at hj;exact hj.2.1
 have hM8:¬ M b8:=λe=>by rw [hM]at e;exact e.2.2 rfl
 have hM2:¬ M b2:=λe=>by
  rw [hM]at e;have h1:=hB2.lt;have h2:=hx3.size;have h3:=hx4.size;have h4:=hx46.size;omega
 refine ρ ?_;refine Jzk (fun (k:Nat) (vv fv:Nat->Value)=>[(4,.pointer (some ⟨b2,0,none⟩)),(10,.pointer (some ⟨b8,0,none⟩)),(11,if k=0 then .slice none 0 0 else (ps.getD (k-1) z0).1),(53,.slice R n rc),(54,.int .i64 (n:Int)),(55,.int .i64 (k:Int))])
  (λk vv fv w'=>k<=n/\(∃ fs,TriB w' w6.heap.size A d vv fv (lvl (m.take k)) fs/\(∀ l,l<d->(fs l).length=(lvl (m.take k) l).length)/\∀ l,l+1<d->Fst (m.take k) l (fs l))/\GrN M w10 w'/\∀ j,Qzm A d vv fv j->M j) (λk _ _=>n-k) 0 (λ_=>.slice none 0 0) (λ_=>.slice none 0 0) sB
  ⟨Nat.zero_le _,⟨λ_=>[],(hT9.ext hx10).congr (λl hl=>rfl) (λl hl=>rfl),λl hl=>rfl,λl hl=>Fst.nil l⟩,GrN.refl _ _,λj hj=>?_⟩ ?_
 ·rcases hj with e|⟨l,_,e|e⟩
  ·have:=hlev j e;rw [hM];refine ⟨this.1,by rw [hAr];exact .inl (Nat.lt_of_lt_of_le this.2 hx79.size),λe2=>?_⟩;subst e2;omega
  ·cases e
  ·cases e
 rintro k vv fv w11 ⟨hk,⟨fs,H11,hfl,hF11⟩,hg11,hM11⟩;have hg11A:GrN Ar w10 w11:=hg11.mono λj _ hj=>hMA j hj;refine ρ ?_;refine ci (λh=>?_) (λh=>?_)
 ·have lk:k<n:=by have:=of_decide_eq_true h;omega
  have lkm:k<m.length:=by omega
  clear h;have hR11:=hRA w11 hg11A;have hV11:RowV w11 (ps.getD k z0).1 (m.getD k []):=by rw [hget];exact hVA _ (Jkx hn lk) w11 hg11A
  have hxl:(m.getD k []).length=d:=hlen _ (getD_mem' [] m lkm);have hL11:∃ y,RowV w11 (if k=0 then .slice none 0 0 else (ps.getD (k-1) z0).1) y/\(y=[]∨y.length=(m.getD k []).length)/\shr y (m.getD k [])=stp (m.take k) (m.getD k []):=by
   by_cases e:k=0
   ·subst e;rw [if_pos rfl];exact ⟨[],RowV.nil _ _ _,.inl rfl,by rw [Qkc];rfl⟩
   ·rw [if_neg e];have lk1:k-1<n:=by omega
    refine ⟨m.getD (k-1) [],by rw [hget];exact hVA _ (Jkx hn lk1) w11 hg11A,.inr (by rw [hxl];exact hlen _ (getD_mem' [] m (by omega))),?_⟩;have e2:(m.take k).getLast?=some (m.getD (k-1) []):=by
     rw [List.getLast?_eq_getElem?,List.length_take,Nat.min_eq_left (by omega),List.getElem?_take,if_pos (by omega),Jjh [] m (by omega),List.getElem?_eq_getElem (by omega)]
    unfold stp;rw [e2]
  obtain ⟨y,hy1,hy2,hy3⟩:=hL11;have htk:m.take (k+1)=m.take k++[m.getD k []]:=Jjm [] lkm;have hlt1:Lt [] (m.take k++[m.getD k []]):=by rw [<-htk];exact List.Pairwise.sublist (List.take_sublist _ _) hlt
  have hlen1:∀ r∈m.take k++[m.getD k []],r.length=d:=by rw [<-htk];exact λr hr=>hlen r (List.mem_of_mem_take hr)
  refine ρ ?_;refine ix k hR11 lk ?_;refine ρ ?_;refine ld (Qcs hR11 hn lk) ?_;refine ρ ?_;refine drN (λ_=>False) 4 [(0,0),(0,1),(0,2),(0,3),(1,4),(2,5)] (by kernel_rfl) ?_;have hxd:Ext w11 w11.drew:=(Ext.refl w11).drew;have hg11d:=hg11.trans (GrN.ext hxd);have hB11:=Jqb hB8' hg11d hM8;refine ρn ?_;refine Jfd (cs:=[.slice A d d]) (λw' hg j u hu=>(Jqb hB11 hg (λe=>e)).at hu) ?_;refine ρn ?_;refine nop ?_;refine cl (Jsb (hy1.ext hxd) (hV11.ext hxd) hy2) ?_;rintro u w12 ⟨rfl,hx12⟩;refine ρ ?_;refine Jqm (GrN.ext hx12) ?_;rw [hy3];have hx1112:=hxd.trans hx12;have H12:=H11.ext hx1112;have hg12:=hg11.trans (GrN.ext hx1112);have hxoff:Off (Qzm A d vv fv) w12 (λu=>RowV u (ps.getD k z0).1 (m.getD k [])):=λu hu=>by
   rw [hget];exact hVA _ (Jkx hn lk) u ((hg12.mono λj _ hj=>hMA j hj).trans (hu.mono λj _ hj=>hMA j (hM11 j hj)))
  refine Jkj ?_;refine cl (Qcg (s:=stp (m.take k) (m.getD k [])) H12 hxoff hxl hd (by have:=Xvx (rs:=m.take k) (x:=m.getD k []);omega) ?_ ?_) ?_
  ·have h1:=hx69.size;have h2:=hx10.size;have h3:=hg12.size;omega
  ·intro l hl;have h1:=Qqr (rs:=m.take k) l;rw [List.length_take]at h1;have h2:=hfl l hl;omega
  rintro u w13 ⟨vv',fv',H13,hg13,hM13⟩;refine ρ ?_;refine Jqf (k+1) vv' fv' (by repeat' (first|exact Sub.nil|refine Sub.cons (by first|rfl|(refine congrArg (λz=>some (Value.int .i64 z)) ?_;omega)|(rw [if_neg (Nat.succ_ne_zero k)];rfl)) ?_)) ⟨by omega,⟨_,H13.congr (vs':=lvl (m.take (k+1))) (λl hl=>?_) (λl hl=>rfl),λl hl=>?_,λl hl=>?_⟩,hg12.trans (hg13.mono λj _ hj=>hM11 j hj),λj hj=>?_⟩ (by omega)
  ·rw [htk,Qyr hlt1 hlen1 hl];by_cases e:stp (m.take k) (m.getD k [])<=l
   ·rw [if_pos e,if_neg (by omega)]
   ·rw [if_neg e,if_pos (by omega)]
  ·rw [htk,Qyr hlt1 hlen1 hl];by_cases e:stp (m.take k) (m.getD k [])<=l
   ·rw [if_pos e,if_neg (show ¬ l+1<=stp (m.take k) (m.getD k []) by omega),List.length_append,List.length_append,hfl l hl];rfl
   ·rw [if_neg e,if_pos (by omega)];exact hfl l hl
  ·rw [htk];by_cases e:stp (m.take k) (m.getD k [])<=l
   ·rw [if_pos e,if_pos hl,Jfz];exact (hF11 l hl).more hlt1 hlen1 e
   ·rw [if_neg e];exact (hF11 l hl).keep hlt1 hlen1 (by omega)
  ·rcases hM13 j hj with h'|h'
   ·exact hM11 j h'
   ·rw [hM];have h1:=hx69.size;have h2:=hx10.size;have h3:=hg12.size;have h4:=hB8'.lt;exact ⟨by omega,by rw [hAr];exact .inr (by omega),by omega⟩
 ·have ek:k=n:=by have:=of_decide_eq_false h;omega
  subst ek;rw [List.take_of_length_le (by omega)]at H11 hfl hF11;have hB11:=Jqb hB8' hg11 hM8;refine ρ ?_;refine ld (hB11.at (i:=0) rfl) ?_;refine ρ ?_;refine Jjv (fun (k:Nat) (fv:Nat->Value)=>[(4,.pointer (some ⟨b2,0,none⟩)),(10,.pointer (some ⟨b8,0,none⟩)),(69,.int .i64 (d:Int)),(70,.int .i64 (k:Int))])
   (λq fv' w'=>q<=d/\TriB w' w6.heap.size A d vv fv' (lvl m) (λl=>if l<q then fs l++[if l+1<d then (lvl m (l+1)).length else 0] else fs l)/\GrN M w10 w'/\∀ j,Qzm A d vv fv' j->M j) (λq _=>d-q) 0 fv sB
   ⟨Nat.zero_le _,H11.congr (λl hl=>rfl) (λl hl=>by rw [if_neg (by omega)]),hg11,hM11⟩ ?_
  clear hB11 hM11 hg11A hg11;rintro q fv' w12 ⟨hq,H12,hg12,hM12⟩;refine ρ ?_;refine ci (λh=>?_) (λh=>?_)
  ·have lq:q<d:=by have:=of_decide_eq_true h;omega
   clear h;have hflq:=hfl q lq;have hbq:=Qqr (rs:=m) q;obtain ⟨own,hown⟩:∃ own,own=(fv' q).ownBlock:=⟨_,rfl⟩;have hoM:∀ j,own=some j->M j:=λj ej=>hM12 j (.inr ⟨q,lq,.inr (by rw [<-hown];exact ej)⟩);refine ρ ?_;refine drN (one own) 4 [(0,0),(0,1),(0,2),(0,3),(0,4),(0,5),(0,6),(0,7),(0,8),(0,9),(0,10),(0,11),(1,12),(1,13),(1,14),(0,15),(0,16),(2,17)] (by kernel_rfl) ?_;have hxd:Ext w12 w12.drew:=(Ext.refl w12).drew;have H12d:=H12.ext hxd;have hg12d:=hg12.trans (GrN.ext hxd);have hB12:=Jqb hB8' hg12d hM8;have nb:¬ one own b8:=λe=>hM8 (hoM b8 e);have nA':¬ one own (adr A (q*2)).block:=by
    obtain ⟨ad,e,_⟩:=H12d.rd.isome (by omega) (by omega);subst e;simp only [adr,Option.getD_some,Jzc];intro h';exact Jpx H12d.lev (H12d.fst.own q lq) rfl rfl (by rw [<-hown];exact h')
   refine ρn ?_;refine nld (Jjg (hB12.at (i:=0) rfl) nb) ?_;refine ρn ?_;refine nld (Jjg (hB12.at (i:=0) rfl) nb) ?_;refine ρn ?_;refine Qyn 2 q H12d.rd lq ?_;refine ρn ?_;refine nld (Jjg (H12d.f1 lq) (by rw [Jzc];exact nA')) ?_;refine ρn ?_;refine Jfd (cs:=[.slice A d d]) (λw' hg j u hu=>(Jqb hB12 hg nb).at hu) ?_;refine ρn ?_;refine nop ?_;refine cl (Jcq (l:=q+1) (li:=(q:Int)+1) H12d.rd (λl hl=>by obtain ⟨B,c,e,_⟩:=H12d.vform hl;exact ⟨B,c,e⟩) (by omega) hd) ?_;rintro u w13 ⟨rfl,hx13⟩;refine ρ ?_;refine Jqm (GrN.ext hx13) ?_;obtain ⟨nn,hnn⟩:∃ nn:Nat,nn=if q+1<d then (lvl m (q+1)).length else 0:=⟨_,rfl⟩
   rw [<-hnn];refine nop ?_;refine bsl (bs1Int' (nn:Int)) ?_;intro w14 b14 hx14 hb14 hk14;refine ρ ?_;refine Jqm (GrN.ext hx14) ?_;have hx1214:=hx13.trans hx14;have H14:=H12d.ext hx1214;have ho14:=H14.fst.own q lq;rw [if_neg (show ¬ q<q by omega)]at ho14;refine nop ?_;refine apb (base:=w6.heap.size) EI ho14 (hk14.rd (n:=1) rfl) (λu hu=>by rw [List.mem_singleton.1 hu];rfl) (by unfold maxLen;omega) (by omega) ?_ ?_
   ·have h1:=hx69.size;have h2:=hx10.size;have h3:=hg12d.size;have h4:=hx1214.size;omega
   intro v15 w15 ho15 hg15 hn15;refine ρ ?_;refine Jqm (GrN.by hg15 λj ej=>by rw [<-hown]at ej;exact ej) ?_;have er:Jzw (nz (fs q))++[.int .i64 (nn:Int)]=Jzw (nz (fs q++[nn])):=by simp [Jzw,nz]
   have el:(fs q).length+1=(fs q++[nn]).length:=by simp
   rw [er,el]at ho15;obtain ⟨c1,c2,c3,H16,hg16⟩:=H14.setF lq ho15 hg15 hn15;have L15:=Jjs H14.lev (H14.fst.own q lq) hg15 rfl;refine ρn ?_;refine Qyn 2 q (Rd.own L15) lq ?_;refine ρn ?_;refine Jkj ?_;refine sto c1 c2 ?_ (hv:=c3);refine ρ ?_;have hMn:∀ g,v15.ownBlock=some g->M g:=λg eg=>by
    rcases hn15 g eg with h'|h'
    ·exact hoM g (by rw [hown];exact h')
    ·rw [hM];have h1:=hx69.size;have h2:=hx10.size;have h3:=hg12d.size;have h4:=hx1214.size;have h5:=hB8'.lt;exact ⟨by omega,by rw [hAr];exact .inr (by omega),by omega⟩
   refine Jjj (q+1) (upd fv' q v15) sO ⟨by omega,H16.congr (λl hl=>rfl) (λl hl=>?_),?_,Qyh (M:=M) hM12 lq hMn⟩ (by omega)
   ·by_cases e:l=q
    ·subst e;rw [Jjp,if_pos (show l<l+1 by omega),hnn]
    ·rw [Jjl _ _ e];by_cases e2:l<q
     ·rw [if_pos e2,if_pos (show l<q+1 by omega)]
     ·rw [if_neg e2,if_neg (show ¬ l<q+1 by omega)]
   ·exact ((hg12d.trans (GrN.ext hx1214)).trans (GrN.by hg15 λj ej=>hoM j (by rw [hown];exact ej))).trans (GrN.by hg16 λj ej=>hM12 j (.inl ej))
  ·have eq:q=d:=by have:=of_decide_eq_false h;omega
   subst eq;have hB8q:=Jqb hB8' hg12 hM8;have hB2q:=Jqb hB2' hg12 hM2;refine ρ ?_;refine lds (cs:=[.slice A q q]) (λj u hu=>hB8q.at hu) ?_;refine ρ ?_;refine stb hB2q ?_ (one1 (A:=A) (n:=q) (c:=q));intro w13 hB13' hg13 hx13;refine ρ ?_;have hxw12:Ext w w12:=hg12.old hxw10 λj hj=>by rw [hM]at hj;exact Nat.le_trans hxw6.size hj.1
   refine Jyf hB13' ⟨hx13 w hxw12 (Nat.le_trans hx1.size hb2),_,rfl,⟨A,rfl⟩,?_⟩;have hoff:=H12.off (N:=λj=>j<w.heap.size∨j=b2) (λl hl=>?_) (λj hj hj'=>?_)
   ·refine (hoff.grown hg13 (λj ej=>.inr (by injection ej with ej;exact ej.symm))).mono λj _ hj=>.inl hj
   ·rw [if_pos (show l<q by omega),if_pos hl,Jfz];exact (hF11 l hl).close
   ·have h1:=hM12 j hj;rcases hj' with h'|h'
    ·rw [hM]at h1;have:=hxw6.size;omega
    ·subst h';exact hM2 h1
end Go.Proofs.YtefpailelagbkaaGreatDoor
namespace Go.Wk
open Go.RowKit
section
variable {N:Nat->Prop} {P:Program} {n:Nat} {al:AL} {w:World} {Q:Exit->Act->World->Prop} {ops:Array Oper} {rest:List Oper} {drest:List (Nat×Oper)}
variable {d ty:Nat} {op:Op} {pos:String} {aft:Array Edge} {tt:TT}
theorem Qhm(hT:TOk P tt){t t2 e:TypeId}{k:TK}{x:Operand}{p:Option Addr}(ht:tk tt t=some k)(hk:k.desc=.pointer e){a:Act}(ha:Fr n al a)(hx:ev al x=some (.pointer p))(dst:Option Nat)(w:World):
  (execOp a.eval ⟨dst,.binOp .eql t x (.const (.pointer none)) t2,ty,pos,aft,none⟩).run P w=.ok (.value (.bool p.isNone)) w:=by
 have hu:=Jcr hT ht hk rfl;have h:∀ d:Nat,(Op.equalIn (d+1) t (.pointer p) (.pointer none)).run P w=.ok p.isNone w:=λd=>by cases p<;>simp [Op.equalIn,run_underlying hu]
 have h2:a.eval (.const (.pointer none))=.pointer none:=rfl;simp [execOp,ha.ev hx,h2,eqGuard,binOp,Op.equal,Op.maxDepth,h 9999]
theorem Qhl(hT:TOk P tt){t t2 e:TypeId}{k:TK}{x:Operand}{p:Option Addr}(ht:tk tt t=some k)(hk:k.desc=.pointer e){a:Act}(ha:Fr n al a)(hx:ev al x=some (.pointer p))(dst:Option Nat)(w:World):
  (execOp a.eval ⟨dst,.binOp .neq t x (.const (.pointer none)) t2,ty,pos,aft,none⟩).run P w=.ok (.value (.bool (!p.isNone))) w:=by
 have hu:=Jcr hT ht hk rfl;have h:∀ d:Nat,(Op.equalIn (d+1) t (.pointer p) (.pointer none)).run P w=.ok p.isNone w:=λd=>by cases p<;>simp [Op.equalIn,run_underlying hu]
 have h2:a.eval (.const (.pointer none))=.pointer none:=rfl;simp [execOp,ha.ev hx,h2,eqGuard,binOp,Op.equal,Op.maxDepth,h 9999]
theorem pnl[h:Tab P tt]{t t2 e:TypeId}{k:TK}{x:Operand}{p:Option Addr}(kk:WL P n ops Q rest ((d,.bool p.isNone)::al) w)(ht:tk tt t=some k:=by rfl)(hk:k.desc=.pointer e:=by rfl)(hx:ev al x=some (.pointer p):=by rfl)(hd:Nat.blt d n=true:=by rfl):
  WL P n ops Q (⟨some d,.binOp .eql t x (.const (.pointer none)) t2,ty,pos,aft,none⟩::rest) al w:=wop hd (λa ha=>Qhm h.ok ht hk ha hx (some d) w) kk
theorem dpnl[h:Tab P tt]{t t2 e:TypeId}{k:TK}{x:Operand}{p:Option Addr}(kk:WD P n ops Q drest ((d,.bool p.isNone)::al) w)(ht:tk tt t=some k:=by rfl)(hk:k.desc=.pointer e:=by rfl)(hx:ev al x=some (.pointer p):=by rfl)(hd:Nat.blt d n=true:=by rfl):
  WD P n ops Q ((0,⟨some d,.binOp .eql t x (.const (.pointer none)) t2,ty,pos,aft,none⟩)::drest) al w:=dy (λw' _ a ha=>Qhm h.ok ht hk ha hx (some d) w') hd kk
theorem pnn[h:Tab P tt]{t t2 e:TypeId}{k:TK}{x:Operand}{p:Option Addr}(kk:WL P n ops Q rest ((d,.bool (!p.isNone))::al) w)(ht:tk tt t=some k:=by rfl)(hk:k.desc=.pointer e:=by rfl)(hx:ev al x=some (.pointer p):=by rfl)(hd:Nat.blt d n=true:=by rfl):
  WL P n ops Q (⟨some d,.binOp .neq t x (.const (.pointer none)) t2,ty,pos,aft,none⟩::rest) al w:=wop hd (λa ha=>Qhl h.ok ht hk ha hx (some d) w) kk
theorem dpnn[h:Tab P tt]{t t2 e:TypeId}{k:TK}{x:Operand}{p:Option Addr}(kk:WD P n ops Q drest ((d,.bool (!p.isNone))::al) w)(ht:tk tt t=some k:=by rfl)(hk:k.desc=.pointer e:=by rfl)(hx:ev al x=some (.pointer p):=by rfl)(hd:Nat.blt d n=true:=by rfl):
  WD P n ops Q ((0,⟨some d,.binOp .neq t x (.const (.pointer none)) t2,ty,pos,aft,none⟩)::drest) al w:=dy (λw' _ a ha=>Qhl h.ok ht hk ha hx (some d) w') hd kk
theorem nixa[h:Tab P tt]{x i:Operand}{t m e:Nat}{k:TK}{p:Addr}{kd:IntKind}{z:Int}(j:Nat)(hlt:j<m)(kk:WN N P n ops Q drest ((d,.pointer (some (p.add (j*k.esz))))::al) w)(ht:tk tt t=some k:=by rfl)(hk:k.desc=.array m e:=by rfl)(hx:ev al x=some (.pointer (some p)):=by rfl)(hi:ev al i=some (.int kd z):=by rfl)(hj:z=(j:Int):=by first|rfl|omega)(hd:Nat.blt d n=true:=by rfl): WN N P n ops Q ((0,⟨some d,.indexAddr t x i,ty,pos,aft,none⟩)::drest) al w :=
 ny_ (λw' _ a ha=>Qkg h.ok j ht hk hlt ha hx hi hj (some d) w') hd kk
theorem stB[h:Tab P tt]{x y:Operand}{t g bt o:Nat}{k:TK}{cs us:List Value}{p:Addr}(hb:Blk w g bt cs)(ho:o+us.length<=cs.length)(h1:∀ u∈us,u.oneCell'=true)(kk:∀ w1,Blk w1 g bt (cs.take o++us++cs.drop (o+us.length))->w.grownBy w1 (some g)->WL P n ops Q rest al w1)(ht:tk tt t=some k:=by rfl)(hk:k.desc=.invalid:=by rfl)(hs:k.size=us.length:=by rfl)(hx:ev al x=some (.pointer (some p)):=by rfl)(hp:p=⟨g,o,none⟩:=by rfl)(hy:ev al y=some (.agg us.toArray):=by rfl):
  WL P n ops Q (⟨none,.store t x y,ty,pos,aft,none⟩::rest) al w:=by
 subst hp;have hg:=Jzb w g (cs.take o++us++cs.drop (o+us.length)).toArray;have hst:=run_storeCells_at (P:=P) g o bt us 0 cs.toArray w hb (by simpa using ho) h1;simp only [Nat.add_zero]at hst;refine Xqp (λa ha=>?_) (kk (w.setRow g (cs.take o++us++cs.drop (o+us.length)).toArray) (setRow_heap w g _ _ _ _ hb) hg);have hsz:=Jqr w (Jvk h.ok ht hk w).2;simp [execOp,ha.ev hx,ha.ev hy,Instr.storeAt,Instr.sureAddr,storeVar,Value.cells,hsz,hs,hst]
end
theorem Qgc{P:Program}{n:Nat}{al:AL}{w:World}{Q Q':Exit->Act->World->Prop}{ops:Array Oper}{α β:Type}{d:Code}{l:List Oper}(fr:α->β->AL)(I:α->β->World->Prop)(h1:WL P n ops (Exit.then (λa w=>∃ x y,Fr n (fr x y) a/\I x y w) Q) l al w)(h2:∀ x y w,I x y w->WC P n d Q' (fr x y) w): WL P n ops (Exit.then (d.wp P Q') Q) l al w:=by
 intro a ha;refine Jww ?_ l a w (h1 a ha);intro e a' w' hq;cases e with
 | normal=>obtain ⟨x,y,h3,h4⟩:=hq;exact h2 x y w' h4 a' h3
 | exit id=>exact hq
 | goto l=>exact hq
 | ret=>exact hq
 | panic c=>exact hq
 | outgrown=>exact hq
theorem seg2{cs:List Value}{o:Nat}{u v:Value}(h:o+2<=cs.length): cs.take o++[u,v]++cs.drop (o+2)=(cs.set o u).set (o+1) v:=by
 apply List.ext_getElem?
 intro i;rw [List.getElem?_set,List.getElem?_set,List.append_assoc];rcases Nat.lt_trichotomy i o with hi|hi|hi
 ·rw [List.getElem?_append_left (by rw [List.length_take];omega),List.getElem?_take,if_pos hi,if_neg (by omega),if_neg (by omega)]
 ·subst hi;rw [List.getElem?_append_right (by rw [List.length_take];omega),List.length_take,Nat.min_eq_left (by omega),Nat.sub_self,if_neg (by omega),if_pos rfl,if_pos (by omega)];rfl
 ·rw [List.getElem?_append_right (by rw [List.length_take];omega),List.length_take,Nat.min_eq_left (by omega)];by_cases e:i=o+1
  ·subst e;rw [Nat.add_sub_cancel_left,if_pos rfl,if_pos (by rw [List.length_set];omega)];rfl
  ·rw [if_neg (by omega),if_neg (by omega),List.getElem?_append_right (by simp;omega),List.getElem?_drop];congr 1
   simp;omega
theorem Blk.sub{w:World}{g:Nat}{t:TypeId}{cs:List Value}(h:Blk w g t cs){i j:Nat}{v:Value}(hv:cs[i+j]?=some v): w.cell? ((⟨g,i,none⟩:Addr).add j)=some v:=by rw [Jzn,h.cell];exact hv
end Go.Wk
namespace Go.Proofs.YtefpailelagbkaaGreatDoor
open Go.RowKit Pl Go.Wk
attribute [local irreducible] WC WL QX WD WDB WP WN
def itC(A:Option Addr)(d L p e:Nat)(f h:Nat->Nat)(st:Int): List Value:=[.slice A d d,.int .i64 (L:Int),.int .i64 (p:Int),.int .i64 (e:Int)]++Jvq 32 (λk=>.int .i64 (f k:Int)) (λk=>.int .i64 (h k:Int))++[.int .i64 st]
theorem Jtf(A:Option Addr)(d L p e:Nat)(f h:Nat->Nat)(st:Int): (itC A d L p e f h st).length=69:=by
 simp only [itC,List.length_append,Jqg];rfl
theorem Qlw(A:Option Addr)(d L p e:Nat)(f h:Nat->Nat)(st:Int): (itC A d L p e f h st)[68]?=some (.int .i64 st):=by
 unfold itC;rw [List.getElem?_append_right (by rw [List.length_append,Jqg];simp),List.length_append,Jqg];rfl
theorem Qdp(A:Option Addr)(d L p e:Nat)(f h:Nat->Nat)(st st':Int): (itC A d L p e f h st).set 68 (.int .i64 st')=itC A d L p e f h st':=by
 unfold itC;rw [List.set_append_right _ _ (by rw [List.length_append,Jqg];simp),List.length_append,Jqg];rfl
theorem Xbk(A:Option Addr)(d L p e:Nat)(f h:Nat->Nat)(st:Int){k:Nat}(hk:k<32): (itC A d L p e f h st)[4+k*2]?=some (.int .i64 (f k:Int))/\(itC A d L p e f h st)[4+k*2+1]?=some (.int .i64 (h k:Int)):=by
 have h1:=Jkb 32 (λk=>.int .i64 (f k:Int)) (λk=>.int .i64 (h k:Int)) hk;unfold itC;constructor
 ·rw [List.getElem?_append_left (by rw [List.length_append,Jqg];simp;omega),List.getElem?_append_right (by simp)];rw [show 4+k*2 - [Value.slice A d d,.int .i64 (L:Int),.int .i64 (p:Int),.int .i64 (e:Int)].length=k*2 by simp];exact h1.1
 ·rw [List.getElem?_append_left (by rw [List.length_append,Jqg];simp;omega),List.getElem?_append_right (by simp;omega)];rw [show 4+k*2+1 - [Value.slice A d d,.int .i64 (L:Int),.int .i64 (p:Int),.int .i64 (e:Int)].length=k*2+1 by simp;omega];exact h1.2
theorem Qgn(f:Nat->Nat)(k x:Nat): (λj=>Value.int .i64 ((upd f k x j:Nat):Int))=upd (λj=>Value.int .i64 (f j:Int)) k (.int .i64 (x:Int)):=by
 funext j;unfold upd;split<;>rfl
theorem Qdq(A:Option Addr)(d L p e:Nat)(f h:Nat->Nat)(st:Int){k:Nat}(hk:k<32)(x y:Nat): ((itC A d L p e f h st).set (4+k*2) (.int .i64 (x:Int))).set (4+k*2+1) (.int .i64 (y:Int))=itC A d L p e (upd f k x) (upd h k y) st:=by
 unfold itC;have e1:∀ (X:List Value),([Value.slice A d d,.int .i64 (L:Int),.int .i64 (p:Int),.int .i64 (e:Int)]++X).set (4+k*2) (.int .i64 (x:Int))=[Value.slice A d d,.int .i64 (L:Int),.int .i64 (p:Int),.int .i64 (e:Int)]++X.set (k*2) (.int .i64 (x:Int)):=λX=>by
  rw [List.set_append_right _ _ (by simp)];congr 2;simp
 have e2:∀ (X:List Value),([Value.slice A d d,.int .i64 (L:Int),.int .i64 (p:Int),.int .i64 (e:Int)]++X).set (4+k*2+1) (.int .i64 (y:Int))=[Value.slice A d d,.int .i64 (L:Int),.int .i64 (p:Int),.int .i64 (e:Int)]++X.set (k*2+1) (.int .i64 (y:Int)):=λX=>by
  rw [List.set_append_right _ _ (by simp;omega)];congr 2;simp;omega
 rw [List.set_append_left _ _ (by rw [List.length_append,Jqg];simp;omega),e1,Jrl _ _ _ hk,List.set_append_left _ _ (by rw [List.length_append,Jqg];simp;omega),e2,Jrk _ _ _ hk,Qgn,Qgn]
abbrev ItB(w:World)(g:Nat)(A:Option Addr)(d L p e:Nat)(f h:Nat->Nat)(st:Int): Prop:=Blk w g 295 (itC A d L p e f h st)
def TriA(w:World)(A:Option Addr)(d:Nat)(rs:List Row): Prop:=∃ (vv fv:Nat->Value) (fs:Nat->List Nat),Rd w 2 A d (Jvq d vv fv)/\(∀ l,l<d->∃ B c,vv l=.slice B (lvl rs l).length c/\RdR w B (lvl rs l)) /\
 (∀ l,l<d->∃ B c,fv l=.slice B (fs l).length c/\Rd w 1 B (fs l).length (Jzw (nz (fs l))))/\∀ l,l+1<d->Chl rs l (fs l)
theorem TriV.a{w:World}{A:Option Addr}{d:Nat}{rs:List Row}(h:TriV w (.agg #[.slice A d d]) d rs): TriA w A d rs:=by
 obtain ⟨A',vv,fv,fs,h1,h2⟩:=h;injection h1 with h1
 have:Value.slice A d d=.slice A' d d:=by simpa using h1
 injection this with h1
 subst h1;exact ⟨vv,fv,fs,h2⟩
theorem TriA.ext{w w':World}{A:Option Addr}{d:Nat}{rs:List Row}(h:TriA w A d rs)(hx:Ext w w'): TriA w' A d rs:=by
 obtain ⟨vv,fv,fs,h2,h3,h4,h5⟩:=h;refine ⟨vv,fv,fs,h2.ext hx,λl hl=>?_,λl hl=>?_,h5⟩
 ·obtain ⟨B,c,e,hr⟩:=h3 l hl;exact ⟨B,c,e,Rd.ext hr hx⟩
 ·obtain ⟨B,c,e,hr⟩:=h4 l hl;exact ⟨B,c,e,hr.ext hx⟩
section
variable {w:World} {g:Nat} {A:Option Addr} {d L p e:Nat} {f h:Nat->Nat} {st:Int}
theorem Jkh(hB:ItB w g A d L p e f h st): Ret Tryz.prog 214 [.pointer (some ⟨g,0,none⟩)] w λu w'=>u=.bool (decide (0<L/\p<e))/\Ext w w':=by
 refine Jjb Tryz.func214 Tryz.ntmps214 rfl (by kernel_rfl) rfl ?_;refine ρ ?_;refine dr [(0,0),(0,1),(0,2),(0,3),(0,4),(0,5),(0,6),(0,7),(0,8),(0,9),(0,10),(0,11),(0,12),(0,13),(0,14),(0,15),(0,16),(0,17),(0,18),(0,19),(0,20),(0,21),(0,22)] (by kernel_rfl) ?_;have hx:Ext w w.drew:=(Ext.refl w).drew;have hB1:=hB.ext hx;refine ρd ?_;refine dpnn ?_;refine ρd ?_;refine dld (hB1.at (i:=1) rfl) ?_;refine ρd ?_;refine dki 12 (λh1=>?_) (λh1=>?_)
 ·have hL:0<L:=by have:=of_decide_eq_true h1;omega
  refine ρd ?_;refine dld (hB1.at (i:=2) rfl) ?_;refine ρd ?_;refine dld (hB1.at (i:=3) rfl) ?_;refine ρd ?_;refine ρ ?_;refine Jjq ⟨?_,hx⟩;congr 1
  exact decide_eq_decide.2 (by omega)
 ·have hL:¬ 0<L:=by have:=of_decide_eq_false h1;omega
  refine ρd ?_;refine ρ ?_;refine Jjq ⟨?_,hx⟩;congr 1
  exact (decide_eq_false (by omega)).symm
end
end Go.Proofs.YtefpailelagbkaaGreatDoor
