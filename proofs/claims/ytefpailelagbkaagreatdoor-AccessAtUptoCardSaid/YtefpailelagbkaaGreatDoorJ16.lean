/- Part 16 of the proof: Tri4, Ptr, It, It2. -/
import Derived.Test.YtefpailelagbkaaGreatDoorJ15
import Derived.Laws.CopyRow
set_option linter.unusedVariables false
set_option maxRecDepth 100000
set_option maxHeartbeats 40000000
namespace Go.Proofs.YtefpailelagbkaaGreatDoor
open Go.RowKit Pl Go.Wk
attribute [local irreducible] WC WL QX WD WDB WP WN
theorem pm_range{r:Row}{d:Nat}(h:r.length=d): pmR (List.range d) r=r:=by
 apply List.ext_getElem
 ·simp [pmR,h]
 ·intro i h1 h2;simp [pmR,List.getD,List.getElem?_eq_getElem h2]
theorem TriB.nil(w:World)(base:Nat){A:Option Addr}{d:Nat}(hl:w.ownsRow base 289 2 (.slice A d d) d (Jvv d (λ_=>.slice none 0 0) (λ_=>.slice none 0 0))): TriB w base A d (λ_=>.slice none 0 0) (λ_=>.slice none 0 0) (λ_=>[]) (λ_=>[]) :=
 ⟨hl,⟨λi hi=>Jxk _ _ _ _,λi j g _ _ _ e=>by cases e⟩,⟨λi hi=>Jxk _ _ _ _,λi j g _ _ _ e=>by cases e⟩⟩
theorem lvl_bound{rs:List Row}(l:Nat): (lvl rs l).length<=rs.length:=by
 rw [lvl_len];have:=ddF_len (rs.map (List.take (l+1)));rw [List.length_map]at this;exact this
theorem stp_le{rs:List Row}{x:Row}: stp rs x<=x.length:=by
 unfold stp;split
 ·exact (shr_le _ _).2
 ·exact Nat.zero_le _
theorem triNew_any{w:World}{v vc:Value}{d:Nat}{ls:List Row}(hrel:RelV w v d ls)(hlt:Lt [] ls)(hlen:∀ r∈ls,r.length=d)(hc:IntsV w vc (nz (List.range d)))(hd:d<=32)(hbig:ls.length<=65536):
  Ret Tryz.prog 192 [v,vc] w λu w'=>Ext w w'/\∃ t,u=.tuple #[t,.int .i64 0]/\(∃ A,t=.agg #[.slice A d d])/\Off (λk=>k<w.heap.size) w' (λx=>TriV x t d ls):=by
 obtain ⟨C,cc,rfl,hcc,hcm,hcr⟩:=id hc;obtain ⟨rv,rfl,hrows⟩:=id hrel;obtain ⟨ps0,A0,c0,_,rfl,_⟩:=id hrows;have hcl:(nz (List.range d)).length=d:=by rw [Jqc,List.length_range]
 rw [hcl]at hc hcc hcm hcr ⊢;have cget:∀ {k:Nat},k<d->(List.range d).getD k 0=k:=fun {k} hk=>by simp [List.getD,hk]
 have hcell:∀ {k:Nat},k<d->(Jzx (nz (List.range d)))[k]?=some (.int .i64 (k:Int)):=fun {k} hk=>by
  have:=Jxz (cs:=List.range d) (i:=k) (by rw [List.length_range];exact hk);rw [cget hk]at this;exact this
 refine Jjb Tryz.func192 Tryz.ntmps192 rfl (by kernel_rfl) rfl ?_;refine ρ ?_;refine bx (cs:=[.int .i64 (d:Int),.slice A0 ps0.length c0]) ?_;intro w1 b1 hx1 hb1 hB1;refine ρ ?_;refine alc (cs:=[.slice none 0 0]) zTrie ?_;intro w2 b2 hx2 hb2 hB2;have hxw2:=hx1.trans hx2;refine ρ ?_;refine Jqp (fun (k:Nat)=>[(1,.slice C d cc),(2,.pointer (some ⟨b1,0,none⟩)),(4,.pointer (some ⟨b2,0,none⟩)),(15,.slice C d cc),(16,.int .i64 (d:Int)),(17,.int .i64 (k:Int))]) (λk w'=>Ext w2 w'/\k<=d) (λk=>d-k) 0 sB ⟨Ext.refl _,Nat.zero_le _⟩ ?_;rintro k w3 ⟨hx3,hk⟩;have hxw3:=hxw2.trans hx3;have hB13:=(hB1.ext hx2).ext hx3;refine ρ ?_;refine ci (λh=>?_) (λh=>?_)
 ·have lk:k<d:=by have:=of_decide_eq_true h;omega
  have hcr3:=hcr.ext hxw3;refine ρ ?_;refine ix k hcr3 lk ?_;refine ρ ?_;refine ld (hcr3.cell (hcell lk)) ?_;refine ρ ?_;refine kf 24 ?_ ?_
  ·exact decide_eq_false (by omega)
  refine ρ ?_;refine lds (cs:=[.int .i64 (d:Int),.slice A0 ps0.length c0]) (λj u hu=>hB13.at hu) ?_;refine ρ ?_;refine cl (Jyx (hrel.ext hxw3)) ?_;rintro u w4 ⟨rfl,hx4⟩;refine ρ ?_;refine cf ?_ ?_
  ·exact decide_eq_false (by omega)
  refine ρ ?_;refine slh k ?_;refine ρ ?_;have hRk:Rd w4 1 C k (Jzx ((nz (List.range d)).take k)):=by
   have:=(hcr3.ext hx4).take (m:=k) (by omega);rw [Nat.mul_one]at this;have e:Jzx ((nz (List.range d)).take k)=(Jzx (nz (List.range d))).take k:=by simp [Jzx]
   rw [e];exact this
  refine cl (containsInt_any (t:=(k:Int)) hRk (by rw [List.length_take,hcl];omega) (by omega)) ?_;rintro u w5 ⟨rfl,t,rfl,ht⟩;have htf:t=false:=by
   cases t with
   | false=>rfl
   | true=>
    exfalso
    have hm:=ht.1 rfl;obtain ⟨i,hi,e⟩:=List.getElem_of_mem hm;rw [List.length_take,hcl]at hi;have:((nz (List.range d)).take k)[i]'(by rw [List.length_take,hcl];exact hi)=(i:Int):=by simp [nz]
    rw [this]at e;omega
  refine ρ ?_;refine cf htf ?_;refine ρ ?_;exact Jjs (k+1) sO ⟨hx3.trans hx4,by omega⟩ (by omega)
 clear h;have hm0:ls.map (pmR (List.range d))=ls:=by
  conv=>rhs;rw [<-List.map_id ls]
  exact List.map_congr_left λr hr=>by rw [pm_range (hlen r hr)];rfl
 refine ρ ?_;refine lds (cs:=[.int .i64 (d:Int),.slice A0 ps0.length c0]) (λj u hu=>hB13.at hu) ?_;refine ρ ?_;refine cl (Qqj (cs:=List.range d) (hrel.ext hxw3) (hc.ext hxw3) hlen (λc hc=>List.mem_range.1 hc) (by rw [List.length_range];exact hd) hbig) ?_;rintro u w4 ⟨hx4,pv,rfl,⟨pz,pB,pm,pd,rfl⟩,m,hm1,hm2,hm3,hm4⟩;have hml:m=ls:=by
  have:=hm4 (.inr (by rw [hm0];exact Qqn hlt));rw [hm0]at this;exact Qjl this.1 hlt this.2
 subst hml;rw [List.length_range]at hm1;have hxw4:=hxw3.trans hx4;refine ρ ?_;refine alc (cs:=[.int .i64 0,.slice none 0 0]) zRel ?_;intro w5 b5 hx5 hb5 hB5;refine ρ ?_;refine stb hB5 ?_ (one2 (z:=pz) (A:=pB) (n:=pm) (c:=pd));intro w6 hB6 hg6 hx6;have hx46:Ext w4 w6:=hx6 w4 hx5 hb5;have hxw6:=hxw4.trans hx46;have hR6:RelV w6 (.agg #[.int .i64 pz,.slice pB pm pd]) d m:=hm1.here.ext hx46;refine ρ ?_;refine mkn EL d (by omega) (by unfold maxLen;omega) ?_;intro w7 A hx7 ho7 hO;rw [made2]at ho7;refine ρ ?_;refine bld (bld1Trie A d d _) ?_;refine ρ ?_;refine alc (cs:=[.slice none 0 0]) zTrie ?_;intro w8 b8 hx8 hb8 hB8;refine ρ ?_;refine stb hB8 ?_ (one1 (A:=A) (n:=d) (c:=d));intro w9 hB9 hg9 hx9;have hx79:Ext w7 w9:=hx9 w7 hx8 hb8;have hx69:=hx7.trans hx79;have hxw9:=hxw6.trans hx69;have hT9:=TriB.nil w9 w6.heap.size (Jjc ho7 hx79);have hlev:∀ j,(Value.slice A d d).ownBlock=some j->w6.heap.size<=j/\j<w7.heap.size:=by
  obtain ⟨_,_,_,_,hf⟩:=Jjd ho7;exact hf
 refine ρ ?_;refine lds (cs:=[.int .i64 pz,.slice pB pm pd]) (λj u hu=>(hB6.ext hx69).at hu) ?_;refine ρ ?_;refine cl (relRows_any (hR6.ext hx69)) ?_;rintro u w10 ⟨hx10,hrow10⟩;obtain ⟨ps,R,rc,hls,rfl,hrle,hrmx,hRR,hRV⟩:=hrow10;have hps:ps.length=m.length:=by rw [hls,List.length_map]
 generalize hn:ps.length=n at *
 have hget:∀ i,m.getD i []=(ps.getD i z0).2:=λi=>by rw [hls];exact ls_get
 have hxw10:=hxw9.trans hx10;obtain ⟨Ar,hAr⟩:∃ Ar:Nat->Prop,Ar=λj=>j<w9.heap.size∨w10.heap.size<=j:=⟨_,rfl⟩;have hRA:Off Ar w10 (λu=>Rd u 1 R n (ps.map (·.1))):=hRR.mono λj hj hj'=>by rw [hAr]at hj';omega
 have hVA:∀ p∈ps,Off Ar w10 (λu=>RowV u p.1 p.2):=λp hp=>(hRV p hp).mono λj hj hj'=>by rw [hAr]at hj';omega
 have hB8':=hB9.ext hx10;have hB2':=(((((hB2.ext hx3).ext hx4).ext hx46).ext hx69).ext hx10);obtain ⟨M,hM⟩:∃ M:Nat->Prop,M=λj=>w6.heap.size<=j/\Ar j/\j≠b8:=⟨_,rfl⟩;have hMA:∀ j,M j->Ar j:=λj hj=>by rw [hM]at hj;exact hj.2.1
 have hM8:¬ M b8:=λe=>by rw [hM]at e;exact e.2.2 rfl
 have hM2:¬ M b2:=λe=>by
  rw [hM]at e;have h1:=hB2.lt;have h2:=hx3.size;have h3:=hx4.size;have h4:=hx46.size;omega
 refine ρ ?_;refine Jzk (fun (k:Nat) (vv fv:Nat->Value)=>[(4,.pointer (some ⟨b2,0,none⟩)),(10,.pointer (some ⟨b8,0,none⟩)),(11,if k=0 then .slice none 0 0 else (ps.getD (k-1) z0).1),(53,.slice R n rc),(54,.int .i64 (n:Int)),(55,.int .i64 (k:Int))])
  (λk vv fv w'=>k<=n/\(∃ fs,TriB w' w6.heap.size A d vv fv (lvl (m.take k)) fs/\(∀ l,l<d->(fs l).length=(lvl (m.take k) l).length)/\∀ l,l+1<d->Fst (m.take k) l (fs l))/\GrN M w10 w'/\∀ j,ownT A d vv fv j->M j) (λk _ _=>n-k) 0 (λ_=>.slice none 0 0) (λ_=>.slice none 0 0) sB
  ⟨Nat.zero_le _,⟨λ_=>[],(hT9.ext hx10).congr (λl hl=>rfl) (λl hl=>rfl),λl hl=>rfl,λl hl=>Fst.nil l⟩,GrN.refl _ _,λj hj=>?_⟩ ?_
 ·rcases hj with e|⟨l,_,e|e⟩
  ·have:=hlev j e;rw [hM];refine ⟨this.1,by rw [hAr];exact .inl (Nat.lt_of_lt_of_le this.2 hx79.size),λe2=>?_⟩;subst e2;omega
  ·cases e
  ·cases e
 rintro k vv fv w11 ⟨hk,⟨fs,H11,hfl,hF11⟩,hg11,hM11⟩;have hg11A:GrN Ar w10 w11:=hg11.mono λj _ hj=>hMA j hj;refine ρ ?_;refine ci (λh=>?_) (λh=>?_)
 ·have lk:k<n:=by have:=of_decide_eq_true h;omega
  have lkm:k<m.length:=by omega
  clear h;have hR11:=hRA w11 hg11A;have hV11:RowV w11 (ps.getD k z0).1 (m.getD k []):=by rw [hget];exact hVA _ (Jwc hn lk) w11 hg11A
  have hxl:(m.getD k []).length=d:=hlen _ (getD_mem' [] m lkm);have hL11:∃ y,RowV w11 (if k=0 then .slice none 0 0 else (ps.getD (k-1) z0).1) y/\(y=[]∨y.length=(m.getD k []).length)/\shr y (m.getD k [])=stp (m.take k) (m.getD k []):=by
   by_cases e:k=0
   ·subst e;rw [if_pos rfl];exact ⟨[],RowV.nil _ _ _,.inl rfl,by rw [shr_nil];rfl⟩
   ·rw [if_neg e];have lk1:k-1<n:=by omega
    refine ⟨m.getD (k-1) [],by rw [hget];exact hVA _ (Jwc hn lk1) w11 hg11A,.inr (by rw [hxl];exact hlen _ (getD_mem' [] m (by omega))),?_⟩;have e2:(m.take k).getLast?=some (m.getD (k-1) []):=by
     rw [List.getLast?_eq_getElem?,List.length_take,Nat.min_eq_left (by omega),List.getElem?_take,if_pos (by omega),Jjh [] m (by omega),List.getElem?_eq_getElem (by omega)]
    unfold stp;rw [e2]
  obtain ⟨y,hy1,hy2,hy3⟩:=hL11;have htk:m.take (k+1)=m.take k++[m.getD k []]:=Jjm [] lkm;have hlt1:Lt [] (m.take k++[m.getD k []]):=by rw [<-htk];exact List.Pairwise.sublist (List.take_sublist _ _) hlt
  have hlen1:∀ r∈m.take k++[m.getD k []],r.length=d:=by rw [<-htk];exact λr hr=>hlen r (List.mem_of_mem_take hr)
  refine ρ ?_;refine ix k hR11 lk ?_;refine ρ ?_;refine ld (rd_at hR11 hn lk) ?_;refine ρ ?_;refine drN (λ_=>False) 4 [(0,0),(0,1),(0,2),(0,3),(1,4),(2,5)] (by kernel_rfl) ?_;have hxd:Ext w11 w11.drew:=(Ext.refl w11).drew;have hg11d:=hg11.trans (GrN.ext hxd);have hB11:=Jqb hB8' hg11d hM8;refine ρn ?_;refine nlds (cs:=[.slice A d d]) (λw' hg j u hu=>(Jqb hB11 hg (λe=>e)).at hu) ?_;refine ρn ?_;refine nop ?_;refine cl (triShared_any (hy1.ext hxd) (hV11.ext hxd) hy2) ?_;rintro u w12 ⟨rfl,hx12⟩;refine ρ ?_;refine Jql (GrN.ext hx12) ?_;rw [hy3];have hx1112:=hxd.trans hx12;have H12:=H11.ext hx1112;have hg12:=hg11.trans (GrN.ext hx1112);have hxoff:Off (ownT A d vv fv) w12 (λu=>RowV u (ps.getD k z0).1 (m.getD k [])):=λu hu=>by
   rw [hget];exact hVA _ (Jwc hn lk) u ((hg12.mono λj _ hj=>hMA j hj).trans (hu.mono λj _ hj=>hMA j (hM11 j hj)))
  refine Jkm ?_;refine cl (triAdd_any (s:=stp (m.take k) (m.getD k [])) H12 hxoff hxl hd (by have:=stp_le (rs:=m.take k) (x:=m.getD k []);omega) ?_ ?_) ?_
  ·have h1:=hx69.size;have h2:=hx10.size;have h3:=hg12.size;omega
  ·intro l hl;have h1:=lvl_bound (rs:=m.take k) l;rw [List.length_take]at h1;have h2:=hfl l hl;omega
  rintro u w13 ⟨vv',fv',H13,hg13,hM13⟩;refine ρ ?_;refine Jqf (k+1) vv' fv' (by repeat' (first|exact Sub.nil|refine Sub.cons (by first|rfl|(refine congrArg (λz=>some (Value.int .i64 z)) ?_;omega)|(rw [if_neg (Nat.succ_ne_zero k)];rfl)) ?_)) ⟨by omega,⟨_,H13.congr (vs':=lvl (m.take (k+1))) (λl hl=>?_) (λl hl=>rfl),λl hl=>?_,λl hl=>?_⟩,hg12.trans (hg13.mono λj _ hj=>hM11 j hj),λj hj=>?_⟩ (by omega)
  ·rw [htk,lvl_step hlt1 hlen1 hl];by_cases e:stp (m.take k) (m.getD k [])<=l
   ·rw [if_pos e,if_neg (by omega)]
   ·rw [if_neg e,if_pos (by omega)]
  ·rw [htk,lvl_step hlt1 hlen1 hl];by_cases e:stp (m.take k) (m.getD k [])<=l
   ·rw [if_pos e,if_neg (show ¬ l+1<=stp (m.take k) (m.getD k []) by omega),List.length_append,List.length_append,hfl l hl];rfl
   ·rw [if_neg e,if_pos (by omega)];exact hfl l hl
  ·rw [htk];by_cases e:stp (m.take k) (m.getD k [])<=l
   ·rw [if_pos e,if_pos hl,lvl_len];exact (hF11 l hl).more hlt1 hlen1 e
   ·rw [if_neg e];exact (hF11 l hl).keep hlt1 hlen1 (by omega)
  ·rcases hM13 j hj with h'|h'
   ·exact hM11 j h'
   ·rw [hM];have h1:=hx69.size;have h2:=hx10.size;have h3:=hg12.size;have h4:=hB8'.lt;exact ⟨by omega,by rw [hAr];exact .inr (by omega),by omega⟩
 ·have ek:k=n:=by have:=of_decide_eq_false h;omega
  subst ek;rw [List.take_of_length_le (by omega)]at H11 hfl hF11;have hB11:=Jqb hB8' hg11 hM8;refine ρ ?_;refine ld (hB11.at (i:=0) rfl) ?_;refine ρ ?_;refine Jjv (fun (k:Nat) (fv:Nat->Value)=>[(4,.pointer (some ⟨b2,0,none⟩)),(10,.pointer (some ⟨b8,0,none⟩)),(69,.int .i64 (d:Int)),(70,.int .i64 (k:Int))])
   (λq fv' w'=>q<=d/\TriB w' w6.heap.size A d vv fv' (lvl m) (λl=>if l<q then fs l++[if l+1<d then (lvl m (l+1)).length else 0] else fs l)/\GrN M w10 w'/\∀ j,ownT A d vv fv' j->M j) (λq _=>d-q) 0 fv sB
   ⟨Nat.zero_le _,H11.congr (λl hl=>rfl) (λl hl=>by rw [if_neg (by omega)]),hg11,hM11⟩ ?_
  clear hB11 hM11 hg11A hg11;rintro q fv' w12 ⟨hq,H12,hg12,hM12⟩;refine ρ ?_;refine ci (λh=>?_) (λh=>?_)
  ·have lq:q<d:=by have:=of_decide_eq_true h;omega
   clear h;have hflq:=hfl q lq;have hbq:=lvl_bound (rs:=m) q;obtain ⟨own,hown⟩:∃ own,own=(fv' q).ownBlock:=⟨_,rfl⟩;have hoM:∀ j,own=some j->M j:=λj ej=>hM12 j (.inr ⟨q,lq,.inr (by rw [<-hown];exact ej)⟩);refine ρ ?_;refine drN (one own) 4 [(0,0),(0,1),(0,2),(0,3),(0,4),(0,5),(0,6),(0,7),(0,8),(0,9),(0,10),(0,11),(1,12),(1,13),(1,14),(0,15),(0,16),(2,17)] (by kernel_rfl) ?_;have hxd:Ext w12 w12.drew:=(Ext.refl w12).drew;have H12d:=H12.ext hxd;have hg12d:=hg12.trans (GrN.ext hxd);have hB12:=Jqb hB8' hg12d hM8;have nb:¬ one own b8:=λe=>hM8 (hoM b8 e);have nA':¬ one own (adr A (q*2)).block:=by
    obtain ⟨ad,e,_⟩:=H12d.rd.isome (by omega) (by omega);subst e;simp only [adr,Option.getD_some,Jzf];intro h';exact own_ne H12d.lev (H12d.fst.own q lq) rfl rfl (by rw [<-hown];exact h')
   refine ρn ?_;refine nld (Jjg (hB12.at (i:=0) rfl) nb) ?_;refine ρn ?_;refine nld (Jjg (hB12.at (i:=0) rfl) nb) ?_;refine ρn ?_;refine nixq 2 q H12d.rd lq ?_;refine ρn ?_;refine nld (Jjg (H12d.f1 lq) (by rw [Jzf];exact nA')) ?_;refine ρn ?_;refine nlds (cs:=[.slice A d d]) (λw' hg j u hu=>(Jqb hB12 hg nb).at hu) ?_;refine ρn ?_;refine nop ?_;refine cl (triSize_any (l:=q+1) (li:=(q:Int)+1) H12d.rd (λl hl=>by obtain ⟨B,c,e,_⟩:=H12d.vform hl;exact ⟨B,c,e⟩) (by omega) hd) ?_;rintro u w13 ⟨rfl,hx13⟩;refine ρ ?_;refine Jql (GrN.ext hx13) ?_;obtain ⟨nn,hnn⟩:∃ nn:Nat,nn=if q+1<d then (lvl m (q+1)).length else 0:=⟨_,rfl⟩
   rw [<-hnn];refine nop ?_;refine bsl (bs1Int' (nn:Int)) ?_;intro w14 b14 hx14 hb14 hk14;refine ρ ?_;refine Jql (GrN.ext hx14) ?_;have hx1214:=hx13.trans hx14;have H14:=H12d.ext hx1214;have ho14:=H14.fst.own q lq;rw [if_neg (show ¬ q<q by omega)]at ho14;refine nop ?_;refine apb (base:=w6.heap.size) EI ho14 (hk14.rd (n:=1) rfl) (λu hu=>by rw [List.mem_singleton.1 hu];rfl) (by unfold maxLen;omega) (by omega) ?_ ?_
   ·have h1:=hx69.size;have h2:=hx10.size;have h3:=hg12d.size;have h4:=hx1214.size;omega
   intro v15 w15 ho15 hg15 hn15;refine ρ ?_;refine Jql (GrN.by hg15 λj ej=>by rw [<-hown]at ej;exact ej) ?_;have er:Jzx (nz (fs q))++[.int .i64 (nn:Int)]=Jzx (nz (fs q++[nn])):=by simp [Jzx,nz]
   have el:(fs q).length+1=(fs q++[nn]).length:=by simp
   rw [er,el]at ho15;obtain ⟨c1,c2,c3,H16,hg16⟩:=H14.setF lq ho15 hg15 hn15;have L15:=Jjt H14.lev (H14.fst.own q lq) hg15 rfl;refine ρn ?_;refine nixq 2 q (Rd.own L15) lq ?_;refine ρn ?_;refine Jkm ?_;refine sto c1 c2 ?_ (hv:=c3);refine ρ ?_;have hMn:∀ g,v15.ownBlock=some g->M g:=λg eg=>by
    rcases hn15 g eg with h'|h'
    ·exact hoM g (by rw [hown];exact h')
    ·rw [hM];have h1:=hx69.size;have h2:=hx10.size;have h3:=hg12d.size;have h4:=hx1214.size;have h5:=hB8'.lt;exact ⟨by omega,by rw [hAr];exact .inr (by omega),by omega⟩
   refine Jjj (q+1) (upd fv' q v15) sO ⟨by omega,H16.congr (λl hl=>rfl) (λl hl=>?_),?_,ownT_upF (M:=M) hM12 lq hMn⟩ (by omega)
   ·by_cases e:l=q
    ·subst e;rw [Jjp,if_pos (show l<l+1 by omega),hnn]
    ·rw [Jjl _ _ e];by_cases e2:l<q
     ·rw [if_pos e2,if_pos (show l<q+1 by omega)]
     ·rw [if_neg e2,if_neg (show ¬ l<q+1 by omega)]
   ·exact ((hg12d.trans (GrN.ext hx1214)).trans (GrN.by hg15 λj ej=>hoM j (by rw [hown];exact ej))).trans (GrN.by hg16 λj ej=>hM12 j (.inl ej))
  ·have eq:q=d:=by have:=of_decide_eq_false h;omega
   subst eq;have hB8q:=Jqb hB8' hg12 hM8;have hB2q:=Jqb hB2' hg12 hM2;refine ρ ?_;refine lds (cs:=[.slice A q q]) (λj u hu=>hB8q.at hu) ?_;refine ρ ?_;refine stb hB2q ?_ (one1 (A:=A) (n:=q) (c:=q));intro w13 hB13' hg13 hx13;refine ρ ?_;have hxw12:Ext w w12:=hg12.old hxw10 λj hj=>by rw [hM]at hj;exact Nat.le_trans hxw6.size hj.1
   refine Jyk hB13' ⟨hx13 w hxw12 (Nat.le_trans hx1.size hb2),_,rfl,⟨A,rfl⟩,?_⟩;have hoff:=H12.off (N:=λj=>j<w.heap.size∨j=b2) (λl hl=>?_) (λj hj hj'=>?_)
   ·refine (hoff.grown hg13 (λj ej=>.inr (by injection ej with ej;exact ej.symm))).mono λj _ hj=>.inl hj
   ·rw [if_pos (show l<q by omega),if_pos hl,lvl_len];exact (hF11 l hl).close
   ·have h1:=hM12 j hj;rcases hj' with h'|h'
    ·rw [hM]at h1;have:=hxw6.size;omega
    ·subst h';exact hM2 h1
end Go.Proofs.YtefpailelagbkaaGreatDoor
namespace Go.Wk
open Go.RowKit
section
variable {N:Nat->Prop} {P:Program} {n:Nat} {al:AL} {w:World} {Q:Exit->Act->World->Prop} {ops:Array Oper} {rest:List Oper} {drest:List (Nat×Oper)}
variable {d ty:Nat} {op:Op} {pos:String} {aft:Array Edge} {tt:TT}
theorem run_pnl(hT:TOk P tt){t t2 e:TypeId}{k:TK}{x:Operand}{p:Option Addr}(ht:tk tt t=some k)(hk:k.desc=.pointer e){a:Act}(ha:Fr n al a)(hx:ev al x=some (.pointer p))(dst:Option Nat)(w:World):
  (execOp a.eval ⟨dst,.binOp .eql t x (.const (.pointer none)) t2,ty,pos,aft,none⟩).run P w=.ok (.value (.bool p.isNone)) w:=by
 have hu:=tk_is hT ht hk rfl;have h:∀ d:Nat,(Op.equalIn (d+1) t (.pointer p) (.pointer none)).run P w=.ok p.isNone w:=λd=>by cases p<;>simp [Op.equalIn,run_underlying hu]
 have h2:a.eval (.const (.pointer none))=.pointer none:=rfl;simp [execOp,ha.ev hx,h2,eqGuard,binOp,Op.equal,Op.maxDepth,h 9999]
theorem run_pnn(hT:TOk P tt){t t2 e:TypeId}{k:TK}{x:Operand}{p:Option Addr}(ht:tk tt t=some k)(hk:k.desc=.pointer e){a:Act}(ha:Fr n al a)(hx:ev al x=some (.pointer p))(dst:Option Nat)(w:World):
  (execOp a.eval ⟨dst,.binOp .neq t x (.const (.pointer none)) t2,ty,pos,aft,none⟩).run P w=.ok (.value (.bool (!p.isNone))) w:=by
 have hu:=tk_is hT ht hk rfl;have h:∀ d:Nat,(Op.equalIn (d+1) t (.pointer p) (.pointer none)).run P w=.ok p.isNone w:=λd=>by cases p<;>simp [Op.equalIn,run_underlying hu]
 have h2:a.eval (.const (.pointer none))=.pointer none:=rfl;simp [execOp,ha.ev hx,h2,eqGuard,binOp,Op.equal,Op.maxDepth,h 9999]
theorem pnl[h:Tab P tt]{t t2 e:TypeId}{k:TK}{x:Operand}{p:Option Addr}(kk:WL P n ops Q rest ((d,.bool p.isNone)::al) w)(ht:tk tt t=some k:=by rfl)(hk:k.desc=.pointer e:=by rfl)(hx:ev al x=some (.pointer p):=by rfl)(hd:Nat.blt d n=true:=by rfl):
  WL P n ops Q (⟨some d,.binOp .eql t x (.const (.pointer none)) t2,ty,pos,aft,none⟩::rest) al w:=wop hd (λa ha=>run_pnl h.ok ht hk ha hx (some d) w) kk
theorem dpnl[h:Tab P tt]{t t2 e:TypeId}{k:TK}{x:Operand}{p:Option Addr}(kk:WD P n ops Q drest ((d,.bool p.isNone)::al) w)(ht:tk tt t=some k:=by rfl)(hk:k.desc=.pointer e:=by rfl)(hx:ev al x=some (.pointer p):=by rfl)(hd:Nat.blt d n=true:=by rfl):
  WD P n ops Q ((0,⟨some d,.binOp .eql t x (.const (.pointer none)) t2,ty,pos,aft,none⟩)::drest) al w:=dy (λw' _ a ha=>run_pnl h.ok ht hk ha hx (some d) w') hd kk
theorem pnn[h:Tab P tt]{t t2 e:TypeId}{k:TK}{x:Operand}{p:Option Addr}(kk:WL P n ops Q rest ((d,.bool (!p.isNone))::al) w)(ht:tk tt t=some k:=by rfl)(hk:k.desc=.pointer e:=by rfl)(hx:ev al x=some (.pointer p):=by rfl)(hd:Nat.blt d n=true:=by rfl):
  WL P n ops Q (⟨some d,.binOp .neq t x (.const (.pointer none)) t2,ty,pos,aft,none⟩::rest) al w:=wop hd (λa ha=>run_pnn h.ok ht hk ha hx (some d) w) kk
theorem dpnn[h:Tab P tt]{t t2 e:TypeId}{k:TK}{x:Operand}{p:Option Addr}(kk:WD P n ops Q drest ((d,.bool (!p.isNone))::al) w)(ht:tk tt t=some k:=by rfl)(hk:k.desc=.pointer e:=by rfl)(hx:ev al x=some (.pointer p):=by rfl)(hd:Nat.blt d n=true:=by rfl):
  WD P n ops Q ((0,⟨some d,.binOp .neq t x (.const (.pointer none)) t2,ty,pos,aft,none⟩)::drest) al w:=dy (λw' _ a ha=>run_pnn h.ok ht hk ha hx (some d) w') hd kk
theorem nixa[h:Tab P tt]{x i:Operand}{t m e:Nat}{k:TK}{p:Addr}{kd:IntKind}{z:Int}(j:Nat)(hlt:j<m)(kk:WN N P n ops Q drest ((d,.pointer (some (p.add (j*k.esz))))::al) w)(ht:tk tt t=some k:=by rfl)(hk:k.desc=.array m e:=by rfl)(hx:ev al x=some (.pointer (some p)):=by rfl)(hi:ev al i=some (.int kd z):=by rfl)(hj:z=(j:Int):=by first|rfl|omega)(hd:Nat.blt d n=true:=by rfl): WN N P n ops Q ((0,⟨some d,.indexAddr t x i,ty,pos,aft,none⟩)::drest) al w :=
 ny_ (λw' _ a ha=>run_ixa h.ok j ht hk hlt ha hx hi hj (some d) w') hd kk
theorem stB[h:Tab P tt]{x y:Operand}{t g bt o:Nat}{k:TK}{cs us:List Value}{p:Addr}(hb:Blk w g bt cs)(ho:o+us.length<=cs.length)(h1:∀ u∈us,u.oneCell'=true)(kk:∀ w1,Blk w1 g bt (cs.take o++us++cs.drop (o+us.length))->w.grownBy w1 (some g)->WL P n ops Q rest al w1)(ht:tk tt t=some k:=by rfl)(hk:k.desc=.invalid:=by rfl)(hs:k.size=us.length:=by rfl)(hx:ev al x=some (.pointer (some p)):=by rfl)(hp:p=⟨g,o,none⟩:=by rfl)(hy:ev al y=some (.agg us.toArray):=by rfl):
  WL P n ops Q (⟨none,.store t x y,ty,pos,aft,none⟩::rest) al w:=by
 subst hp;have hg:=Jzd w g (cs.take o++us++cs.drop (o+us.length)).toArray;have hst:=run_storeCells_at (P:=P) g o bt us 0 cs.toArray w hb (by simpa using ho) h1;simp only [Nat.add_zero]at hst;refine wopn (λa ha=>?_) (kk (w.setRow g (cs.take o++us++cs.drop (o+us.length)).toArray) (setRow_heap w g _ _ _ _ hb) hg);have hsz:=Jqs w (Jvp h.ok ht hk w).2;simp [execOp,ha.ev hx,ha.ev hy,Instr.storeAt,Instr.sureAddr,storeVar,Value.cells,hsz,hs,hst]
end
theorem wljoin2{P:Program}{n:Nat}{al:AL}{w:World}{Q Q':Exit->Act->World->Prop}{ops:Array Oper}{α β:Type}{d:Code}{l:List Oper}(fr:α->β->AL)(I:α->β->World->Prop)(h1:WL P n ops (Exit.then (λa w=>∃ x y,Fr n (fr x y) a/\I x y w) Q) l al w)(h2:∀ x y w,I x y w->WC P n d Q' (fr x y) w): WL P n ops (Exit.then (d.wp P Q') Q) l al w:=by
 intro a ha;refine Jvc ?_ l a w (h1 a ha);intro e a' w' hq;cases e with
 | normal=>obtain ⟨x,y,h3,h4⟩:=hq;exact h2 x y w' h4 a' h3
 | exit id=>exact hq
 | goto l=>exact hq
 | ret=>exact hq
 | panic c=>exact hq
 | outgrown=>exact hq
theorem seg2{cs:List Value}{o:Nat}{u v:Value}(h:o+2<=cs.length): cs.take o++[u,v]++cs.drop (o+2)=(cs.set o u).set (o+1) v:=by
 apply List.ext_getElem?
 intro i;rw [List.getElem?_set,List.getElem?_set,List.append_assoc];rcases Nat.lt_trichotomy i o with hi|hi|hi
 ·rw [List.getElem?_append_left (by rw [List.length_take];omega),List.getElem?_take,if_pos hi,if_neg (by omega),if_neg (by omega)]
 ·subst hi;rw [List.getElem?_append_right (by rw [List.length_take];omega),List.length_take,Nat.min_eq_left (by omega),Nat.sub_self,if_neg (by omega),if_pos rfl,if_pos (by omega)];rfl
 ·rw [List.getElem?_append_right (by rw [List.length_take];omega),List.length_take,Nat.min_eq_left (by omega)];by_cases e:i=o+1
  ·subst e;rw [Nat.add_sub_cancel_left,if_pos rfl,if_pos (by rw [List.length_set];omega)];rfl
  ·rw [if_neg (by omega),if_neg (by omega),List.getElem?_append_right (by simp;omega),List.getElem?_drop];congr 1
   simp;omega
theorem Blk.sub{w:World}{g:Nat}{t:TypeId}{cs:List Value}(h:Blk w g t cs){i j:Nat}{v:Value}(hv:cs[i+j]?=some v): w.cell? ((⟨g,i,none⟩:Addr).add j)=some v:=by rw [Jzn,h.cell];exact hv
end Go.Wk
namespace Go.Proofs.YtefpailelagbkaaGreatDoor
open Go.RowKit Pl Go.Wk
attribute [local irreducible] WC WL QX WD WDB WP WN
def itC(A:Option Addr)(d L p e:Nat)(f h:Nat->Nat)(st:Int): List Value:=[.slice A d d,.int .i64 (L:Int),.int .i64 (p:Int),.int .i64 (e:Int)]++Jvv 32 (λk=>.int .i64 (f k:Int)) (λk=>.int .i64 (h k:Int))++[.int .i64 st]
theorem itC_len(A:Option Addr)(d L p e:Nat)(f h:Nat->Nat)(st:Int): (itC A d L p e f h st).length=69:=by
 simp only [itC,List.length_append,Jqg];rfl
theorem itC_st(A:Option Addr)(d L p e:Nat)(f h:Nat->Nat)(st:Int): (itC A d L p e f h st)[68]?=some (.int .i64 st):=by
 unfold itC;rw [List.getElem?_append_right (by rw [List.length_append,Jqg];simp),List.length_append,Jqg];rfl
theorem itC_set_st(A:Option Addr)(d L p e:Nat)(f h:Nat->Nat)(st st':Int): (itC A d L p e f h st).set 68 (.int .i64 st')=itC A d L p e f h st':=by
 unfold itC;rw [List.set_append_right _ _ (by rw [List.length_append,Jqg];simp),List.length_append,Jqg];rfl
theorem itC_ab(A:Option Addr)(d L p e:Nat)(f h:Nat->Nat)(st:Int){k:Nat}(hk:k<32): (itC A d L p e f h st)[4+k*2]?=some (.int .i64 (f k:Int))/\(itC A d L p e f h st)[4+k*2+1]?=some (.int .i64 (h k:Int)):=by
 have h1:=Jkc 32 (λk=>.int .i64 (f k:Int)) (λk=>.int .i64 (h k:Int)) hk;unfold itC;constructor
 ·rw [List.getElem?_append_left (by rw [List.length_append,Jqg];simp;omega),List.getElem?_append_right (by simp)];rw [show 4+k*2 - [Value.slice A d d,.int .i64 (L:Int),.int .i64 (p:Int),.int .i64 (e:Int)].length=k*2 by simp];exact h1.1
 ·rw [List.getElem?_append_left (by rw [List.length_append,Jqg];simp;omega),List.getElem?_append_right (by simp;omega)];rw [show 4+k*2+1 - [Value.slice A d d,.int .i64 (L:Int),.int .i64 (p:Int),.int .i64 (e:Int)].length=k*2+1 by simp;omega];exact h1.2
theorem upd_int(f:Nat->Nat)(k x:Nat): (λj=>Value.int .i64 ((upd f k x j:Nat):Int))=upd (λj=>Value.int .i64 (f j:Int)) k (.int .i64 (x:Int)):=by
 funext j;unfold upd;split<;>rfl
theorem itC_set_ab(A:Option Addr)(d L p e:Nat)(f h:Nat->Nat)(st:Int){k:Nat}(hk:k<32)(x y:Nat): ((itC A d L p e f h st).set (4+k*2) (.int .i64 (x:Int))).set (4+k*2+1) (.int .i64 (y:Int))=itC A d L p e (upd f k x) (upd h k y) st:=by
 unfold itC;have e1:∀ (X:List Value),([Value.slice A d d,.int .i64 (L:Int),.int .i64 (p:Int),.int .i64 (e:Int)]++X).set (4+k*2) (.int .i64 (x:Int))=[Value.slice A d d,.int .i64 (L:Int),.int .i64 (p:Int),.int .i64 (e:Int)]++X.set (k*2) (.int .i64 (x:Int)):=λX=>by
  rw [List.set_append_right _ _ (by simp)];congr 2;simp
 have e2:∀ (X:List Value),([Value.slice A d d,.int .i64 (L:Int),.int .i64 (p:Int),.int .i64 (e:Int)]++X).set (4+k*2+1) (.int .i64 (y:Int))=[Value.slice A d d,.int .i64 (L:Int),.int .i64 (p:Int),.int .i64 (e:Int)]++X.set (k*2+1) (.int .i64 (y:Int)):=λX=>by
  rw [List.set_append_right _ _ (by simp;omega)];congr 2;simp;omega
 rw [List.set_append_left _ _ (by rw [List.length_append,Jqg];simp;omega),e1,flat2_set1 _ _ _ hk,List.set_append_left _ _ (by rw [List.length_append,Jqg];simp;omega),e2,flat2_set2 _ _ _ hk,upd_int,upd_int]
abbrev ItB(w:World)(g:Nat)(A:Option Addr)(d L p e:Nat)(f h:Nat->Nat)(st:Int): Prop:=Blk w g 295 (itC A d L p e f h st)
def TriA(w:World)(A:Option Addr)(d:Nat)(rs:List Row): Prop:=∃ (vv fv:Nat->Value) (fs:Nat->List Nat),Rd w 2 A d (Jvv d vv fv)/\(∀ l,l<d->∃ B c,vv l=.slice B (lvl rs l).length c/\RdR w B (lvl rs l)) /\
 (∀ l,l<d->∃ B c,fv l=.slice B (fs l).length c/\Rd w 1 B (fs l).length (Jzx (nz (fs l))))/\∀ l,l+1<d->Chl rs l (fs l)
theorem TriV.a{w:World}{A:Option Addr}{d:Nat}{rs:List Row}(h:TriV w (.agg #[.slice A d d]) d rs): TriA w A d rs:=by
 obtain ⟨A',vv,fv,fs,h1,h2⟩:=h;injection h1 with h1
 have:Value.slice A d d=.slice A' d d:=by simpa using h1
 injection this with h1
 subst h1;exact ⟨vv,fv,fs,h2⟩
theorem TriA.ext{w w':World}{A:Option Addr}{d:Nat}{rs:List Row}(h:TriA w A d rs)(hx:Ext w w'): TriA w' A d rs:=by
 obtain ⟨vv,fv,fs,h2,h3,h4,h5⟩:=h;refine ⟨vv,fv,fs,h2.ext hx,λl hl=>?_,λl hl=>?_,h5⟩
 ·obtain ⟨B,c,e,hr⟩:=h3 l hl;exact ⟨B,c,e,Rd.ext hr hx⟩
 ·obtain ⟨B,c,e,hr⟩:=h4 l hl;exact ⟨B,c,e,hr.ext hx⟩
section
variable {w:World} {g:Nat} {A:Option Addr} {d L p e:Nat} {f h:Nat->Nat} {st:Int}
theorem Jkl(hB:ItB w g A d L p e f h st): Ret Tryz.prog 214 [.pointer (some ⟨g,0,none⟩)] w λu w'=>u=.bool (decide (0<L/\p<e))/\Ext w w':=by
 refine Jjb Tryz.func214 Tryz.ntmps214 rfl (by kernel_rfl) rfl ?_;refine ρ ?_;refine dr [(0,0),(0,1),(0,2),(0,3),(0,4),(0,5),(0,6),(0,7),(0,8),(0,9),(0,10),(0,11),(0,12),(0,13),(0,14),(0,15),(0,16),(0,17),(0,18),(0,19),(0,20),(0,21),(0,22)] (by kernel_rfl) ?_;have hx:Ext w w.drew:=(Ext.refl w).drew;have hB1:=hB.ext hx;refine ρd ?_;refine dpnn ?_;refine ρd ?_;refine dld (hB1.at (i:=1) rfl) ?_;refine ρd ?_;refine dki 12 (λh1=>?_) (λh1=>?_)
 ·have hL:0<L:=by have:=of_decide_eq_true h1;omega
  refine ρd ?_;refine dld (hB1.at (i:=2) rfl) ?_;refine ρd ?_;refine dld (hB1.at (i:=3) rfl) ?_;refine ρd ?_;refine ρ ?_;refine Jjq ⟨?_,hx⟩;congr 1
  exact decide_eq_decide.2 (by omega)
 ·have hL:¬ 0<L:=by have:=of_decide_eq_false h1;omega
  refine ρd ?_;refine ρ ?_;refine Jjq ⟨?_,hx⟩;congr 1
  exact (decide_eq_false (by omega)).symm
end
open Go.RowKit Pl Go.Wk
theorem zVal: Jxd Tryz.prog 71=some V0.val:=by kernel_rfl
section
variable {w:World} {g:Nat} {A:Option Addr} {d L p e:Nat} {f h:Nat->Nat} {st:Int} {rs:List Row}
theorem itValue_any{q:Nat}{qi:Int}(hB:ItB w g A d L p e f h st)(hT:TriA w A d rs)(hL:0<L)(hLd:L<=d)(hd:d<=32)(hq:q<(lvl rs (L-1)).length)(hqi:qi=(q:Int)): Ret Tryz.prog 217 [.pointer (some ⟨g,0,none⟩),.int .i64 qi] w λu w'=>u=((lvl rs (L-1)).getD q V0).val/\Ext w w':=by
 subst hqi;obtain ⟨vv,fv,fs,hR,hv,hf,hc⟩:=hT;have lL:L-1<d:=by omega
 obtain ⟨B,c,hvB,hRB⟩:=hv (L-1) lL;refine Jjb Tryz.func217 Tryz.ntmps217 rfl (by kernel_rfl) rfl ?_;refine ρ ?_;refine alc (cs:=V0.cells) zVal ?_;intro w1 b hx1 hb hBb;refine ρ ?_;refine drN (λ_=>False) 4 [(0,0),(0,1),(0,2),(0,3),(0,4),(0,5),(0,6),(0,7),(0,8),(0,9),(0,10),(0,11),(0,12),(0,13),(0,14),(0,15),(2,16)] (by kernel_rfl) ?_;have hxd:=hx1.drew;have hB1:=hB.ext hxd;have hR1:=hR.ext hxd;have hRB1:RdR _ B (lvl rs (L-1)):=Rd.ext hRB hxd;have hc0:w1.drew.cell? ((adr A ((L-1)*2)).add 0)=some (vv (L-1)):=by rw [add_zero];exact hR1.cell (Jkc d vv fv lL).1
 refine ρn ?_;refine nld (Jjg (hB1.at (i:=0) rfl) (λe=>e)) ?_;refine ρn ?_;refine nld (Jjg (hB1.at (i:=1) rfl) (λe=>e)) ?_;refine ρn ?_;refine nixq 2 (L-1) hR1 lL ?_;refine ρn ?_;refine nld (Jjg hc0 (λe=>e)) ?_;rw [hvB];refine ρn ?_;refine nixq 3 q hRB1 hq ?_;refine ρn ?_;refine nlds (cs:=((lvl rs (L-1)).getD q V0).cells) (λw' hg j u hu=>RdR.cell (Rd.ext hRB1 hg.toExt) hq hu) ?_;refine ρn ?_;refine Jkm ?_;refine stb (cs':=((lvl rs (L-1)).getD q V0).cells) (hBb.ext (Ext.refl w1).drew) ?_ (V.one _);intro w2 hB2 hg2 hx2;refine ρ ?_;exact finC1 hB2 ⟨rfl,hx2 w hxd hb⟩
theorem itLess_any{q:Nat}{qi:Int}{v:V}(hB:ItB w g A d L p e f h st)(hT:Off (λk=>k=g) w (λu=>TriA u A d rs))(hL:0<L)(hLd:L<=d)(hd:d<=32)(hq:q<(lvl rs (L-1)).length)(hqi:qi=(q:Int)): Ret Tryz.prog 222 [.pointer (some ⟨g,0,none⟩),.int .i64 qi,v.val] w λu w'=>u=.bool (decide (Jqh ((lvl rs (L-1)).getD q V0) v<0))/\GrN (λk=>k=g) w w'/\∃ st',ItB w' g A d L p e f h st':=by
 refine Jjb Tryz.func222 Tryz.ntmps222 rfl (by kernel_rfl) rfl ?_;refine ρ ?_;refine bx (cs:=v.cells) ?_;intro w1 b hx1 hb hBb;have hB1:=hB.ext hx1;refine ρ ?_;refine ld (hB1.at (i:=68) (itC_st _ _ _ _ _ _ _ _)) ?_;refine ρ ?_;have h68:w1.cell? ⟨g,0+68,none⟩=some (.int .i64 st):=by rw [hB1.cell];exact itC_st _ _ _ _ _ _ _ _
 refine sto h68 (hB1.frozen _) ?_;obtain ⟨st',hst'⟩:∃ st':Int,st'=IntKind.i64.wrap (st+1):=⟨_,rfl⟩;rw [<-hst'];have hB2:=hB1.set (0+68) (.int .i64 st');rw [show (0:Nat)+68=68 from rfl,itC_set_st]at hB2;have hg2:GrN (λk=>k=g) w (w1.setCell ⟨g,68,none⟩ (.int .i64 st')):=(GrN.ext hx1).trans (GrN.set _ rfl);have hBb2:Blk (w1.setCell ⟨g,68,none⟩ (.int .i64 st')) b 71 v.cells:=hBb.far (by simp only;have:=hB.lt;omega) _;refine ρ ?_;generalize hw2:w1.setCell ⟨g,68,none⟩ (.int .i64 st')=w2 at *
 refine dr [(0,0),(0,1),(0,3),(1,2),(1,4),(0,5),(0,6)] (by kernel_rfl) ?_;have hxd:Ext w2 w2.drew:=(Ext.refl w2).drew;refine ρd ?_;refine Jvb (cs:=v.cells) (λj u hu=>(hBb2.ext hxd).at hu) ?_;refine ρd ?_;refine dcl (itValue_any (hB2.ext hxd) (hT _ (hg2.trans (GrN.ext hxd))) hL hLd hd hq hqi) ?_;rintro u w3 ⟨rfl,hx3⟩;refine ⟨hx3,?_⟩;refine ρd ?_;refine dcl (Jxl _ v _) ?_;rintro u w4 ⟨rfl,hx4⟩;refine ⟨hx4,?_⟩;refine ρd ?_;refine ρ ?_;have hx24:=(hxd.trans hx3).trans hx4;exact Jjq ⟨rfl,hg2.trans (GrN.ext hx24),st',hB2.ext hx24⟩
theorem itKey_any(hB:ItB w g A d L p e f h st)(hT:TriA w A d rs)(hLd:L<=d)(hd:d<=32)(he:0<L->e<=(lvl rs (L-1)).length): Ret Tryz.prog 207 [.pointer (some ⟨g,0,none⟩)] w λu w'=>Ext w w'/\∃ v:V,u=.tuple #[v.val,.bool (decide (0<L/\p<e))]/\(0<L/\p<e->v=(lvl rs (L-1)).getD p V0):=by
 refine Jjb Tryz.func207 Tryz.ntmps207 rfl (by kernel_rfl) rfl ?_;refine ρ ?_;refine alc (cs:=V0.cells) zVal ?_;intro w1 b hx1 hb hBb;refine ρ ?_;refine cl (Jkl (hB.ext hx1)) ?_;rintro u w2 ⟨rfl,hx2⟩;have hxw2:=hx1.trans hx2;refine ρ ?_;refine ci (λh1=>?_) (λh1=>?_)
 ·have hno:¬ (0<L/\p<e):=of_decide_eq_false (by rw [Bool.not_eq_true']at h1;exact h1);refine ρ ?_;refine bld (v:=V0.val) (by kernel_rfl) ?_;refine ρ ?_;refine stb (cs':=V0.cells) (hBb.ext hx2) ?_ (V.one _);intro w3 hB3 hg3 hx3;refine ρ ?_;refine Jyk hB3 ⟨hx3 w hxw2 hb,V0,?_,λh'=>absurd h' hno⟩;rw [decide_eq_false hno];rfl
 ·have hyes:0<L/\p<e:=of_decide_eq_true (by rw [Bool.not_eq_false']at h1;exact h1);have hB2:=hB.ext hxw2;refine ρ ?_;refine ld (hB2.at (i:=2) rfl) ?_;refine ρ ?_;refine cl (itValue_any (q:=p) (qi:=(p:Int)) hB2 (hT.ext hxw2) hyes.1 hLd hd (by have:=he hyes.1;omega) rfl) ?_;rintro u w3 ⟨rfl,hx3⟩;refine ρ ?_;refine stb (cs':=((lvl rs (L-1)).getD p V0).cells) ((hBb.ext hx2).ext hx3) ?_ (V.one _);intro w4 hB4 hg4 hx4;refine ρ ?_;refine Jyk hB4 ⟨hx4 w (hxw2.trans hx3) hb,_,?_,λ_=>rfl⟩;rw [decide_eq_true hyes];rfl
theorem itNext_any(hB:ItB w g A d L p e f h st)(hL:0<L)(hp:p<e)(hpe:e<=1000000): Ret Tryz.prog 206 [.pointer (some ⟨g,0,none⟩)] w λu w'=>u=.bool (decide (p+1<e))/\GrN (λk=>k=g) w w'/\ItB w' g A d L (p+1) e f h st:=by
 refine Jjb Tryz.func206 Tryz.ntmps206 rfl (by kernel_rfl) rfl ?_;refine ρ ?_;refine cl (Jkl hB) ?_;rintro u w1 ⟨rfl,hx1⟩;refine ρ ?_;refine cf ?_ ?_
 ·simp [hL,hp]
 have hB1:=hB.ext hx1;refine ρ ?_;refine ld (hB1.at (i:=2) rfl) ?_;refine ρ ?_;refine sto (p:=⟨g,2,none⟩) (hB1.cell 2) (hB1.frozen _) ?_;have hB2:ItB (w1.setCell ⟨g,2,none⟩ (.int .i64 ((p:Int)+1))) g A d L (p+1) e f h st:=by
  have:=hB1.set 2 (.int .i64 ((p:Int)+1));exact this
 have hg2:GrN (λk=>k=g) w (w1.setCell ⟨g,2,none⟩ (.int .i64 ((p:Int)+1))):=(GrN.ext hx1).trans (GrN.set _ rfl);refine ρ ?_;refine cl (Jkl hB2) ?_;rintro u w3 ⟨rfl,hx3⟩;refine ρ ?_;refine Jjq ⟨?_,hg2.trans (GrN.ext hx3),hB2.ext hx3⟩;congr 1
 exact decide_eq_decide.2 ⟨λh'=>h'.2,λh'=>⟨hL,h'⟩⟩
theorem ab_cell(hB:ItB w g A d L p e f h st){k:Nat}(hk:k<32){j:Nat}{u:Value}(hu:[Value.int .i64 (f k:Int),.int .i64 (h k:Int)][j]?=some u): w.cell? (((⟨g,0+4,none⟩:Addr).add (k*2)).add j)=some u:=by
 have hab:=itC_ab A d L p e f h st hk;rw [Jzn,Jzn,hB.cell];match j,hu with
 | 0,hu=>rw [<-hu];exact hab.1
 | 1,hu=>rw [<-hu];exact hab.2
 | j+2,hu=>simp at hu
theorem itUp_any(hB:ItB w g A d (L+1) p e f h st)(hL:L<32): Ret Tryz.prog 208 [.pointer (some ⟨g,0,none⟩)] w λu w'=>GrN (λk=>k=g) w w'/\ItB w' g A d L (f L) (h L) f h st:=by
 refine Jjb Tryz.func208 Tryz.ntmps208 rfl (by kernel_rfl) rfl ?_;refine ρ ?_;refine pnl ?_;refine ρ ?_;refine ld (hB.at (i:=1) rfl) ?_;refine ρ ?_;refine ld (hB.at (i:=1) rfl) ?_;refine ρ ?_;refine sto (p:=⟨g,1,none⟩) (hB.cell 1) (hB.frozen _) ?_;have eL:((L+1:Nat):Int)-1=(L:Int):=by omega
 rw [eL];have hB2:ItB (w.setCell ⟨g,1,none⟩ (.int .i64 (L:Int))) g A d L p e f h st:=hB.set 1 (.int .i64 (L:Int));have hg2:GrN (λk=>k=g) w (w.setCell ⟨g,1,none⟩ (.int .i64 (L:Int))):=GrN.set _ rfl;refine ρ ?_;generalize w.setCell ⟨g,1,none⟩ (.int .i64 (L:Int))=w2 at *
 refine drN (λ_=>False) 4 [(0,0),(0,1),(0,2),(0,3),(0,4),(0,5),(0,6),(0,7),(0,8),(0,9),(0,10),(0,11),(2,12)] (by kernel_rfl) ?_;have hxd:Ext w2 w2.drew:=(Ext.refl w2).drew;have hB3:=hB2.ext hxd;refine ρn ?_;refine nld (Jjg (hB3.at (i:=1) rfl) (λe=>e)) ?_;refine ρn ?_;refine nixa L hL ?_;refine ρn ?_;refine nlds (cs:=[.int .i64 (f L:Int),.int .i64 (h L:Int)]) (λw' hg j u hu=>ab_cell (Jqb hB3 hg (λe=>e)) hL hu) ?_;refine ρn ?_;refine Jkm ?_;refine stB (o:=2) (us:=[.int .i64 (f L:Int),.int .i64 (h L:Int)]) hB3 (by rw [itC_len];simp) (λu hu=>by simp at hu;rcases hu with rfl|rfl<;>rfl) ?_;intro w4 hB4 hg4;refine ρ ?_;exact Jjq ⟨hg2.trans ((GrN.ext hxd).trans (GrN.by hg4 λk e=>by injection e with e;exact e.symm)),hB4⟩
theorem itSteps_any(hB:ItB w g A d L p e f h st): Ret Tryz.prog 195 [.pointer (some ⟨g,0,none⟩)] w λu w'=>u=.int .i64 st/\w'=w:=by
 refine Jjb Tryz.func195 Tryz.ntmps195 rfl (by kernel_rfl) rfl ?_;refine ρ ?_;refine pnl ?_;refine ρ ?_;refine ld (hB.at (i:=68) (itC_st _ _ _ _ _ _ _ _)) ?_;refine ρ ?_;exact Jjq ⟨rfl,rfl⟩
theorem bldIter(A:Option Addr)(d:Nat)(w:World): (Instr.build 295 #[(0,.agg #[.slice A d d])]).run Tryz.prog w=.ok (.agg (itC A d 0 0 0 (λ_=>0) (λ_=>0) 0).toArray) w:=by kernel_rfl
theorem triIter_any(w:World): Ret Tryz.prog 193 [.agg #[.slice A d d]] w λu w'=>Ext w w'/\∃ g,u=.pointer (some ⟨g,0,none⟩)/\w.heap.size<=g/\ItB w' g A d 0 0 0 (λ_=>0) (λ_=>0) 0:=by
 refine Jjb Tryz.func193 Tryz.ntmps193 rfl (by kernel_rfl) rfl ?_;refine ρ ?_;refine bx (cs:=[.slice A d d]) ?_;intro w1 b hx1 hb hB;refine ρ ?_;refine lds (cs:=[.slice A d d]) (λj u hu=>hB.at hu) ?_;refine ρ ?_;refine bld (bldIter A d _) ?_;refine ρ ?_;refine bx (cs:=itC A d 0 0 0 (λ_=>0) (λ_=>0) 0) ?_;intro w2 b2 hx2 hb2 hB2;refine ρ ?_;exact Jjq ⟨hx1.trans hx2,b2,rfl,Nat.le_trans hx1.size hb2,hB2⟩
end
end Go.Proofs.YtefpailelagbkaaGreatDoor
