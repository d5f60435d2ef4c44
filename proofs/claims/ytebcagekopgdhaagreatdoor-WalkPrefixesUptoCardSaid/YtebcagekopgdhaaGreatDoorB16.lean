/- Part 16. -/
import Derived.Test.YtebcagekopgdhaaGreatDoorB15
import Derived.Laws.CopyRow
set_option linter.unusedVariables false
set_option maxRecDepth 100000
set_option maxHeartbeats 40000000
namespace Go.Proofs.YtebcagekopgdhaaGreatDoor
open Go.RowKit Pl Go.Wk
attribute [local irreducible] WC WL QX WD WDB WP WN
theorem Qbp{r:Row}{d:Nat}(h:r.length=d): pmR (List.range d) r=r:=by
 apply List.ext_getElem
 .simp [pmR,h]
 .intro i u o;simp [pmR,List.getD,List.getElem?_eq_getElem o]
theorem TriB.nil(w:World)(base:Nat){A:Option Addr}{d:Nat}(hl:w.ownsRow base 297 2 (.slice A d d) d (Zz d (λ_=>.slice none 0 0) (λ_=>.slice none 0 0))): TriB w base A d (λ_=>.slice none 0 0) (λ_=>.slice none 0 0) (λ_=>[]) (λ_=>[]) :=
 ⟨hl,⟨λi hi=>Xs _ _ _ _,λi j g _ _ _ e=>by cases e⟩,⟨λi hi=>Xs _ _ _ _,λi j g _ _ _ e=>by cases e⟩⟩
theorem Jrg{rs:List Row}(l:Nat): (lvl rs l).length<=rs.length:=by
 rw [Jql];have:=Jzx (rs.map (List.take (l+1)));rw [List.length_map]at this;exact this
theorem Qvb{rs:List Row}{x:Row}: stp rs x<=x.length:=by
 unfold stp;split
 .exact (Jmf _ _).2
 .exact Nat.zero_le _
theorem Qkv{w:World}{v vc:Value}{d:Nat}{ls:List Row}(hrel:RelV w v d ls)(hlt:Lt [] ls)(hlen:∀ r∈ls,r.length=d)(hc:IntsV w vc (nz (List.range d)))(hd:d<=32)(hbig:ls.length<=65536):
  Ret Tryz.prog 203 [v,vc] w λu w'=>Ext w w'/\∃ t,u=.tuple #[t,.int .i64 0]/\(∃ A,t=.agg #[.slice A d d])/\Off (λk=>k<w.heap.size) w' (λx=>TriV x t d ls):=by
 obtain ⟨C,cc,rfl,dg,df,co⟩:=id hc;obtain ⟨rv,rfl,bo⟩:=id hrel;obtain ⟨eb,A0,c0,_,rfl,_⟩:=id bo;have ba:(nz (List.range d)).length=d:=by rw [Qq,List.length_range]
 rw [ba]at hc dg df co ⊢;have d0:∀ {k:Nat},k<d->(List.range d).getD k 0=k:=fun {k} hk=>by simp [List.getD,hk]
 have bs:∀ {k:Nat},k<d->(Js (nz (List.range d)))[k]?=some (.int .i64 (k:Int)):=fun {k} hk=>by
  have:=Xh (cs:=List.range d) (i:=k) (by rw [List.length_range];exact hk);rw [d0 hk]at this;exact this
 refine Jz Tryz.func203 Tryz.ntmps203 rfl kr rfl ?_;refine ρ ?_;refine bx ?_;intro w1 b1 cb em e0;refine ρ ?_;refine alc Jyh ?_;intro w2 b2 ca dj cz;have c8:=cb.trans ca;refine ρ ?_;refine Qd (fun (k:Nat)=>[(1,.slice C d cc),(2,.pointer (some ⟨b1,0,none⟩)),(4,.pointer (some ⟨b2,0,none⟩)),(15,.slice C d cc),(16,.int .i64 (d:Int)),(17,.int .i64 (k:Int))]) (λk w'=>Ext w2 w'/\k<=d) (λk=>d-k) 0 sB ⟨Ext.refl _,Nat.zero_le _⟩ ?_;rintro k w3 ⟨ar,hk⟩;have a7:=c8.trans ar;have bj:=(e0.ext ca).ext ar;refine ρ ?_;refine ci (λh=>?_) (λh=>?_)
 .have lk:k<d:=by have:=oT h;omega
  have b3:=co.ext a7;refine ρ ?_;refine ix k b3 lk ?_;refine ρ ?_;refine ld (b3.cell (bs lk)) ?_;refine ρ ?_;refine kf 24 ?_ ?_
  .exact dF om
  refine ρ ?_;refine ldW bj ?_;refine ρ ?_;refine cl (Jcd (hrel.ext a7)) ?_;rintro u w4 ⟨rfl,ao⟩;refine ρ ?_;refine cf ?_ ?_
  .exact dF om
  refine ρ ?_;refine slh k ?_;refine ρ ?_;have dl:Rd w4 1 C k (Js ((nz (List.range d)).take k)):=by
   have:=(b3.ext ao).take (m:=k) om;rw [Nat.mul_one]at this;have e:Js ((nz (List.range d)).take k)=(Js (nz (List.range d))).take k:=by simp [Js]
   rw [e];exact this
  refine cl (Qlm (t:=(k:Int)) dl (by rw [List.length_take,ba];omega) om) ?_;rintro u w5 ⟨rfl,t,rfl,ht⟩;have dc:t=false:=by
   cases t with
   | false=>rfl
   | true=>
    exfalso
    have hm:=ht.1 rfl;obtain ⟨i,hi,e⟩:=List.getElem_of_mem hm;rw [List.length_take,ba]at hi;have:((nz (List.range d)).take k)[i]'(by rw [List.length_take,ba];exact hi)=(i:Int):=by simp [nz]
    rw [this]at e;omega
  refine ρ ?_;refine cf dc ?_;refine ρ ?_;exact Qw (k+1) sO ⟨ar.trans ao,om⟩ om
 clear h;have ch:ls.map (pmR (List.range d))=ls:=by
  conv=>rhs;rw [<-List.map_id ls]
  exact List.map_congr_left λr hr=>by rw [Qbp (hlen r hr)];rfl
 refine ρ ?_;refine ldW bj ?_;refine ρ ?_;refine cl (Jng (cs:=List.range d) (hrel.ext a7) (hc.ext a7) hlen (λc hc=>List.mem_range.1 hc) (by rw [List.length_range];exact hd) hbig) ?_;rintro u w4 ⟨ao,pv,rfl,⟨pz,pB,pm,pd,rfl⟩,m,cg,ee,ed,de⟩;have dd:m=ls:=by
  have:=de (.inr (by rw [ch];exact Ut hlt));rw [ch]at this;exact Jjq this.1 hlt this.2
 subst dd;rw [List.length_range]at cg;have c7:=a7.trans ao;refine ρ ?_;refine alc Ug ?_;intro w5 b5 db di dz;refine ρ ?_;refine stb dz ?_ (Vs (z:=pz) (A:=pB) (n:=pm) (c:=pd));intro w6 dx eh da;have ac:Ext w4 w6:=da w4 db di;have ap:=c7.trans ac;have dt:RelV w6 (.agg #[.int .i64 pz,.slice pB pm pd]) d m:=cg.here.ext ac;refine ρ ?_;refine mkn EL d om (by unfold maxLen;omega) ?_;intro w7 A d9 bq hO;rw [made2]at bq;refine ρ ?_;refine bld (Qnx A d d _) ?_;refine ρ ?_;refine alc Jyh ?_;intro w8 b8 d8 dh dw;refine ρ ?_;refine stb dw ?_ (one1 (A:=A) (n:=d) (c:=d));intro w9 dv ef d7;have aq:Ext w7 w9:=d7 w7 d8 dh;have G:=d9.trans aq;have c6:=ap.trans G;have dk:=TriB.nil w9 w6.heap.size (Jk bq aq);have ck:∀ j,(Value.slice A d d).ownBlock=some j->w6.heap.size<=j/\j<w7.heap.size:=by
  obtain ⟨_,_,_,_,hf⟩:=Jv bq;exact hf
 refine ρ ?_;refine ldW (dx.ext G) ?_;refine ρ ?_;refine cl (Jcb (dt.ext G)) ?_;rintro u an ⟨J,b9⟩;obtain ⟨ps,R,rc,cj,rfl,e6,e5,dn,dm⟩:=b9;have ec:ps.length=m.length:=by rw [cj,List.length_map]
 generalize hn:ps.length=n at *
 have aw:∀ i,m.getD i []=(ps.getD i z0).2:=λi=>by rw [cj];exact Jqn
 have bm:=c6.trans J;obtain ⟨Ar,b7⟩:∃ Ar:Nat->Prop,Ar=λj=>j<w9.heap.size∨an.heap.size<=j:=⟨_,rfl⟩;have dq:Off Ar an (λu=>Rd u 1 R n (ps.map (·.1))):=dn.mono λj hj av=>by rw [b7]at av;omega
 have bt:∀ p∈ps,Off Ar an (λu=>RowV u p.1 p.2):=λp hp=>(dm p hp).mono λj hj av=>by rw [b7]at av;omega
 have a2:=dv.ext J;have cy:=(((((cz.ext ar).ext ao).ext ac).ext G).ext J);obtain ⟨M,hM⟩:∃ M:Nat->Prop,M=λj=>w6.heap.size<=j/\Ar j/\j≠b8:=⟨_,rfl⟩;have bu:∀ j,M j->Ar j:=λj hj=>by rw [hM]at hj;exact hj.2.1
 have b4:¬ M b8:=λe=>by rw [hM]at e;exact e.2.2 rfl
 have cq:¬ M b2:=λe=>by
  rw [hM]at e;have h1:=cz.lt;have h2:=ar.size;have h3:=ao.size;have h4:=ac.size;omega
 refine ρ ?_;refine Xr (fun (k:Nat) (vv fv:Nat->Value)=>[(4,.pointer (some ⟨b2,0,none⟩)),(10,.pointer (some ⟨b8,0,none⟩)),(11,if k=0 then .slice none 0 0 else (ps.getD (k-1) z0).1),(53,.slice R n rc),(54,.int .i64 (n:Int)),(55,.int .i64 (k:Int))])
  (λk vv fv w'=>k<=n/\(∃ fs,TriB w' w6.heap.size A d vv fv (lvl (m.take k)) fs/\(∀ l,l<d->(fs l).length=(lvl (m.take k) l).length)/\∀ l,l+1<d->Fst (m.take k) l (fs l))/\GrN M an w'/\∀ j,Zu A d vv fv j->M j) (λk _ _=>n-k) 0 (λ_=>.slice none 0 0) (λ_=>.slice none 0 0) sB
  ⟨Nat.zero_le _,⟨λ_=>[],(dk.ext J).congr (λl U=>rfl) (λl U=>rfl),λl U=>rfl,λl U=>Fst.nil l⟩,GrN.refl _ _,λj hj=>?_⟩ ?_
 .rcases hj with e|⟨l,_,e|e⟩
  .have:=ck j e;rw [hM];refine ⟨this.1,by rw [b7];exact .inl (nM this.2 aq.size),λe2=>?_⟩;subst e2;omega
  .cases e
  .cases e
 rintro k vv fv a3 ⟨hk,⟨fs,bw,ay,aj⟩,a1,a9⟩;have a6:GrN Ar an a3:=a1.mono λj _ hj=>bu j hj;refine ρ ?_;refine ci (λh=>?_) (λh=>?_)
 .have lk:k<n:=by have:=oT h;omega
  have c5:k<m.length:=om
  clear h;have bi:=dq a3 a6;have cp:RowV a3 (ps.getD k z0).1 (m.getD k []):=by rw [aw];exact bt _ (Vz hn lk) a3 a6
  have c9:(m.getD k []).length=d:=hlen _ (getD_mem' [] m c5);have cv:∃ y,RowV a3 (if k=0 then .slice none 0 0 else (ps.getD (k-1) z0).1) y/\(y=[]∨y.length=(m.getD k []).length)/\shr y (m.getD k [])=stp (m.take k) (m.getD k []):=by
   by_cases e:k=0
   .subst e;rw [if_pos rfl];exact ⟨[],RowV.nil _ _ _,.inl rfl,by rw [Jbh];rfl⟩
   .rw [if_neg e];have d3:k-1<n:=om
    refine ⟨m.getD (k-1) [],by rw [aw];exact bt _ (Vz hn d3) a3 a6,.inr (by rw [c9];exact hlen _ (getD_mem' [] m om)),?_⟩;have e2:(m.take k).getLast?=some (m.getD (k-1) []):=by
     rw [List.getLast?_eq_getElem?,List.length_take,Nat.min_eq_left om,List.getElem?_take,if_pos om,Jp [] m om,List.getElem?_eq_getElem om]
    unfold stp;rw [e2]
  obtain ⟨y,d6,d5,d4⟩:=cv;have au:m.take (k+1)=m.take k++[m.getD k []]:=Qy [] c5;have ag:Lt [] (m.take k++[m.getD k []]):=by rw [<-au];exact List.Pairwise.sublist (List.take_sublist _ _) hlt
  have a4:∀ r∈m.take k++[m.getD k []],r.length=d:=by rw [<-au];exact λr hr=>hlen r (List.mem_of_mem_take hr)
  refine ρ ?_;refine ix k bi lk ?_;refine ρ ?_;refine ld (Jjr bi hn lk) ?_;refine ρ ?_;refine drN (λ_=>False) 4 [(0,0),(0,1),(0,2),(0,3),(1,4),(2,5)] kr ?_;have aa:Ext a3 a3.drew:=(Ext.refl a3).drew;have br:=a1.trans (GrN.ext aa);have ak:=Jd a2 br b4;refine ρn ?_;refine Xd (cs:=[.slice A d d]) (λw' hg j u hu=>(Jd ak hg (λe=>e)).at hu) ?_;refine ρn ?_;refine nop ?_;refine cl (Qkt (d6.ext aa) (cp.ext aa) d5) ?_;rintro u am ⟨rfl,be⟩;refine ρ ?_;refine Je (GrN.ext be) ?_;rw [d4];have af:=aa.trans be;have bc:=bw.ext af;have o:=a1.trans (GrN.ext af);have bn:Off (Zu A d vv fv) am (λu=>RowV u (ps.getD k z0).1 (m.getD k [])):=λu hu=>by
   rw [aw];exact bt _ (Vz hn lk) u ((o.mono λj _ hj=>bu j hj).trans (hu.mono λj _ hj=>bu j (a9 j hj)))
  refine Xv ?_;refine cl (Qkx (s:=stp (m.take k) (m.getD k [])) bc bn c9 hd (by have:=Qvb (rs:=m.take k) (x:=m.getD k []);omega) ?_ ?_) ?_
  .have h1:=G.size;have h2:=J.size;have h3:=o.size;omega
  .intro l U;have h1:=Jrg (rs:=m.take k) l;rw [List.length_take]at h1;have h2:=ay l U;omega
  rintro u bz ⟨d1,ab,e4,ax,cr⟩;refine ρ ?_;refine Qa (k+1) d1 ab (by repeat' (first|exact Sub.nil|refine Sub.cons (by first|rfl|(refine congrArg (λz=>some (Value.int .i64 z)) ?_;omega)|(rw [if_neg (Nat.succ_ne_zero k)];rfl)) ?_)) ⟨om,⟨_,e4.congr (vs':=lvl (m.take (k+1))) (λl U=>?_) (λl U=>rfl),λl U=>?_,λl U=>?_⟩,o.trans (ax.mono λj _ hj=>a9 j hj),λj hj=>?_⟩ om
  .rw [au,Jrf ag a4 U];by_cases e:stp (m.take k) (m.getD k [])<=l
   .rw [if_pos e,if_neg om]
   .rw [if_neg e,if_pos om]
  .rw [au,Jrf ag a4 U];by_cases e:stp (m.take k) (m.getD k [])<=l
   .rw [if_pos e,if_neg (show ¬ l+1<=stp (m.take k) (m.getD k []) by omega),List.length_append,List.length_append,ay l U];rfl
   .rw [if_neg e,if_pos om];exact ay l U
  .rw [au];by_cases e:stp (m.take k) (m.getD k [])<=l
   .rw [if_pos e,if_pos U,Jql];exact (aj l U).more ag a4 e
   .rw [if_neg e];exact (aj l U).keep ag a4 om
  .rcases cr j hj with h'|h'
   .exact a9 j h'
   .rw [hM];have h1:=G.size;have h2:=J.size;have h3:=o.size;have h4:=a2.lt;exact ⟨om,by rw [b7];exact .inr om,om⟩
 .have ek:k=n:=by have:=oF h;omega
  subst ek;rw [List.take_of_length_le om]at bw ay aj;have ak:=Jd a2 a1 b4;refine ρ ?_;refine ld (ak.at (i:=0) rfl) ?_;refine ρ ?_;refine Jt (fun (k:Nat) (fv:Nat->Value)=>[(4,.pointer (some ⟨b2,0,none⟩)),(10,.pointer (some ⟨b8,0,none⟩)),(69,.int .i64 (d:Int)),(70,.int .i64 (k:Int))])
   (λq ab w'=>q<=d/\TriB w' w6.heap.size A d vv ab (lvl m) (λl=>if l<q then fs l++[if l+1<d then (lvl m (l+1)).length else 0] else fs l)/\GrN M an w'/\∀ j,Zu A d vv ab j->M j) (λq _=>d-q) 0 fv sB
   ⟨Nat.zero_le _,bw.congr (λl U=>rfl) (λl U=>by rw [if_neg om]),a1,a9⟩ ?_
  clear ak a9 a6 a1;rintro q ab am ⟨hq,bc,o,ai⟩;refine ρ ?_;refine ci (λh=>?_) (λh=>?_)
  .have lq:q<d:=by have:=oT h;omega
   clear h;have e7:=ay q lq;have ei:=Jrg (rs:=m) q;obtain ⟨own,a8⟩:∃ own,own=(ab q).ownBlock:=⟨_,rfl⟩;have bp:∀ j,own=some j->M j:=λj ej=>ai j (.inr ⟨q,lq,.inr (by rw [<-a8];exact ej)⟩);refine ρ ?_;refine drN (one own) 4 [(0,0),(0,1),(0,2),(0,3),(0,4),(0,5),(0,6),(0,7),(0,8),(0,9),(0,10),(0,11),(1,12),(1,13),(1,14),(0,15),(0,16),(2,17)] kr ?_;have aa:Ext am am.drew:=(Ext.refl am).drew;have O:=bc.ext aa;have a5:=o.trans (GrN.ext aa);have b6:=Jd a2 a5 b4;have nb:¬ one own b8:=λe=>b4 (bp b8 e);have d2:¬ one own (adr A (q*2)).block:=by
    obtain ⟨ad,e,_⟩:=O.rd.isome om om;subst e;simp only [adr,Option.getD_some,Uf];intro h';exact Jjz O.lev (O.fst.own q lq) rfl rfl (by rw [<-a8];exact h')
   refine ρn ?_;refine nld (Jm (b6.at (i:=0) rfl) nb) ?_;refine ρn ?_;refine nld (Jm (b6.at (i:=0) rfl) nb) ?_;refine ρn ?_;refine Vt 2 q O.rd lq ?_;refine ρn ?_;refine nld (Jm (O.f1 lq) (by rw [Uf];exact d2)) ?_;refine ρn ?_;refine Xd (cs:=[.slice A d d]) (λw' hg j u hu=>(Jd b6 hg nb).at hu) ?_;refine ρn ?_;refine nop ?_;refine cl (Jyx (l:=q+1) (li:=(q:Int)+1) O.rd (λl U=>by obtain ⟨B,c,e,_⟩:=O.vform U;exact ⟨B,c,e⟩) om hd) ?_;rintro u bz ⟨rfl,ae⟩;refine ρ ?_;refine Je (GrN.ext ae) ?_;obtain ⟨nn,ce⟩:∃ nn:Nat,nn=if q+1<d then (lvl m (q+1)).length else 0:=⟨_,rfl⟩
   rw [<-ce];refine nop ?_;refine bsl (bs1Int' (nn:Int)) ?_;intro ea en bd e8 cm;refine ρ ?_;refine Je (GrN.ext bd) ?_;have Z:=ae.trans bd;have bb:=O.ext Z;have bg:=bb.fst.own q lq;rw [if_neg (show ¬ q<q by omega)]at bg;refine nop ?_;refine apb (base:=w6.heap.size) EI bg (cm.rd (n:=1) rfl) (λu hu=>by rw [List.mem_singleton.1 hu];rfl) (by unfold maxLen;omega) om ?_ ?_
   .have h1:=G.size;have h2:=J.size;have h3:=a5.size;have h4:=Z.size;omega
   intro c4 e9 bf ah bh;refine ρ ?_;refine Je (GrN.by ah λj ej=>by rw [<-a8]at ej;exact ej) ?_;have er:Js (nz (fs q))++[.int .i64 (nn:Int)]=Js (nz (fs q++[nn])):=by simp [Js,nz]
   have el:(fs q).length+1=(fs q++[nn]).length:=by simp
   rw [er,el]at bf;obtain ⟨c1,c2,c3,e3,cn⟩:=bb.setF lq bf ah bh;have e1:=Xe bb.lev (bb.fst.own q lq) ah rfl;refine ρn ?_;refine Vt 2 q (Rd.own e1) lq ?_;refine ρn ?_;refine Xv ?_;refine sto c1 c2 ?_ (hv:=c3);refine ρ ?_;have du:∀ g,c4.ownBlock=some g->M g:=λg eg=>by
    rcases bh g eg with h'|h'
    .exact bp g (by rw [a8];exact h')
    .rw [hM];have h1:=G.size;have h2:=J.size;have h3:=a5.size;have h4:=Z.size;have h5:=a2.lt;exact ⟨om,by rw [b7];exact .inr om,om⟩
   refine Jg (q+1) (upd ab q c4) sO ⟨om,e3.congr (λl U=>rfl) (λl U=>?_),?_,Jpn (M:=M) ai lq du⟩ om
   .by_cases e:l=q
    .subst e;rw [Jf,if_pos (show l<l+1 by omega),ce]
    .rw [Jy _ _ e];by_cases e2:l<q
     .rw [if_pos e2,if_pos (show l<q+1 by omega)]
     .rw [if_neg e2,if_neg (show ¬ l<q+1 by omega)]
   .exact ((a5.trans (GrN.ext Z)).trans (GrN.by ah λj ej=>bp j (by rw [a8];exact ej))).trans (GrN.by cn λj ej=>ai j (.inl ej))
  .have eq:q=d:=by have:=oF h;omega
   subst eq;have cw:=Jd a2 o b4;have cx:=Jd cy o cq;refine ρ ?_;refine ldW cw ?_;refine ρ ?_;refine stb cx ?_ (one1 (A:=A) (n:=q) (c:=q));intro bz bv ax ae;refine ρ ?_;have bl:Ext w am:=o.old bm λj hj=>by rw [hM]at hj;exact nL ap.size hj.1
   refine Zh bv ⟨ae w bl (nL cb.size dj),_,rfl,⟨A,rfl⟩,?_⟩;have cd:=bc.off (N:=λj=>j<w.heap.size∨j=b2) (λl U=>?_) (λj hj av=>?_)
   .refine (cd.grown ax (λj ej=>.inr (by injection ej with ej;exact ej.symm))).mono λj _ hj=>.inl hj
   .rw [if_pos (show l<q by omega),if_pos U,Jql];exact (aj l U).close
   .have h1:=ai j hj;rcases av with h'|h'
    .rw [hM]at h1;have:=ap.size;omega
    .subst h';exact cq h1
end Go.Proofs.YtebcagekopgdhaaGreatDoor
namespace Go.Wk
open Go.RowKit
section
variable {N:Nat->Prop} {P:Program} {n:Nat} {al:AL} {w:World} {Q:Exit->Act->World->Prop} {ops:Array Oper} {rest:List Oper} {drest:List (Nat×Oper)}
variable {d ty:Nat} {op:Op} {pos:String} {aft:Array Edge} {tt:TT}
theorem Jmr(hT:TOk P tt){t t2 e:TypeId}{k:TK}{x:Operand}{p:Option Addr}(ht:tk tt t=some k)(hk:k.desc=.pointer e){a:Act}(ha:Fr n al a)(hx:ev al x=some (.pointer p))(dst:Option Nat)(w:World):
  (execOp a.eval ⟨dst,.binOp .eql t x (.const (.pointer none)) t2,ty,pos,aft,none⟩).run P w=.ok (.value (.bool p.isNone)) w:=by
 have o:=Vw hT ht hk rfl;have h:∀ d:Nat,(Op.equalIn (d+1) t (.pointer p) (.pointer none)).run P w=.ok p.isNone w:=λd=>by cases p<;>simp [Op.equalIn,run_underlying o]
 have u:a.eval (.const (.pointer none))=.pointer none:=rfl;simp [execOp,ha.ev hx,u,eqGuard,binOp,Op.equal,Op.maxDepth,h 9999]
theorem Jmq(hT:TOk P tt){t t2 e:TypeId}{k:TK}{x:Operand}{p:Option Addr}(ht:tk tt t=some k)(hk:k.desc=.pointer e){a:Act}(ha:Fr n al a)(hx:ev al x=some (.pointer p))(dst:Option Nat)(w:World):
  (execOp a.eval ⟨dst,.binOp .neq t x (.const (.pointer none)) t2,ty,pos,aft,none⟩).run P w=.ok (.value (.bool (!p.isNone))) w:=by
 have o:=Vw hT ht hk rfl;have h:∀ d:Nat,(Op.equalIn (d+1) t (.pointer p) (.pointer none)).run P w=.ok p.isNone w:=λd=>by cases p<;>simp [Op.equalIn,run_underlying o]
 have u:a.eval (.const (.pointer none))=.pointer none:=rfl;simp [execOp,ha.ev hx,u,eqGuard,binOp,Op.equal,Op.maxDepth,h 9999]
theorem pnl[h:Tab P tt]{t t2 e:TypeId}{k:TK}{x:Operand}{p:Option Addr}(kk:WL P n ops Q rest ((d,.bool p.isNone)::al) w)(ht:tk tt t=some k:=by rfl)(hk:k.desc=.pointer e:=by rfl)(hx:ev al x=some (.pointer p):=by rfl)(hd:Nat.blt d n=true:=by rfl):
  WL P n ops Q (⟨some d,.binOp .eql t x (.const (.pointer none)) t2,ty,pos,aft,none⟩::rest) al w:=wop hd (λa o=>Jmr h.ok ht hk o hx (some d) w) kk
theorem dpnl[h:Tab P tt]{t t2 e:TypeId}{k:TK}{x:Operand}{p:Option Addr}(kk:WD P n ops Q drest ((d,.bool p.isNone)::al) w)(ht:tk tt t=some k:=by rfl)(hk:k.desc=.pointer e:=by rfl)(hx:ev al x=some (.pointer p):=by rfl)(hd:Nat.blt d n=true:=by rfl):
  WD P n ops Q ((0,⟨some d,.binOp .eql t x (.const (.pointer none)) t2,ty,pos,aft,none⟩)::drest) al w:=dy (λw' _ a o=>Jmr h.ok ht hk o hx (some d) w') hd kk
theorem pnn[h:Tab P tt]{t t2 e:TypeId}{k:TK}{x:Operand}{p:Option Addr}(kk:WL P n ops Q rest ((d,.bool (!p.isNone))::al) w)(ht:tk tt t=some k:=by rfl)(hk:k.desc=.pointer e:=by rfl)(hx:ev al x=some (.pointer p):=by rfl)(hd:Nat.blt d n=true:=by rfl):
  WL P n ops Q (⟨some d,.binOp .neq t x (.const (.pointer none)) t2,ty,pos,aft,none⟩::rest) al w:=wop hd (λa o=>Jmq h.ok ht hk o hx (some d) w) kk
theorem dpnn[h:Tab P tt]{t t2 e:TypeId}{k:TK}{x:Operand}{p:Option Addr}(kk:WD P n ops Q drest ((d,.bool (!p.isNone))::al) w)(ht:tk tt t=some k:=by rfl)(hk:k.desc=.pointer e:=by rfl)(hx:ev al x=some (.pointer p):=by rfl)(hd:Nat.blt d n=true:=by rfl):
  WD P n ops Q ((0,⟨some d,.binOp .neq t x (.const (.pointer none)) t2,ty,pos,aft,none⟩)::drest) al w:=dy (λw' _ a o=>Jmq h.ok ht hk o hx (some d) w') hd kk
theorem nixa[h:Tab P tt]{x i:Operand}{t m e:Nat}{k:TK}{p:Addr}{kd:IntKind}{z:Int}(j:Nat)(hlt:j<m)(kk:WN N P n ops Q drest ((d,.pointer (some (p.add (j*k.esz))))::al) w)(ht:tk tt t=some k:=by rfl)(hk:k.desc=.array m e:=by rfl)(hx:ev al x=some (.pointer (some p)):=by rfl)(hi:ev al i=some (.int kd z):=by rfl)(hj:z=(j:Int):=by first|rfl|omega)(hd:Nat.blt d n=true:=by rfl): WN N P n ops Q ((0,⟨some d,.indexAddr t x i,ty,pos,aft,none⟩)::drest) al w :=
 ny_ (λw' _ a o=>Jbt h.ok j ht hk hlt o hx hi hj (some d) w') hd kk
theorem stB[h:Tab P tt]{x y:Operand}{t g bt o:Nat}{k:TK}{cs us:List Value}{p:Addr}(hb:Blk w g bt cs)(ho:o+us.length<=cs.length)(h1:∀ u∈us,u.oneCell'=true)(kk:∀ w1,Blk w1 g bt (cs.take o++us++cs.drop (o+us.length))->w.grownBy w1 (some g)->WL P n ops Q rest al w1)(ht:tk tt t=some k:=by rfl)(hk:k.desc=.invalid:=by rfl)(hs:k.size=us.length:=by rfl)(hx:ev al x=some (.pointer (some p)):=by rfl)(hp:p=⟨g,o,none⟩:=by rfl)(hy:ev al y=some (.agg us.toArray):=by rfl):
  WL P n ops Q (⟨none,.store t x y,ty,pos,aft,none⟩::rest) al w:=by
 subst hp;have O:=Il w g (cs.take o++us++cs.drop (o+us.length)).toArray;have C:=run_storeCells_at (P:=P) g o bt us 0 cs.toArray w hb (by simpa using ho) h1;simp only [Nat.add_zero]at C;refine Kp (λa J=>?_) (kk (w.setRow g (cs.take o++us++cs.drop (o+us.length)).toArray) (setRow_heap w g _ _ _ _ hb) O);have G:=Ze w (Jjp h.ok ht hk w).2;simp [execOp,J.ev hx,J.ev hy,Instr.storeAt,Instr.sureAddr,storeVar,Value.cells,G,hs,C]
end
theorem Jhk{P:Program}{n:Nat}{al:AL}{w:World}{Q Q':Exit->Act->World->Prop}{ops:Array Oper}{α β:Type}{d:Code}{l:List Oper}(fr:α->β->AL)(I:α->β->World->Prop)(h1:WL P n ops (Exit.then (λa w=>∃ x y,Fr n (fr x y) a/\I x y w) Q) l al w)(h2:∀ x y w,I x y w->WC P n d Q' (fr x y) w): WL P n ops (Exit.then (d.wp P Q') Q) l al w:=by
 intro a u;refine Jkq ?_ l a w (h1 a u);intro e J w' o;cases e with
 | normal=>obtain ⟨x,y,G,C⟩:=o;exact h2 x y w' C J G
 | exit id=>exact o
 | goto l=>exact o
 | ret=>exact o
 | panic c=>exact o
 | outgrown=>exact o
theorem seg2{cs:List Value}{o:Nat}{u v:Value}(h:o+2<=cs.length): cs.take o++[u,v]++cs.drop (o+2)=(cs.set o u).set (o+1) v:=by
 apply List.ext_getElem?
 intro i;rw [List.getElem?_set,List.getElem?_set,List.append_assoc];rcases Nat.lt_trichotomy i o with hi|hi|hi
 .rw [List.getElem?_append_left (by rw [List.length_take];omega),List.getElem?_take,if_pos hi,if_neg om,if_neg om]
 .subst hi;rw [List.getElem?_append_right (by rw [List.length_take];omega),List.length_take,Nat.min_eq_left om,Nat.sub_self,if_neg om,if_pos rfl,if_pos om];rfl
 .rw [List.getElem?_append_right (by rw [List.length_take];omega),List.length_take,Nat.min_eq_left om];by_cases e:i=o+1
  .subst e;rw [Nat.add_sub_cancel_left,if_pos rfl,if_pos (by rw [List.length_set];omega)];rfl
  .rw [if_neg om,if_neg om,List.getElem?_append_right (by simp;omega),List.getElem?_drop];congr 1
   simp;omega
theorem Blk.sub{w:World}{g:Nat}{t:TypeId}{cs:List Value}(h:Blk w g t cs){i j:Nat}{v:Value}(hv:cs[i+j]?=some v): w.cell? ((⟨g,i,none⟩:Addr).add j)=some v:=by rw [Vg,h.cell];exact hv
end Go.Wk
namespace Go.Proofs.YtebcagekopgdhaaGreatDoor
open Go.RowKit Pl Go.Wk
attribute [local irreducible] WC WL QX WD WDB WP WN
def itC(A:Option Addr)(d L p e:Nat)(f h:Nat->Nat)(st:Int): List Value:=[.slice A d d,.int .i64 (L:Int),.int .i64 (p:Int),.int .i64 (e:Int)]++Zz 32 (λk=>.int .i64 (f k:Int)) (λk=>.int .i64 (h k:Int))++[.int .i64 st]
theorem Jvf(A:Option Addr)(d L p e:Nat)(f h:Nat->Nat)(st:Int): (itC A d L p e f h st).length=69:=by
 simp only [itC,List.length_append,Xu];rfl
theorem Jds(A:Option Addr)(d L p e:Nat)(f h:Nat->Nat)(st:Int): (itC A d L p e f h st)[68]?=some (.int .i64 st):=by
 unfold itC;rw [List.getElem?_append_right (by rw [List.length_append,Xu];simp),List.length_append,Xu];rfl
theorem Qgf(A:Option Addr)(d L p e:Nat)(f h:Nat->Nat)(st st':Int): (itC A d L p e f h st).set 68 (.int .i64 st')=itC A d L p e f h st':=by
 unfold itC;rw [List.set_append_right _ _ (by rw [List.length_append,Xu];simp),List.length_append,Xu];rfl
theorem Qgh(A:Option Addr)(d L p e:Nat)(f h:Nat->Nat)(st:Int){k:Nat}(hk:k<32): (itC A d L p e f h st)[4+k*2]?=some (.int .i64 (f k:Int))/\(itC A d L p e f h st)[4+k*2+1]?=some (.int .i64 (h k:Int)):=by
 have o:=Gr 32 (λk=>.int .i64 (f k:Int)) (λk=>.int .i64 (h k:Int)) hk;unfold itC;constructor
 .rw [List.getElem?_append_left (by rw [List.length_append,Xu];simp;omega),List.getElem?_append_right (by simp)];rw [show 4+k*2 - [Value.slice A d d,.int .i64 (L:Int),.int .i64 (p:Int),.int .i64 (e:Int)].length=k*2 by simp];exact o.1
 .rw [List.getElem?_append_left (by rw [List.length_append,Xu];simp;omega),List.getElem?_append_right (by simp;omega)];rw [show 4+k*2+1 - [Value.slice A d d,.int .i64 (L:Int),.int .i64 (p:Int),.int .i64 (e:Int)].length=k*2+1 by simp;omega];exact o.2
theorem Jhz(f:Nat->Nat)(k x:Nat): (λj=>Value.int .i64 ((upd f k x j:Nat):Int))=upd (λj=>Value.int .i64 (f j:Int)) k (.int .i64 (x:Int)):=by
 funext j;unfold upd;split<;>rfl
theorem Qgg(A:Option Addr)(d L p e:Nat)(f h:Nat->Nat)(st:Int){k:Nat}(hk:k<32)(x y:Nat): ((itC A d L p e f h st).set (4+k*2) (.int .i64 (x:Int))).set (4+k*2+1) (.int .i64 (y:Int))=itC A d L p e (upd f k x) (upd h k y) st:=by
 unfold itC;have u:∀ (X:List Value),([Value.slice A d d,.int .i64 (L:Int),.int .i64 (p:Int),.int .i64 (e:Int)]++X).set (4+k*2) (.int .i64 (x:Int))=[Value.slice A d d,.int .i64 (L:Int),.int .i64 (p:Int),.int .i64 (e:Int)]++X.set (k*2) (.int .i64 (x:Int)):=λX=>by
  rw [List.set_append_right _ _ (by simp)];congr 2;simp
 have o:∀ (X:List Value),([Value.slice A d d,.int .i64 (L:Int),.int .i64 (p:Int),.int .i64 (e:Int)]++X).set (4+k*2+1) (.int .i64 (y:Int))=[Value.slice A d d,.int .i64 (L:Int),.int .i64 (p:Int),.int .i64 (e:Int)]++X.set (k*2+1) (.int .i64 (y:Int)):=λX=>by
  rw [List.set_append_right _ _ (by simp;omega)];congr 2;simp;omega
 rw [List.set_append_left _ _ (by rw [List.length_append,Xu];simp;omega),u,Jsx _ _ _ hk,List.set_append_left _ _ (by rw [List.length_append,Xu];simp;omega),o,Jsw _ _ _ hk,Jhz,Jhz]
abbrev ItB(w:World)(g:Nat)(A:Option Addr)(d L p e:Nat)(f h:Nat->Nat)(st:Int): Prop:=Blk w g 303 (itC A d L p e f h st)
def TriA(w:World)(A:Option Addr)(d:Nat)(rs:List Row): Prop:=∃ (vv fv:Nat->Value) (fs:Nat->List Nat),Rd w 2 A d (Zz d vv fv)/\(∀ l,l<d->∃ B c,vv l=.slice B (lvl rs l).length c/\RdR w B (lvl rs l)) /\
 (∀ l,l<d->∃ B c,fv l=.slice B (fs l).length c/\Rd w 1 B (fs l).length (Js (nz (fs l))))/\∀ l,l+1<d->Chl rs l (fs l)
theorem TriV.a{w:World}{A:Option Addr}{d:Nat}{rs:List Row}(h:TriV w (.agg #[.slice A d d]) d rs): TriA w A d rs:=by
 obtain ⟨C,vv,fv,fs,o,u⟩:=h;injection o with o
 have:Value.slice A d d=.slice C d d:=by simpa using o
 injection this with o
 subst o;exact ⟨vv,fv,fs,u⟩
theorem TriA.ext{w w':World}{A:Option Addr}{d:Nat}{rs:List Row}(h:TriA w A d rs)(hx:Ext w w'): TriA w' A d rs:=by
 obtain ⟨vv,fv,fs,O,J,G,C⟩:=h;refine ⟨vv,fv,fs,O.ext hx,λl u=>?_,λl u=>?_,C⟩
 .obtain ⟨B,c,e,o⟩:=J l u;exact ⟨B,c,e,Rd.ext o hx⟩
 .obtain ⟨B,c,e,o⟩:=G l u;exact ⟨B,c,e,o.ext hx⟩
section
variable {w:World} {g:Nat} {A:Option Addr} {d L p e:Nat} {f h:Nat->Nat} {st:Int}
theorem Jqc(hB:ItB w g A d L p e f h st): Ret Tryz.prog 226 [.pointer (some ⟨g,0,none⟩)] w λu w'=>u=.bool (decide (0<L/\p<e))/\Ext w w':=by
 refine Jz Tryz.func226 Tryz.ntmps226 rfl kr rfl ?_;refine ρ ?_;refine dr [(0,0),(0,1),(0,2),(0,3),(0,4),(0,5),(0,6),(0,7),(0,8),(0,9),(0,10),(0,11),(0,12),(0,13),(0,14),(0,15),(0,16),(0,17),(0,18),(0,19),(0,20),(0,21),(0,22)] kr ?_;have C:Ext w w.drew:=(Ext.refl w).drew;have o:=hB.ext C;refine ρd ?_;refine dpnn ?_;refine ρd ?_;refine dld (o.at (i:=1) rfl) ?_;refine ρd ?_;refine dki 12 (λG=>?_) (λG=>?_)
 .have J:0<L:=by have:=oT G;omega
  refine ρd ?_;refine dld (o.at (i:=2) rfl) ?_;refine ρd ?_;refine dld (o.at (i:=3) rfl) ?_;refine ρd ?_;refine ρ ?_;refine Jj ⟨?_,C⟩;congr 1
  exact decide_eq_decide.2 om
 .have J:¬ 0<L:=by have:=oF G;omega
  refine ρd ?_;refine ρ ?_;refine Jj ⟨?_,C⟩;congr 1
  exact (dF om).symm
end
open Go.RowKit Pl Go.Wk
theorem Gq: Qt Tryz.prog 47=some V0.val:=kr
section
variable {w:World} {g:Nat} {A:Option Addr} {d L p e:Nat} {f h:Nat->Nat} {st:Int} {rs:List Row}
theorem Jsb{q:Nat}{qi:Int}(hB:ItB w g A d L p e f h st)(hT:TriA w A d rs)(hL:0<L)(hLd:L<=d)(hd:d<=32)(hq:q<(lvl rs (L-1)).length)(hqi:qi=(q:Int)): Ret Tryz.prog 229 [.pointer (some ⟨g,0,none⟩),.int .i64 qi] w λu w'=>u=((lvl rs (L-1)).getD q V0).val/\Ext w w':=by
 subst hqi;obtain ⟨vv,fv,fs,hR,hv,hf,hc⟩:=hT;have O:L-1<d:=om
 obtain ⟨B,c,a1,a3⟩:=hv (L-1) O;refine Jz Tryz.func229 Tryz.ntmps229 rfl kr rfl ?_;refine ρ ?_;refine alc (cs:=V0.cells) Gq ?_;intro w1 b Z hb a4;refine ρ ?_;refine drN (λ_=>False) 4 [(0,0),(0,1),(0,2),(0,3),(0,4),(0,5),(0,6),(0,7),(0,8),(0,9),(0,10),(0,11),(0,12),(0,13),(0,14),(0,15),(2,16)] kr ?_;have o:=Z.drew;have J:=hB.ext o;have G:=hR.ext o;have C:RdR _ B (lvl rs (L-1)):=Rd.ext a3 o;have a2:w1.drew.cell? ((adr A ((L-1)*2)).add 0)=some (vv (L-1)):=by rw [add_zero];exact G.cell (Gr d vv fv O).1
 refine ρn ?_;refine nld (Jm (J.at (i:=0) rfl) (λe=>e)) ?_;refine ρn ?_;refine nld (Jm (J.at (i:=1) rfl) (λe=>e)) ?_;refine ρn ?_;refine Vt 2 (L-1) G O ?_;refine ρn ?_;refine nld (Jm a2 (λe=>e)) ?_;rw [a1];refine ρn ?_;refine Vt 3 q C hq ?_;refine ρn ?_;refine Xd (cs:=((lvl rs (L-1)).getD q V0).cells) (λw' hg j u hu=>RdR.cell (Rd.ext C hg.toExt) hq hu) ?_;refine ρn ?_;refine Xv ?_;refine stb (cs':=((lvl rs (L-1)).getD q V0).cells) (a4.ext (Ext.refl w1).drew) ?_ (V.one _);intro w2 a5 a6 U;refine ρ ?_;exact Jqv a5 ⟨rfl,U w o hb⟩
theorem Jdq{q:Nat}{qi:Int}{v:V}(hB:ItB w g A d L p e f h st)(hT:Off (λk=>k=g) w (λu=>TriA u A d rs))(hL:0<L)(hLd:L<=d)(hd:d<=32)(hq:q<(lvl rs (L-1)).length)(hqi:qi=(q:Int)): Ret Tryz.prog 234 [.pointer (some ⟨g,0,none⟩),.int .i64 qi,v.val] w λu w'=>u=.bool (decide (cmpV ((lvl rs (L-1)).getD q V0) v<0))/\GrN (λk=>k=g) w w'/\∃ st',ItB w' g A d L p e f h st':=by
 refine Jz Tryz.func234 Tryz.ntmps234 rfl kr rfl ?_;refine ρ ?_;refine bx (cs:=v.cells) ?_;intro w1 b Z hb a4;have C:=hB.ext Z;refine ρ ?_;refine ld (C.at (i:=68) (Jds _ _ _ _ _ _ _ _)) ?_;refine ρ ?_;have a5:w1.cell? ⟨g,0+68,none⟩=some (.int .i64 st):=by rw [C.cell];exact Jds _ _ _ _ _ _ _ _
 refine sto a5 (C.frozen _) ?_;obtain ⟨st',a1⟩:∃ st':Int,st'=IntKind.i64.wrap (st+1):=⟨_,rfl⟩;rw [<-a1];have J:=C.set (0+68) (.int .i64 st');rw [show (0:Nat)+68=68 from rfl,Qgf]at J;have a2:GrN (λk=>k=g) w (w1.setCell ⟨g,68,none⟩ (.int .i64 st')):=(GrN.ext Z).trans (GrN.set _ rfl);have a3:Blk (w1.setCell ⟨g,68,none⟩ (.int .i64 st')) b 47 v.cells:=a4.far (by simp only;have:=hB.lt;omega) _;refine ρ ?_;generalize hw2:w1.setCell ⟨g,68,none⟩ (.int .i64 st')=w2 at *
 refine dr [(0,0),(0,1),(0,3),(1,2),(1,4),(0,5),(0,6)] kr ?_;have o:Ext w2 w2.drew:=(Ext.refl w2).drew;refine ρd ?_;refine Qk (cs:=v.cells) (λj u hu=>(a3.ext o).at hu) ?_;refine ρd ?_;refine dcl (Jsb (J.ext o) (hT _ (a2.trans (GrN.ext o))) hL hLd hd hq hqi) ?_;rintro u w3 ⟨rfl,U⟩;refine ⟨U,?_⟩;refine ρd ?_;refine dcl (Jjh _ v _) ?_;rintro u w4 ⟨rfl,O⟩;refine ⟨O,?_⟩;refine ρd ?_;refine ρ ?_;have G:=(o.trans U).trans O;exact Jj ⟨rfl,a2.trans (GrN.ext G),st',J.ext G⟩
theorem Jdr(hB:ItB w g A d L p e f h st)(hT:TriA w A d rs)(hLd:L<=d)(hd:d<=32)(he:0<L->e<=(lvl rs (L-1)).length): Ret Tryz.prog 219 [.pointer (some ⟨g,0,none⟩)] w λu w'=>Ext w w'/\∃ v:V,u=.tuple #[v.val,.bool (decide (0<L/\p<e))]/\(0<L/\p<e->v=(lvl rs (L-1)).getD p V0):=by
 refine Jz Tryz.func219 Tryz.ntmps219 rfl kr rfl ?_;refine ρ ?_;refine alc (cs:=V0.cells) Gq ?_;intro w1 b O hb Z;refine ρ ?_;refine cl (Jqc (hB.ext O)) ?_;rintro u w2 ⟨rfl,J⟩;have o:=O.trans J;refine ρ ?_;refine ci (λh1=>?_) (λh1=>?_)
 .have U:¬ (0<L/\p<e):=oF (by rw [Bool.not_eq_true']at h1;exact h1);refine ρ ?_;refine bld (v:=V0.val) kr ?_;refine ρ ?_;refine stb (cs':=V0.cells) (Z.ext J) ?_ (V.one _);intro w3 a4 a6 G;refine ρ ?_;refine Zh a4 ⟨G w o hb,V0,?_,λh'=>absurd h' U⟩;rw [decide_eq_false U];rfl
 .have C:0<L/\p<e:=oT (by rw [Bool.not_eq_false']at h1;exact h1);have a1:=hB.ext o;refine ρ ?_;refine ld (a1.at (i:=2) rfl) ?_;refine ρ ?_;refine cl (Jsb (q:=p) (qi:=(p:Int)) a1 (hT.ext o) C.1 hLd hd (by have:=he C.1;omega) rfl) ?_;rintro u w3 ⟨rfl,G⟩;refine ρ ?_;refine stb (cs':=((lvl rs (L-1)).getD p V0).cells) ((Z.ext J).ext G) ?_ (V.one _);intro w4 a3 a5 a2;refine ρ ?_;refine Zh a3 ⟨a2 w (o.trans G) hb,_,?_,λ_=>rfl⟩;rw [decide_eq_true C];rfl
theorem Qgd(hB:ItB w g A d L p e f h st)(hL:0<L)(hp:p<e)(hpe:e<=1000000): Ret Tryz.prog 218 [.pointer (some ⟨g,0,none⟩)] w λu w'=>u=.bool (decide (p+1<e))/\GrN (λk=>k=g) w w'/\ItB w' g A d L (p+1) e f h st:=by
 refine Jz Tryz.func218 Tryz.ntmps218 rfl kr rfl ?_;refine ρ ?_;refine cl (Jqc hB) ?_;rintro u Z ⟨rfl,G⟩;refine ρ ?_;refine cf ?_ ?_
 .simp [hL,hp]
 have o:=hB.ext G;refine ρ ?_;refine ld (o.at (i:=2) rfl) ?_;refine ρ ?_;refine sto (p:=⟨g,2,none⟩) (o.cell 2) (o.frozen _) ?_;have J:ItB (Z.setCell ⟨g,2,none⟩ (.int .i64 ((p:Int)+1))) g A d L (p+1) e f h st:=by
  have:=o.set 2 (.int .i64 ((p:Int)+1));exact this
 have O:GrN (λk=>k=g) w (Z.setCell ⟨g,2,none⟩ (.int .i64 ((p:Int)+1))):=(GrN.ext G).trans (GrN.set _ rfl);refine ρ ?_;refine cl (Jqc J) ?_;rintro u w3 ⟨rfl,C⟩;refine ρ ?_;refine Jj ⟨?_,O.trans (GrN.ext C),J.ext C⟩;congr 1
 exact decide_eq_decide.2 ⟨λU=>U.2,λU=>⟨hL,U⟩⟩
theorem Qrg(hB:ItB w g A d L p e f h st){k:Nat}(hk:k<32){j:Nat}{u:Value}(hu:[Value.int .i64 (f k:Int),.int .i64 (h k:Int)][j]?=some u): w.cell? (((⟨g,0+4,none⟩:Addr).add (k*2)).add j)=some u:=by
 have o:=Qgh A d L p e f h st hk;rw [Vg,Vg,hB.cell];match j,hu with
 | 0,hu=>rw [<-hu];exact o.1
 | 1,hu=>rw [<-hu];exact o.2
 | j+2,hu=>simp at hu
theorem Qfx(hB:ItB w g A d (L+1) p e f h st)(hL:L<32): Ret Tryz.prog 220 [.pointer (some ⟨g,0,none⟩)] w λu w'=>GrN (λk=>k=g) w w'/\ItB w' g A d L (f L) (h L) f h st:=by
 refine Jz Tryz.func220 Tryz.ntmps220 rfl kr rfl ?_;refine ρ ?_;refine pnl ?_;refine ρ ?_;refine ld (hB.at (i:=1) rfl) ?_;refine ρ ?_;refine ld (hB.at (i:=1) rfl) ?_;refine ρ ?_;refine sto (p:=⟨g,1,none⟩) (hB.cell 1) (hB.frozen _) ?_;have eL:((L+1:Nat):Int)-1=(L:Int):=om
 rw [eL];have a1:ItB (w.setCell ⟨g,1,none⟩ (.int .i64 (L:Int))) g A d L p e f h st:=hB.set 1 (.int .i64 (L:Int));have U:GrN (λk=>k=g) w (w.setCell ⟨g,1,none⟩ (.int .i64 (L:Int))):=GrN.set _ rfl;refine ρ ?_;generalize w.setCell ⟨g,1,none⟩ (.int .i64 (L:Int))=w2 at *
 refine drN (λ_=>False) 4 [(0,0),(0,1),(0,2),(0,3),(0,4),(0,5),(0,6),(0,7),(0,8),(0,9),(0,10),(0,11),(2,12)] kr ?_;have G:Ext w2 w2.drew:=(Ext.refl w2).drew;have C:=a1.ext G;refine ρn ?_;refine nld (Jm (C.at (i:=1) rfl) (λe=>e)) ?_;refine ρn ?_;refine nixa L hL ?_;refine ρn ?_;refine Xd (cs:=[.int .i64 (f L:Int),.int .i64 (h L:Int)]) (λw' hg j u J=>Qrg (Jd C hg (λe=>e)) hL J) ?_;refine ρn ?_;refine Xv ?_;refine stB (o:=2) (us:=[.int .i64 (f L:Int),.int .i64 (h L:Int)]) C (by rw [Jvf];simp) (λu J=>by simp at J;rcases J with rfl|rfl<;>rfl) ?_;intro w4 Z O;refine ρ ?_;exact Jj ⟨U.trans ((GrN.ext G).trans (GrN.by O λk e=>by injection e with e;exact e.symm)),Z⟩
theorem Qfz(hB:ItB w g A d L p e f h st): Ret Tryz.prog 206 [.pointer (some ⟨g,0,none⟩)] w λu w'=>u=.int .i64 st/\w'=w:=by
 refine Jz Tryz.func206 Tryz.ntmps206 rfl kr rfl ?_;refine ρ ?_;refine pnl ?_;refine ρ ?_;refine ld (hB.at (i:=68) (Jds _ _ _ _ _ _ _ _)) ?_;refine ρ ?_;exact Jj ⟨rfl,rfl⟩
theorem Qnl(A:Option Addr)(d:Nat)(w:World): (Instr.build 303 #[(0,.agg #[.slice A d d])]).run Tryz.prog w=.ok (.agg (itC A d 0 0 0 (λ_=>0) (λ_=>0) 0).toArray) w:=kr
theorem Qkw(w:World): Ret Tryz.prog 204 [.agg #[.slice A d d]] w λu w'=>Ext w w'/\∃ g,u=.pointer (some ⟨g,0,none⟩)/\w.heap.size<=g/\ItB w' g A d 0 0 0 (λ_=>0) (λ_=>0) 0:=by
 refine Jz Tryz.func204 Tryz.ntmps204 rfl kr rfl ?_;refine ρ ?_;refine bx ?_;intro w1 b o hb O;refine ρ ?_;refine ldW O ?_;refine ρ ?_;refine bld (Qnl A d _) ?_;refine ρ ?_;refine bx (cs:=itC A d 0 0 0 (λ_=>0) (λ_=>0) 0) ?_;intro Z U C G J;refine ρ ?_;exact Jj ⟨o.trans C,U,rfl,Nat.le_trans o.size G,J⟩
end
end Go.Proofs.YtebcagekopgdhaaGreatDoor
