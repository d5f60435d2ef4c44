/- Part 9. -/
import Derived.Test.YtbcdghbonlifdaaGreatDoorY08
import Derived.OpenShut
set_option linter.unusedVariables false
set_option maxRecDepth 100000
set_option maxHeartbeats 40000000
namespace Go.Wk
open Go.RowKit
theorem OwnM.other{α:Type}{E:TypeId}{sz base:Nat}{Φ:World->List Value->α->Prop}{N:Nat->Prop}{w w':World}{v vp vp':Value}{ls:List α}(h:OwnM E sz Φ (λk=>N k∨vp.ownBlock=some k) w base v ls)(hg:w.grownBy w' vp.ownBlock)(hn:∀ g,vp'.ownBlock=some g->vp.ownBlock=some g∨w.heap.size<=g)(hd:∀ g,v.ownBlock=some g->¬ vp.ownBlock=some g): OwnM E sz Φ (λk=>N k∨vp'.ownBlock=some k) w' base v ls:=by
 obtain⟨ps,G,D,o⟩:=h;have j:GrN (λk=>vp.ownBlock=some k) w w':=GrN.by hg λk i=>i
 refine⟨ps,G,Ju D j hd,λp hp=>⟨(o p hp).1,λW u=>(o p hp).2 W ?_⟩⟩;have C:GrN (λk=>((N k∨vp.ownBlock=some k)∨v.ownBlock=some k)∨w.heap.size<=k) w W:=(j.mono λk _ i=>(.inl (.inl (.inr i)):((N k∨vp.ownBlock=some k)∨v.ownBlock=some k)∨w.heap.size<=k)).trans (u.mono λk _ i=>by grind);exact C.mono λk i h=>h.elim id λJ=>by omega
end Go.Wk
namespace Go.Proofs.YtbcdghbonlifdaaGreatDoor
open Go.RowKit Pl Go.Wk
attribute [local irreducible] WC WL QX WD WDB WP WN WG WH WM
variable {ats ats':List Atm}{ds:List Bool}{ps ps':List Nat}{Ms:List UMem}{b12 bR base c f n:Nat}{M:UMem}{dv va vp:Value}{W W1 w wC:World}
def um0: UMem:=⟨0,[],[]⟩
structure InsM(w:World)(A:Option Addr)(f:Nat)(ds:List Bool)(Ms:List UMem)(xc:Nat->List Value): Prop where
 rd:Rd w 5 A Ms.length (Ql Ms.length xc)
 el:∀ i,i<Ms.length->InC w (Yk f ds (Ms.getD i um0)) (xc i)
theorem InsM.ext{w w':World}{A:Option Addr}{f:Nat}{ds:List Bool}{Ms:List UMem}{xc:Nat->List Value}(h:InsM w A f ds Ms xc)(hx:Ext w w'): InsM w' A f ds Ms xc:=⟨h.rd.ext hx,λi hi=>(h.el i hi).ext hx⟩
structure InF(w:World)(f:Nat)(ds:List Bool)(M:UMem)(cs:List Value)(D Q T:Option Addr)(dc pc tc:Nat)(ts:List TA): Prop where
 e:cs=[.int .i64 (M.N:Int),.int .i64 (f:Int),.slice D ds.length dc,.slice Q M.perm.length pc,.slice T M.ats.length tc]
 d:RdB w D ds
 dl:ds.length<=dc/\ds.length<=1100000
 p:Rd w 1 Q M.perm.length (Ja (nz M.perm))
 a:M.ats.map toAtm=ts.map (·.2)
 tl:ts.length=M.ats.length
 t:Rd w 3 T M.ats.length (atC ts)
 at_:∀ p∈ts,AtV w p.1 p.2
theorem InC.inF{cs:List Value}(h:InC w (Yk f ds M) cs): ∃ D Q T dc pc tc ts,InF w f ds M cs D Q T dc pc tc ts:=by
 obtain⟨vd,vp,va,rfl,⟨D,dc,rfl,h1,O,J⟩,G,ts,T,tc,u,rfl,h6,h7,o,C⟩:=h;obtain⟨Q,pc,e,a1,Z,j⟩:=IntsV.n G;have i:ts.length=M.ats.length:=by have:=congrArg List.length u;grind [Yk]
 rw[i]at o;exact⟨D,Q,T,dc,pc,tc,ts,by rw[e,i];rfl,J,⟨h1,O⟩,j,u,i,o,C⟩
theorem InF.ext{w w':World}{f:Nat}{ds:List Bool}{M:UMem}{cs:List Value}{D Q T:Option Addr}{dc pc tc:Nat}{ts:List TA}(h:InF w f ds M cs D Q T dc pc tc ts)(hx:Ext w w'): InF w' f ds M cs D Q T dc pc tc ts :=
 ⟨h.e,Rd.ext h.d hx,h.dl,h.p.ext hx,h.a,h.tl,h.t.ext hx,λp hp=>(h.at_ p hp).ext hx⟩
structure UMt(f:Nat)(ds:List Bool)(M:UMem): Prop where
 n:M.N<=24
 m:M.ats.length<=32
 asc:∀ a∈M.ats,Xq a.1
 lt:∀ a∈M.ats,∀ v∈a.1,v<M.N
 pm:PermOk M.N f M.perm
 chk:Jxr (Yk f ds M)
theorem Qkl(h:∀ M∈Ms,UOk f M)(hds:ds.length=f)(hne:Ms≠[])(h4:Ms.length<=4): UMt f ds (Qg f Ms):=by
 obtain⟨j,i⟩:=Jpf h hds hne h4;have o:=Jxl (s:=0) h;exact⟨j,by show(jAs f 0 Ms).length<=32;omega,Jmt h,Jdr h,Jdn h,i⟩
theorem Qkq(h:f<=M.N): jN f 0 (Ms++[M])=jN f 0 Ms+(M.N-f):=by grind [Uo,Jvt,jN]
theorem Qkn: jPm f 0 (Ms++[M])=jPm f 0 Ms++M.perm.map (ren f (jN f 0 Ms-f)):=by
 rw[Jvs];simp[jPm]
theorem Jdp: jAs f 0 (Ms++[M])=jAs f 0 Ms++M.ats.map (Qa f (jN f 0 Ms-f)):=by
 rw[Jkg];simp[jAs]
structure MtS(wC W:World)(base b12 bR n f:Nat)(dv vp va:Value)(ps:List Nat)(ats:List Atm): Prop where
 ex:Ext wC W
 hb:Blk W b12 42 [.int .i64 (n:Int),.int .i64 (f:Int),dv,vp,va]
 op:W.ownsRow base 3 1 vp ps.length (Ja (nz ps))
 oa:OwnM 100 3 AtG (λk=>(k=b12∨k=bR)∨vp.ownBlock=some k) W base va ats
 dj:∀ g,va.ownBlock=some g->¬ vp.ownBlock=some g
 b1:wC.heap.size<=b12
 b0:bR<b12
 b2:b12<base
 b3:base<=W.heap.size
theorem MtS.ext{wC W W':World}{base b12 bR n f:Nat}{dv vp va:Value}{ps:List Nat}{ats:List Atm}(h:MtS wC W base b12 bR n f dv vp va ps ats)(hx:Ext W W'): MtS wC W' base b12 bR n f dv vp va ps ats :=
 ⟨h.ex.trans hx,h.hb.ext hx,Jk h.op hx,h.oa.ext hx,h.dj,h.b1,h.b0,h.b2,Nat.le_trans h.b3 hx.size⟩
theorem MtS.pf(h:MtS wC W base b12 bR n f dv vp va ps ats): ∃ A c,vp=.slice A ps.length c/\ps.length<=c/\∀ g,vp.ownBlock=some g->base<=g/\g<W.heap.size:=Jb h.op
theorem MtS.perm{vp':Value}(h:MtS wC W base b12 bR n f dv vp va ps ats)(ho:W1.ownsRow base 3 1 vp' ps'.length (Ja (nz ps')))(hg:W.grownBy W1 vp.ownBlock)(hn:∀ g,vp'.ownBlock=some g->vp.ownBlock=some g∨W.heap.size<=g):
  MtS wC (W1.setCell ((⟨b12,0,none⟩:Addr).add 3) vp') base b12 bR n f dv vp' va ps' ats:=by
 obtain⟨_,_,_,_,a3⟩:=Jb h.op;obtain⟨_,_,_,_,a2⟩:=Jb ho;obtain⟨_,_,_,_,Z⟩:=h.oa.form;have D:=h.b2;have O:=h.b1;have o:GrN (λk=>vp.ownBlock=some k) W W1:=GrN.by hg λk u=>u
 have a1:=Jv h.hb o λe=>by grind
 have i:GrN (λk=>k=b12) W1 (W1.setCell ((⟨b12,0,none⟩:Addr).add 3) vp'):=GrN.set _ rfl;have G:=h.oa.other hg hn h.dj;have C:∀ g,va.ownBlock=some g->¬ vp'.ownBlock=some g:=λg J e=>by
  rcases hn g e with j|j
  .exact h.dj g J j
  repeat grind
 refine⟨?_,a1.set 3 _,Ju ho i λg e j=>by grind,G.gr (i.mono λk _ u=>.inl (.inl u)) λg e j=>?_,C,O,h.b0,D,?_⟩
 .exact i.old (o.old h.ex λk u=>by grind) λk u=>by omega
 .rcases j with(j|j)|j
  .grind
  .have:=(Z g e).1;have:=h.b0;omega
  exact C g e j
 exact nL h.b3 (nL o.size i.size)
theorem MtS.atom{va':Value}(h:MtS wC W base b12 bR n f dv vp va ps ats)(ho:OwnM 100 3 AtG (λk=>(k=b12∨k=bR)∨vp.ownBlock=some k) W1 base va' ats')(hg:W.grownBy W1 va.ownBlock)(hn:∀ g,va'.ownBlock=some g->va.ownBlock=some g∨W.heap.size<=g):
  MtS wC (W1.setCell ((⟨b12,0,none⟩:Addr).add 4) va') base b12 bR n f dv vp va' ps ats':=by
 obtain⟨_,_,_,_,a2⟩:=Jb h.op;obtain⟨_,_,_,_,a3⟩:=h.oa.form;obtain⟨_,_,_,_,G⟩:=ho.form;have D:=h.b2;have Z:=h.b1;have o:GrN (λk=>va.ownBlock=some k) W W1:=GrN.by hg λk u=>u
 have a1:=Jv h.hb o λe=>by grind
 have j:GrN (λk=>k=b12) W1 (W1.setCell ((⟨b12,0,none⟩:Addr).add 4) va'):=GrN.set _ rfl;have C:∀ g,va'.ownBlock=some g->¬ vp.ownBlock=some g:=λg O e=>by
  rcases hn g O with i|i
  .exact h.dj g i e
  repeat grind
 have J:=Ju h.op o λg e i=>h.dj g i e;refine⟨?_,a1.set 4 _,Ju J j λg e i=>by grind,ho.gr (j.mono λk _ u=>.inl (.inl u)) λg e i=>?_,C,Z,h.b0,D,?_⟩
 .exact j.old (o.old h.ex λk u=>by grind) λk u=>by omega
 .rcases i with(i|i)|i
  .grind
  .have:=(G g e).1;have:=h.b0;omega
  exact C g e i
 exact nL h.b3 (nL o.size j.size)
theorem Xys(n f:Int)(A:Option Addr)(a a':Nat)(w:World): (Instr.build 42 #[(0,.int .i64 n),(1,.int .i64 f),(2,.slice A a a')]).run Tryz.prog w=.ok (.agg #[.int .i64 n,.int .i64 f,.slice A a a',.slice none 0 0,.slice none 0 0]) w:=kr
theorem Qhg{A:Option Addr}{xc:Nat->List Value}(hI:InsM w A f ds Ms xc)(hU:∀ M∈Ms,UMt f ds M)(hne:Ms≠[])(h3:Ms.length<=3)(hn:jN f 0 Ms<=32)(hlP:(jPm f 0 Ms).length<=1000)(hlA:(jAs f 0 Ms).length<=1000):
  Ret Tryz.prog 27 [.slice A Ms.length c] w λu w'=>Ext w w'/\∃ cs,u=.tuple #[.agg cs.toArray,.int .i64 0]/\InC w' (Yk f ds (Qg f Ms)) cs:=by
 have bb:∀ {i},i<Ms.length->UMt f ds (Ms.getD i um0):=λhi=>hU _ (getD_mem' um0 Ms hi);have h0:0<Ms.length:=List.length_pos_iff.2 hne;have ca:∀ i,i<Ms.length->(xc i).length=5:=λi hi=>by
  obtain⟨D,Q,T,dc,pc,tc,ts,h⟩:=(hI.el i hi).inF;rw[h.e];rfl
 have C:∀ {W:World} (hx:Ext w W) {i:Nat} (hi:i<Ms.length) {j:Nat} {u:Value},(xc i)[j]?=some u->W.cell? ((adr A (i*5)).add j)=some u:=λhx i hi j u hu=>by
  have hj:j<5:=by grind
  rw[Xk];exact(hI.rd.ext hx).cell (by rw[Yv ca hi hj];exact hu)
 have fg:f<=32:=by grind [Uo]
 have br:∀ {i},i<Ms.length->(Ms.getD i um0).N<=24/\f<=(Ms.getD i um0).N:=λhi=>⟨(bb hi).n,(bb hi).pm.fn⟩;have cp:∀ {i},i<Ms.length->jN f 0 (Ms.take (i+1))=jN f 0 (Ms.take i)+((Ms.getD i um0).N-f):=λhi=>by grind [Qr,um0,Qkq]
 have ei:∀ i,f<=jN f 0 (Ms.take i):=by grind [Uo]
 have g0:∀ i,Ms=Ms.take i++Ms.drop i:=by grind [List.take_append_drop]
 have dd:∀ i,jN f 0 (Ms.take i)<=32:=λi=>by grind [Jvt,Uo,jN]
 have eg:∀ i,(jPm f 0 (Ms.take i)).length<=1000:=λi=>by grind [Jvs,List.length_append]
 have eh:∀ i,(jAs f 0 (Ms.take i)).length<=1000:=λi=>by grind [Jkg,List.length_append]
 obtain⟨af,a4⟩:=id hI;generalize hm:Ms.length=m at af a4 bb h0 ca C br cp h3 ⊢
 refine enE Tryz.func27 Tryz.ntmps27 ?_;refine Jw Yt ?_;intro w1 b2 bl eo e3;refine cfR ?_ ?_
 .grind
 refine cfR ?_ ?_
 .grind
 refine ρ ?_;refine Qm (fun (i:Nat)=>[(0,.slice A m c),(2,.pointer (some ⟨b2,0,none⟩)),(3,.int .i64 0),(26,.slice A m c),(27,.int .i64 (m:Int)),(28,.int .i64 (i:Int))])
  (λi w'=>i<=m/\Ext w1 w') (λi=>m-i) 0 sB ⟨Nat.zero_le _,Ext.refl _⟩ ?_
 rintro i w2 ⟨hi,Z⟩;refine ciR (λh=>?_) (λh=>?_)
 .have li:i<m:=by have:=oT h;omega
  clear h;have o:=bl.trans Z;obtain⟨D,Q,T,dc,pc,tc,ts,hF⟩:=(a4 i li).inF;have a3:=hF.e;refine Qn 5 i (af.ext o) li ?_;refine Jl (cs:=[.int .i64 ((Ms.getD i um0).N:Int),.int .i64 (f:Int),.slice D ds.length dc,.slice Q (Ms.getD i um0).perm.length pc,.slice T (Ms.getD i um0).ats.length tc]) (λj u hu=>C o li (by rw[a3];exact hu)) ?_;refine Jw Yt ?_;intro w3 b5 cm en f0;refine Qo f0 ?_;intro w4 dx ek ax;have a8:Ext w2 w4:=ax w2 cm en;refine Jo dx ?_;refine ρ ?_;have dh:=a4 i li;rw[a3]at dh;have ao:=o.trans a8;have co:=br li;refine cl (Jdw (inp:=Yk f ds (Ms.getD i um0)) ⟨_,rfl,dh.ext ao⟩ (by show _<=((Ms.getD i um0).N:Int)/\((Ms.getD i um0).N:Int)<=_;omega) (by show _<=(f:Int)/\(f:Int)<=_;omega)) ?_;rintro u w5 ⟨au,e,rfl,he⟩;have e0:e=0:=he.2 (bb li).chk;subst e0;refine ρ ?_;exact Qy (i+1) sO ⟨li,(Z.trans a8).trans au⟩ om
 have bo:i=m:=by grind
 clear h bo;obtain⟨D0,Q0,T0,f7,fw,fr,fq,ai⟩:=(a4 0 h0).inF;have o:=bl.trans Z;have aa:Ext w2 w2.drew:=(Ext.refl w2).drew;have J:=o.trans aa;refine drR (Go.Wk.sc 15 []) ?_;refine Zr 5 0 (af.ext J) h0 ?_;refine Jz (C J h0 (j:=1) (by rw[ai.e];rfl)) ?_;refine Zr 5 0 (af.ext J) h0 ?_;refine Jz (C J h0 (j:=2) (by rw[ai.e];rfl)) ?_;refine Zr 5 0 (af.ext J) h0 ?_;refine Jz (C J h0 (j:=1) (by rw[ai.e];rfl)) ?_;refine ρd ?_;refine ρ ?_;refine Qm (fun (i:Nat)=>[(0,.slice A m c),(2,.pointer (some ⟨b2,0,none⟩)),(3,.int .i64 0),(7,.int .i64 (f:Int)),(8,.slice D0 ds.length f7),(9,.int .i64 (jN f 0 (Ms.take i):Int)),(51,.slice A m c),(52,.int .i64 (m:Int)),(53,.int .i64 (i:Int))])
  (λi w'=>i<=m/\Ext w1 w') (λi=>m-i) 0 sB ⟨Nat.zero_le _,Z.trans aa⟩ ?_
 clear o aa J Z w2 hi i;rintro i w2 ⟨hi,Z⟩;refine ciR (λh=>?_) (λh=>?_)
 .have li:i<m:=by have:=oT h;omega
  clear h;have o:=bl.trans Z;obtain⟨D,Q,T,dc,pc,tc,ts,hF⟩:=(a4 i li).inF;have a3:=hF.e;have co:=br li;have ap:=cp li;have db:=dd i;refine Qn 5 i (af.ext o) li ?_;refine Jl (cs:=[.int .i64 ((Ms.getD i um0).N:Int),.int .i64 (f:Int),.slice D ds.length dc,.slice Q (Ms.getD i um0).perm.length pc,.slice T (Ms.getD i um0).ats.length tc]) (λj u hu=>C o li (by rw[a3];exact hu)) ?_;refine Jw Yt ?_;intro w3 gb cm dn e8;refine Qo e8 ?_;intro w4 aj ek ax;have a8:Ext w2 w4:=ax w2 cm dn;have ao:=o.trans a8;refine ldR (aj.at (i:=1) rfl) ?_;refine ρ ?_;refine Go.Wk.kf 61 ?_ ?_
  .simp
  refine ldR (aj.at (i:=2) rfl) ?_;refine clR (Jff (Rd.ext hF.d ao) (Rd.ext ai.d ao) hF.dl.2) ?_;rintro u w5 ⟨rfl,au⟩;rw[decide_eq_true rfl];have cv:=aj.ext au;refine ldR (cv.at (i:=0) rfl) ?_;refine ρ ?_;have e9:(jN f 0 (Ms.take i):Int)+(((Ms.getD i um0).N:Int)-(f:Int))=(jN f 0 (Ms.take (i+1)):Int):=by rw[ap];omega
  rw[e9];exact Qy (i+1) sO ⟨li,(Z.trans a8).trans au⟩ om
 have bo:i=m:=by grind
 clear h;have bm:Ms.take i=Ms:=List.take_of_length_le om;have o:=bl.trans Z;refine ρ ?_;rw[bm];refine cf ?_ ?_
 .grind
 refine clR (Jpd (Rd.ext ai.d o) (λu hu=>by obtain⟨b,_,rfl⟩:=List.mem_map.1 hu;rfl) (by have:=ai.dl.2;omega)) ?_;rintro u wC ⟨⟨DC,dC,rfl,em,et,ew⟩,ck⟩;have dz:=(e3.ext Z).ext ck;have fx:=e3.lt;have fa:=Z.size;have f9:=ck.size;have az:=o.trans ck;refine Zl (Xys _ _ _ _ _ _) ?_;refine Jw Yt ?_;intro w4 a1 ax ba e7;refine Qo e7 ?_;intro w5 bf g4 au;have c2:Ext wC w5:=au wC ax ba;have er:MtS wC w5 w5.heap.size a1 b2 (jN f 0 Ms) f (.slice DC ds.length dC) (.slice none 0 0) (.slice none 0 0) [] [] :=
  ⟨c2,bf,Zc _ _ _ _,OwnM.nil _ _,λg e=>by simp[Value.ownBlock]at e,ba,om,bf.lt,Nat.le_refl _⟩
 refine ρ ?_;refine Jqd (fun (i s:Nat) (vp va:Value)=>[(0,.slice A m c),(2,.pointer (some ⟨b2,0,none⟩)),(3,.int .i64 0),(7,.int .i64 (f:Int)),(12,.pointer (some ⟨a1,0,none⟩)),(13,.int .i64 (s:Int)),(84,.slice A m c),(85,.int .i64 (m:Int)),(86,.int .i64 (i:Int))])
  (λi s vp va w'=>i<=m/\s=jN f 0 (Ms.take i)-f/\MtS wC w' w5.heap.size a1 b2 (jN f 0 Ms) f (.slice DC ds.length dC) vp va (jPm f 0 (Ms.take i)) ((jAs f 0 (Ms.take i)).map toAtm)) (λi _ _ _=>m-i) 0 0 (.slice none 0 0) (.slice none 0 0) sB ⟨Nat.zero_le _,by show 0=f+0-f;omega,er⟩ ?_
 clear Z bo bm o hi i;rintro i s vp va w6 ⟨hi,hs,hS⟩;have an:Ext w w6:=az.trans hS.ex;refine ciR (λh=>?_) (λh=>?_)
 .have li:i<m:=by have:=oT h;omega
  clear h;obtain⟨D,Q,T,dc,pc,tc,ts,hF⟩:=(a4 i li).inF;have a3:=hF.e;have co:=br li;have ap:=cp li;have db:=dd i;have fe:=ei i;obtain⟨M,hM⟩:∃ M,M=Ms.getD i um0:=⟨_,rfl⟩;rw[<-hM]at hF a3 co ap;have av:UMt f ds M:=by rw[hM];exact bb li
  have dv:Ms.take (i+1)=Ms.take i++[M]:=by grind [Qr,um0]
  refine Qn 5 i (af.ext an) li ?_;refine Jl (cs:=[.int .i64 (M.N:Int),.int .i64 (f:Int),.slice D ds.length dc,.slice Q M.perm.length pc,.slice T M.ats.length tc]) (λj u hu=>C an li (by rw[a3];exact hu)) ?_;refine Jw Yt ?_;intro w7 aw bj b9 e6;refine Qo e6 ?_;intro w8 be g3 ed;have c3:Ext w6 w8:=ed w6 bj b9;have dt:=hS.ext c3;have d4:=an.trans c3;have aa:Ext w8 w8.drew:=(Ext.refl w8).drew;have bq:=dt.ext aa;have dw:=be.ext aa;have J:=d4.trans aa;obtain⟨PA,d0,rfl,fd,bn⟩:=hS.pf;have fy:=be.lt;refine ρ ?_;refine drN (λk=>(Value.slice PA (jPm f 0 (Ms.take i)).length d0).ownBlock=some k) 10 (Go.Wk.sc 10 [6,7,109]) kr ?_;have ba:=bq.b2;have d1:¬ (Value.slice PA (jPm f 0 (Ms.take i)).length d0).ownBlock=some a1:=λe=>by have:=(bn _ e).1;omega
  have g6:=hS.b3;have fu:=bj.size;refine ρn ?_;refine nld (Jt (bq.hb.at (i:=3) rfl) d1) ?_;refine ρn ?_;refine nld (Jt (dw.at (i:=3) rfl) (λe=>by grind [Uh])) ?_;refine ρn ?_;refine nop ?_;have g1:M.perm.length<=24:=by have:=av.pm.len;omega
  refine cl (Qqg (f:=f) (s:=s) (vs:=M.perm) (Rd.ext hF.p J) om (λv hv=>by have:=av.pm.rng v hv;omega) om om) ?_;rintro u w9 ⟨B,rfl,b4,bi⟩;have bc:=bq.ext bi;refine ρ ?_;refine Jr (GrN.ext bi) ?_;refine ρn ?_;refine nop ?_;have du:=Rd.own b4;have d8:jPm f 0 (Ms.take (i+1))=jPm f 0 (Ms.take i)++M.perm.map (ren f s):=by rw[dv,Qkn,<-hs]
  have fc:=eg i;refine apb (m':=M.perm.length) (news:=Ja (nz (M.perm.map (ren f s)))) EI bc.op du (λu hu=>by obtain⟨z,_,rfl⟩:=List.mem_map.1 hu;rfl) (by unfold maxLen;omega) om bc.b3 ?_;intro ec cj c6 a9 c8;have ag:cj.ownsRow w5.heap.size 3 1 ec (jPm f 0 (Ms.take (i+1))).length (Ja (nz (jPm f 0 (Ms.take (i+1))))):=by
   rw[d8,List.length_append,List.length_map,Qxv,Qwd];exact c6
  obtain⟨eb,cz,rfl,_,d9⟩:=Jb ag;have ce:=bc.perm ag a9 c8;have bg:=Jv bc.hb (GrN.by a9 λk hk=>hk) d1;refine ρ ?_;refine Jr (GrN.by a9 λk hk=>hk) ?_;refine ρn ?_;refine Xu ?_;refine sto (bg.at (i:=3) rfl) (bg.frozen 3) ?_;generalize hw11:cj.setCell ((⟨a1,0,none⟩:Addr).add 3) _=w11 at ce ⊢
  have bp:GrN (λk=>k=a1) cj w11:=by rw[<-hw11];exact GrN.set _ rfl
  have ft:w6.heap.size<=aw:=b9;have a7:Blk w11 aw 42 [.int .i64 (M.N:Int),.int .i64 (f:Int),.slice D ds.length dc,.slice Q M.perm.length pc,.slice T M.ats.length tc] :=
   Jv (Jv (dw.ext bi) (GrN.by a9 λk hk=>hk) λe=>by have h1:=(bn _ e).2;omega) bp om
  refine Jc (Us ?_);refine ρn ?_;refine ldR (a7.at (i:=4) rfl) ?_;have b8:∀ g,va.ownBlock=some g->g≠aw:=λg e=>by
   obtain⟨_,_,_,_,ah⟩:=hS.oa.form;have:=(ah g e).2;omega
  refine ρ ?_;refine Qj (fun (j:Nat) (va:Value)=>[(0,.slice A m c),(2,.pointer (some ⟨b2,0,none⟩)),(3,.int .i64 0),(7,.int .i64 (f:Int)),(12,.pointer (some ⟨a1,0,none⟩)),(13,.int .i64 (s:Int)),(15,.pointer (some ⟨aw,0,none⟩)),(84,.slice A m c),(85,.int .i64 (m:Int)),(86,.int .i64 (i:Int)),(100,.slice T M.ats.length tc),(101,.int .i64 (M.ats.length:Int)),(102,.int .i64 (j:Int))])
   (λj va w'=>j<=M.ats.length/\Blk w' aw 42 [.int .i64 (M.N:Int),.int .i64 (f:Int),.slice D ds.length dc,.slice Q M.perm.length pc,.slice T M.ats.length tc]/\(∀ g,va.ownBlock=some g->g≠aw) /\
    MtS wC w' w5.heap.size a1 b2 (jN f 0 Ms) f (.slice DC ds.length dC) (.slice eb (jPm f 0 (Ms.take (i+1))).length cz) va (jPm f 0 (Ms.take (i+1))) ((jAs f 0 (Ms.take i)++(M.ats.take j).map (Qa f s)).map toAtm)) (λj _=>M.ats.length-j) 0 va sB
   ⟨Nat.zero_le _,a7,b8,by grind⟩ ?_
  clear ce bp hw11 bg d9 c8 a9 ag c6 bc b4 du bi a7 b8 va hS dt bq;rintro j va cx ⟨hj,a6,di,O⟩;have ae:=az.trans O.ex;refine ciR (λh=>?_) (λh=>?_)
  .have lj:j<M.ats.length:=by have:=oT h;omega
   clear h;obtain⟨ta,d7⟩:∃ ta,ta=ts.getD j ta0:=⟨_,rfl⟩;have ee:ta∈ts:=by rw[d7];exact getD_mem' ta0 ts (by rw[hF.tl];exact lj)
   obtain⟨a,ha⟩:∃ a,a=M.ats.getD j pa0:=⟨_,rfl⟩;have cr:a∈M.ats:=by grind [getD_mem',pa0]
   have d6:ta.2=toAtm a:=by
    have h1:=congrArg (λl=>l[j]?) hF.a;grind
   have ea:=hF.at_ ta ee;rw[d6]at ea;obtain⟨⟨t1,t2,t3⟩,a2⟩:=ta;obtain⟨dg,df,cq⟩:=ea;simp only at dg df cq;obtain⟨VA,vd,rfl,_,fz,ep⟩:=IntsV.n (l:=a.1) dg;obtain⟨G,gl,gc,rfl⟩:∃ G gl gc,t3=.slice G gl gc:=by obtain⟨ps,G,gc,_,e,_⟩:=id cq;exact⟨G,_,gc,e⟩
   have de:t2=.int .i64 (a.1.length:Int):=df;subst de;have g2:=av.m;have g7:a.1.length<=24:=Jcz 24 ((av.asc a cr).imp λh=>Nat.ne_of_lt h) λv hv=>by have:=av.lt a cr v hv;omega
   refine Qn 3 j (hF.t.ext ae) lj ?_;refine Jl (cs:=[.slice VA a.1.length vd,.int .i64 (a.1.length:Int),.slice G gl gc]) (λq u hu=>Ir (hF.t.ext ae) hF.tl lj (by rw[<-d7];exact hu)) ?_;refine Jw Yc ?_;intro fp f8 d3 dm e5;refine Qo e5 ?_;intro bh bs ff d2;have am:Ext cx bh:=d2 cx d3 dm;have a3:Ext bh bh.drew:=(Ext.refl bh).drew;have cd:=(O.ext am).ext a3;have bd:=bs.ext a3;have ab:=am.trans a3;have c4:=ae.trans ab;obtain⟨AA,ac,f4,g9,ah⟩:=O.oa.form;subst f4;have fh:=O.b3;have dk:=O.b2;have c1:∀ g,(Value.slice AA ((jAs f 0 (Ms.take i)++(M.ats.take j).map (Qa f s)).map toAtm).length ac).ownBlock=some g->g≠a1:=by grind
   have bz:∀ g,(Value.slice AA ((jAs f 0 (Ms.take i)++(M.ats.take j).map (Qa f s)).map toAtm).length ac).ownBlock=some g->g≠f8:=by grind
   refine ρ ?_;refine drN (λk=>(Value.slice AA ((jAs f 0 (Ms.take i)++(M.ats.take j).map (Qa f s)).map toAtm).length ac).ownBlock=some k) 10 [(0,0),(0,1),(0,2),(0,3),(0,4),(0,5),(0,7),(0,8),(1,6),(0,9),(1,10),(1,11),(0,12),(2,13)] kr ?_;refine ρn ?_;refine nld (Jt (cd.hb.at (i:=4) rfl) λe=>c1 _ e rfl) ?_;refine ρn ?_;refine nld (Jt (bd.at (i:=0) rfl) λe=>bz _ e rfl) ?_;refine ρn ?_;refine Xr (cs:=[.int .i64 (a.1.length:Int),.slice G gl gc]) (λw' hg q u hu=>Blk.at2 (i:=1) (Jv bd hg λe=>bz _ e rfl) (by rw[Nat.add_comm];exact hu)) ?_;refine ρn ?_;refine nop ?_;refine cl (Qqg (f:=f) (s:=s) (vs:=a.1) (ep.ext c4) om (λv hv=>by have:=av.lt a cr v hv;omega) om om) ?_;rintro u fo ⟨B,rfl,b4,ay⟩;refine ρ ?_;refine Jr (GrN.ext ay) ?_;refine ρn ?_;refine Jjj (λw=>Jfl _ _ _ _ _ _ _ w) ?_;refine ρn ?_;refine nop ?_;refine bsl (λw=>Jyw _ _ _ B G _ _ _ gc _ rfl rfl rfl w) ?_
   intro cw ga ak fk e4;refine ρ ?_;refine Jr (GrN.ext ak) ?_;refine nop ?_;have aq:=(cd.ext ay).ext ak;have a5:=ay.trans ak;have cn:=Jk b4 ak;obtain⟨_,_,eB,_,ez⟩:=Jb b4;obtain⟨_,_,_,_,c5⟩:=Jb O.op;have fb:=ab.size;have dq:toAtm (Qa f s a)=⟨nz (a.1.map (ren f s)),a.1.length,a.2⟩:=by simp[toAtm,Qa]
   have hΦ:Off (λk=>((k=a1∨k=b2)∨(Value.slice eb (jPm f 0 (Ms.take (i+1))).length cz).ownBlock=some k)∨(Value.slice AA ((jAs f 0 (Ms.take i)++(M.ats.take j).map (Qa f s)).map toAtm).length ac).ownBlock=some k) cw (λu=>AtG u [.slice B a.1.length a.1.length,.int .i64 (a.1.length:Int),.slice G gl gc] (toAtm (Qa f s a))):=by
    intro W hW;have h1:=Ju cn hW λg e h=>by
     have:=(ez g e).1;rcases h with((h|h)|h)|h
     .omega
     .omega
     .have:=(c5 g h).2;omega
     have:=(ah g h).2;omega
    have h2:Ext w W:=hW.old (c4.trans a5) λk h=>by
     have:=az.size;have:=c2.size;have:=O.b1;rcases h with((h|h)|h)|h
     .omega
     .omega
     .have:=(c5 k h).1;omega
     have:=(ah k h).1;omega
    rw[dq];refine⟨(.slice B a.1.length a.1.length,.int .i64 (a.1.length:Int),.slice G gl gc),rfl,⟨B,a.1.length,by rw[Qv,List.length_map],by rw[Qv,List.length_map];exact nR _,by rw[Qv,List.length_map];omega,by rw[Qv,List.length_map];exact Rd.own h1⟩,rfl,cq.ext h2⟩
   refine apM EA (Φ:=AtG) aq.oa e4 rfl (Iy rfl) hΦ ?_ om aq.b3 ?_
   .have h1:=eh i;rw[List.length_map,List.length_append,List.length_map,List.length_take];omega
   intro cy ch cg cb c7;have cc:=aq.atom cg cb c7;obtain⟨A9,c9,f5,g5,fl⟩:=cg.form;have b7:GrN (λk=>(Value.slice AA ((jAs f 0 (Ms.take i)++(M.ats.take j).map (Qa f s)).map toAtm).length ac).ownBlock=some k) cw ch:=GrN.by cb λk hk=>hk
   have ar:=Jv aq.hb b7 λe=>c1 _ e rfl;refine ρ ?_;refine Jr b7 ?_;refine ρn ?_;refine Xu ?_;refine sto (ar.at (i:=4) rfl) (ar.frozen 4) ?_ (hv:=by rw[f5];rfl);generalize hw19:ch.setCell ((⟨a1,0,none⟩:Addr).add 4) cy=w19 at cc ⊢
   have bp:GrN (λk=>k=a1) ch w19:=by rw[<-hw19];exact GrN.set _ rfl
   have bw:=Jv (Jv ((a6.ext ab).ext a5) b7 λe=>di _ e rfl) bp om;refine Jc (Us ?_);refine ρn ?_;refine ρ ?_;refine Jh (j+1) cy sO ⟨lj,bw,λg e=>?_,?_⟩ om
   .rcases c7 g e with h1|h1
    .exact di g h1
    have:=a6.lt;have:=a5.size;omega
   have e:(jAs f 0 (Ms.take i)++(M.ats.take (j+1)).map (Qa f s)).map toAtm=(jAs f 0 (Ms.take i)++(M.ats.take j).map (Qa f s)).map toAtm++[toAtm (Qa f s a)]:=by
    rw[Qr pa0 lj,<-ha];simp
   rw[e];exact cc
  have da:j=M.ats.length:=by have:=oF h;omega
  clear h;have f2:(jAs f 0 (Ms.take i)++(M.ats.take j).map (Qa f s)).map toAtm=(jAs f 0 (Ms.take (i+1))).map toAtm:=by
   rw[dv,Jdp,<-hs,da,List.take_length]
  rw[f2]at O;refine ldR (a6.at (i:=0) rfl) ?_;refine ρ ?_;have f6:(s:Int)+((M.N:Int)-(f:Int))=((s+(M.N-f):Nat):Int):=om
  rw[f6];exact Kg (i+1) (s+(M.N-f)) _ va sO ⟨li,by rw[ap];omega,O⟩ om
 have bo:i=m:=by have:=oF h;omega
 clear h;have bm:Ms.take i=Ms:=List.take_of_length_le om;rw[bm]at hS;obtain⟨PA,pd,rfl,ef,bn⟩:=hS.pf;obtain⟨AA,ad,rfl,g8,ah⟩:=hS.oa.form;refine Jo hS.hb ?_;have e2:Blk w6 b2 42 [.int .i64 0,.int .i64 0,.slice none 0 0,.slice none 0 0,.slice none 0 0]:=dz.ext hS.ex;refine Qo e2 ?_;intro w7 e1 ej bj;have d5:Ext w w7:=bj w an eo;have b6:GrN (λk=>k=b2) w6 w7:=GrN.by ej λj hj=>by injection hj with hj;exact hj.symm
 have dk:=hS.b2;have fi:=hS.b1;have fj:=hS.b0;have ey:Rd w7 1 DC ds.length (ds.map Value.bool):=Kf (et.ext hS.ex) (λh0 ad e (he:ad.block=b2)=>by have:=ew ad e;omega) w7 b6;have eu:=Ju hS.op b6 λg e h=>by have:=(bn g e).1;omega
 have f3:=hS.oa.gr (b6.mono λk _ h=>.inl (.inr h)) λg e h=>by
  rcases h with(h|h)|h
  .have:=(ah g e).1;omega
  .have:=(ah g e).1;omega
  exact hS.dj g e h
 refine ρ ?_;refine Vx e1 ⟨d5,_,rfl,_,_,_,rfl,⟨DC,dC,rfl,em,ai.dl.2,ey⟩,⟨PA,pd,?_,?_,?_,?_⟩,Jfr (f3.gv (by rw[List.length_map];omega))⟩
 .show _=Value.slice PA (nz (jPm f 0 Ms)).length pd;rw[Qv]
 .show(nz (jPm f 0 Ms)).length<=pd;rw[Qv];exact ef
 .show(nz (jPm f 0 Ms)).length<=1100000;rw[Qv];omega
 show Rd w7 1 PA (nz (jPm f 0 Ms)).length (Ja (nz (jPm f 0 Ms)));rw[Qv];exact Rd.own eu
open Go.RowKit Pl Go.Wk _root_.Go.Proofs.Tryz
variable {f mc:Nat}{MA:Option Addr}{D:UD}{w w':World}
theorem zUni: Qu prog 33=some (.agg #[.int .i64 0,.int .i64 0,.slice none 0 0,.slice none 0 0,.slice none 0 0]):=kr
theorem Xyd(k f:Int)(A B C:Option Addr)(a b c a' b' c':Nat)(w:World): (Instr.build 33 #[(0,.int .i64 k),(1,.int .i64 f),(2,.slice A a a'),(3,.slice B b b'),(4,.slice C c c')]).run prog w=.ok (.agg #[.int .i64 k,.int .i64 f,.slice A a a',.slice B b b',.slice C c c']) w:=kr
def SF.bv(ds:List Bool): SF:=⟨λv w=>BoolsV w v ds,λh hx=>h.ext hx⟩
theorem noN(h:Ext w w'): GrN (λ_=>False) w w':=GrN.ext h
structure PreU(w:World)(D:UD)(MA:Option Addr): Prop where
 rd:Rd w 5 MA D.n (Ql D.n D.xc)
 ix:∀ i,i<D.n->IxA w (.agg (D.xc i).toArray) D.f D.ds (D.kf i) (D.pf i) (D.BB i) (D.tot i) (D.M (i+1))
 up:UnP D.k D.f D.ds D.M D.U
 hm:∀ i,i<D.n->Qb D.f (λv=>hmB (D.BB i v))<=D.Hm
 hl:D.Hm<=10000000
 ml:∀ s,(D.M s).length<=5000
theorem PreU.ext{w w':World}{D:UD}{MA:Option Addr}(h:PreU w D MA)(hx:Ext w w'): PreU w' D MA:=⟨h.rd.ext hx,λi hi=>(h.ix i hi).ext hx,h.up,h.hm,h.hl,h.ml⟩
theorem PreU.x5(h:PreU w D MA): ∀ i,i<D.n->∃ A B C D' E a b c' d e a' b' c2 d' e',D.xc i=[.slice A a a',.slice B b b',.slice C c' c2,.slice D' d d',.slice E e e']:=λi hi=>by
 obtain⟨DA,Z,BA,cb,KA,ck,G,cp,J,u,o,e,_,_,_,_,_,_,j,_⟩:=(h.ix i hi).ix.ex;obtain⟨TA,O,rfl,_⟩:=j;grind
theorem Qwz{xc:Nat->List Value}: ∀ n,(∀ i,i<n->∃ A B C D' E a b c' d e a' b' c2 d' e',xc i=[.slice A a a',.slice B b b',.slice C c' c2,.slice D' d d',.slice E e e'])->∀ u∈Ql n xc,u.oneCell'=true
 | 0,_,u,hu=>by cases hu
 | n+1,h,u,hu=>by
  rw[Ih,List.mem_append]at hu;rcases hu with hu|hu
  .exact Qwz n (λi hi=>h i om) u hu
  obtain⟨A,B,C,D',E,a,b,c',d,e,a',b',c2,d',e',hx⟩:=h n om;rw[hx]at hu;simp only[List.mem_cons,List.not_mem_nil,or_false]at hu;rcases hu with rfl|rfl|rfl|rfl|rfl<;>rfl
theorem Qsx{x:Value}{ds:List Bool}{kf:Nat->Nat}{pf:Nat->Int}{BB:Nat->List BkT}{tot:Nat}{L:List Row}(h:IxA w x f ds kf pf BB tot L):
  Ret prog 64 [x] w λu w'=>NatV w' u L.length/\Ext w w':=by
 obtain⟨DA,dc,BA,cb,KA,ck,J,cp,tv,D,C,rfl,_⟩:=id h.ix.ex;refine enE func64 ntmps64 ?_;refine bxR ?_;intro Z b i hb G;refine Jo G ?_;refine clR (Jvw (h.ix.ext i) h.ip.nbT) ?_;rintro u O ⟨o,_,j⟩;refine ρ ?_;rw[h.ip.len]at o;exact Jj ⟨o,i.trans j⟩
theorem Qhd(hP:PreU w D MA):
  Ret prog 28 [.int .i64 (D.k:Int),.slice MA D.n mc] w λu w'=>Ext w w'/\∃ DA dc NA nc SA sl sc,u=.tuple #[.agg #[.int .i64 (D.k:Int),.int .i64 (D.f:Int),.slice DA D.f dc,.slice NA D.n nc,.slice SA sl sc],.int .i64 0]/\D.f<=dc/\D.ds.length=D.f /\
   Off (λk=>k<w.heap.size) w' λW=>RdB W DA D.ds/\Rd W 5 NA D.n (Ql D.n D.xc)/\NatV W (.slice SA sl sc) D.U.length:=by
 have b2:=hP.up.k1;have b1:=hP.up.k3;have a1:1<=D.n:=by
  have:=Nat.pow_le_pow_right (show 0<2 by omega) b2;unfold UD.n;omega
 have az:D.n<=7:=by
  have:=Nat.pow_le_pow_right (show 0<2 by omega) b1;unfold UD.n;omega
 have ac:∀ i,i<D.n->(D.xc i).length=5:=λi hi=>by obtain⟨A,B,C,D',E,a,b,c',d,e,a',b',c2,d',e',h⟩:=hP.x5 i hi;rw[h];rfl
 have a2:∀ {W:World} (hx:Ext w W) {i:Nat} (hi:i<D.n) {j:Nat} {u:Value},(D.xc i)[j]?=some u->W.cell? ((adr MA (i*5)).add j)=some u:=λhx i hi j u hu=>by
  have hj:j<5:=by
   rcases Nat.lt_or_ge j 5 with h'|h'
   .exact h'
   rw[List.getElem?_eq_none (by rw[ac i hi];omega)]at hu;cases hu
  rw[Xk];exact(hP.rd.ext hx).cell (by rw[Yv ac hi hj];exact hu)
 have b7:∀ {i},i<D.n->D.ds.length=D.f/\D.f<=32:=λhi=>⟨(hP.ix _ hi).ix.dl,(hP.ix _ hi).ip.f32⟩;have ap:IntKind.i64.wrap (1*2^min ((D.k:Int)).toNat IntKind.i64.bits)=((D.n+1:Nat):Int):=by
  have:D.k=1∨D.k=2∨D.k=3:=om
  unfold UD.n;rcases this with h|h|h<;>rw[h]<;>rfl
 refine enE func28 ntmps28 ?_;refine Jw zUni ?_;intro w1 b4 ah ba aw;refine ρ ?_;refine Go.Wk.kf 13 ?_ ?_
 .exact dF om
 refine cfR ?_ ?_
 .exact dF om
 refine ρ ?_;refine Jxw rfl rfl om rfl ?_;refine Go.Wk.kv 21 (congrArg (Value.int .i64) ap) ?_;refine cfR ?_ ?_
 .exact bne_eq_false_iff_eq.2 om
 obtain⟨A,B,C,D',E,a,b,c',d,e,a',b',c2,d',e',O⟩:=hP.x5 0 a1;have ak:Ext w1 w1.drew:=(Ext.refl w1).drew;have J:=ah.trans ak;have a4:=(hP.ix 0 a1).ext J;rw[O]at a4;obtain⟨ae,bl⟩:=b7 a1;refine ρ ?_;refine drH (λ_=>false) ?_;refine Zz (fuel':=4) 14 [(0,0),(0,1),(0,2),(0,4),(0,5),(0,6)] #[true,true,true,false,true,true,true,false,false,false] kr kr rfl ?_;refine Zr 5 0 (hP.rd.ext J) a1 ?_;refine Qq (cs:=[.slice A a a',.slice B b b',.slice C c' c2,.slice D' d d',.slice E e e']) (λj u hu=>a2 J a1 (by rw[O];exact hu)) ?_;refine Zr 5 0 (hP.rd.ext J) a1 ?_;refine Qq (cs:=[.slice A a a',.slice B b b',.slice C c' c2,.slice D' d d',.slice E e e']) (λj u hu=>a2 J a1 (by rw[O];exact hu)) ?_;refine ρd ?_;refine Xw ?_;refine hmkS 14 2 _ (lst 10 8) [3,7] [28,32] [SF.eq (.int .i64 (D.f:Int)),SF.bv D.ds] kr (by rfl) ?_ ?_
 .refine gsc (λvs v1 a7 hd=>?_) ?_
  .simp only[slM];refine cl (Jkh (a4.ext a7).ix) ?_;rintro u v2 ⟨rfl,ag⟩;exact Jc (Zg ag rfl)
  refine gsc (λvs v1 a7 hd=>?_) gse
  simp only[slM];refine cl (Qkw (a4.ext a7).ix) ?_;rintro u v2 ⟨hu,ag⟩;exact Jc (Zg ag hu)
 intro vs w2 a7 hd;have e0:vs 0=_:=hd 0;obtain⟨FA,fc,e1,c4,c3,au⟩:=hd 1;simp only[slM,e0,e1];refine Zz (fuel':=0) 14 [(0,8),(0,9)] (lst 10 10) kr kr rfl ?_;refine ρd ?_;refine Xw ?_;refine Vo kr ?_;have a3:=ak.trans a7;have an:=ah.trans a3;refine ρ ?_;refine Qm (fun (i:Nat)=>[(0,.int .i64 (D.k:Int)),(1,.slice MA D.n mc),(4,.pointer (some ⟨b4,0,none⟩)),(5,.int .i64 0),(6,.int .i64 (D.f:Int)),(7,.slice FA D.ds.length fc),(33,.slice MA D.n mc),(34,.int .i64 (D.n:Int)),(35,.int .i64 (i:Int))])
  (λi w'=>i<=D.n/\Ext w2 w') (λi=>D.n-i) 0 sB ⟨Nat.zero_le _,Ext.refl _⟩ ?_
 rintro i w3 ⟨hi,a6⟩;have o:=an.trans a6;refine ciR (λh=>?_) (λh=>?_)
 .have li:i<D.n:=by have:=oT h;omega
  clear h O a4;obtain⟨A,B,C,D',E,a,b,c',d,e,a',b',c2,d',e',O⟩:=hP.x5 i li;have aj:=hP.ix i li;rw[O]at aj;refine Qn 5 i (hP.rd.ext o) li ?_;refine Jl (cs:=[.slice A a a',.slice B b b',.slice C c' c2,.slice D' d d',.slice E e e']) (λj u hu=>a2 o li (by rw[O];exact hu)) ?_;refine Jw Iu ?_;intro w4 b9 a5 b8 bh;refine Qo bh ?_;intro w5 af c1 Z;have a8:Ext w3 w5:=Z w3 a5 b8;have aa:=o.trans a8;refine Jo af ?_;refine clR (Jkh (aj.ext aa).ix) ?_;rintro u w6 ⟨rfl,G⟩;have av:=af.ext G;refine ρ ?_;refine Go.Wk.kf 43 ?_ ?_
  .simp
  refine Jo av ?_;refine clR (Qkw (aj.ext (aa.trans G)).ix) ?_;rintro u w7 ⟨⟨GA,gc,rfl,bz,b3,bf⟩,a9⟩;refine clR (Jff bf (au.ext (((a6.trans a8).trans G).trans a9)) b3) ?_;rintro u w8 ⟨rfl,ax⟩;rw[decide_eq_true rfl];refine ρ ?_;exact Qy (i+1) sO ⟨li,(((a6.trans a8).trans G).trans a9).trans ax⟩ om
 clear h;refine ρ ?_;have ao:=hP.up.total;refine cl (Jgz (S:=λ_=>False) (I:=λ_ _=>True) (c:=λs=>(D.M s).length) (cap:=[]) hP.x5 az (λk hk=>hk.elim) (λW hW=>(hP.rd.ext o).ext hW.toExt) (λi=>by have:=hP.ml i;omega) trivial (λ_ _ _ _ _=>trivial) (λi hi W hW _=>?_)) ?_
 .refine(Qsx ((hP.ix i hi).ext (o.trans hW.toExt))).mono ?_;rintro u W' ⟨h1,h2⟩;exact⟨⟨h1,λ_ _ _ _ _ h=>h⟩,noN h2,trivial⟩
 rintro sv w4 ⟨ai,ay,b6,_⟩;have a5:=b6.toExt;have ab:=o.trans a5;rw[show sgP (λs=>(D.M s).length) D.n-sgM (λs=>(D.M s).length) D.n=D.U.length by rw[show D.n=2^D.k-1 from rfl,ao];omega]at ai;refine clR (Jpd (au.ext (a6.trans a5)) (λu hu=>by obtain⟨b,_,rfl⟩:=List.mem_map.1 hu;rfl) om) ?_;rintro u w5 ⟨⟨DC,dC,rfl,c5,bc,bg⟩,Z⟩;refine clR (Xvg (hP.rd.ext (ab.trans Z)) (Qwz _ hP.x5) om) ?_;rintro u w6 ⟨⟨NA,nc,rfl,bw,bb,be⟩,G⟩;obtain⟨SA,sc,rfl,bs,c6,c7⟩:=id ai;refine Zl (Xyd _ _ _ _ _ _ _ _ _ _ _ _) ?_;refine Qo (((aw.ext a3).ext (a6.trans a5)).ext (Z.trans G)) ?_;intro w7 bi b5 a9;have br:=aw.lt;have bq:=a3.size;have bp:=a6.size;have bo:=a5.size;have bn:=Z.size;have aq:GrN (λk=>k=b4) w6 w7:=GrN.by b5 λj hj=>by injection hj with hj;exact hj.symm
 have am:Ext w w7:=a9 w ((ab.trans Z).trans G) ba;have ar:D.f<=dC:=om
 have bm:=ah.size;have bj:=a3.size;have bd:Off (λk=>k<w.heap.size∨k=b4) w6 λW=>RdB W DC D.ds/\Rd W 5 NA D.n (Ql D.n D.xc)/\NatV W (.slice SA (Jq D.U.length).length sc) D.U.length:=λW hW=>
  ⟨Kf (bc.ext G) (λh0 ad e he=>by have:=bg ad e;omega) W hW,Kf bb (λh0 ad e he=>by have:=be ad e;omega) W hW,
   (NatX.gr (N:=λk=>k<w.heap.size∨k=b4) ⟨(ai.ext Z).ext G,λ_ ad m c e he=>by have:=ay ad m c e;omega⟩ hW).1⟩
 refine ρ ?_;refine Vx bi ⟨am,DC,dC,NA,nc,SA,_,sc,by rw[ae],ar,ae,λW hW=>bd W ((aq.mono λk _ h=>.inr h).trans (hW.mono λk _ h=>.inl h))⟩
open Go.RowKit Pl Go.Wk
variable {gs:List (List CsA)}{ds:List Bool}{B0 c f s:Nat}{xc:Nat->List Value}{A:Option Addr}{α β:Type}{v x:Value}{W w:World}
structure IxD where
 s: Nat
 kf:Nat->Nat
 pf:Nat->Int
 BB:Nat->List BkT
 tot:Nat
def IxG(f:Nat)(ds:List Bool)(gs:List (List CsA))(w:World)(cs:List Value)(d:IxD): Prop:=IxA w (.agg cs.toArray) f ds d.kf d.pf d.BB d.tot (Xb (pick gs d.s).flatten)
theorem IxA.on{kf:Nat->Nat}{pf:Nat->Int}{BB:Nat->List BkT}{tot:Nat}{L:List Row}(h:IxA w x f ds kf pf BB tot L)(hv:IxV W x f ds kf pf BB tot)(tb:∃ B0,TB B0 W): IxA W x f ds kf pf BB tot L:=⟨tb,hv,h.ip,h.ho,h.hb⟩
theorem Qbt{ms:List CsA}(hTB:TB B0 w)(h:∀ p∈ms,CsM f ds p)(hds:ds.length=f)(hne:ms≠[])(h4:ms.length<=4)(hv:InV w v (Yk f ds (Qg f (Qp ms)))):
  Ret Tryz.prog 29 [v] w λu w'=>Ext w w'/\∃(x:Value) (st:Int) (kf:Nat->Nat) (pf:Nat->Int) (BB:Nat->List BkT) (tot:Nat),u=.tuple #[x,.int .i64 st,.int .i64 0]/\IxA w' x f ds kf pf BB tot (Xb ms)/\Off (λk=>k<w.heap.size) w' λW=>IxV W x f ds kf pf BB tot:=by
 obtain⟨ts,o,hB⟩:=Xxd hv hds;have D:Qp ms≠[]:=λe=>hne (List.map_eq_nil_iff.1 e);have O:(Qp ms).length<=4:=by simpa [Qp] using h4
 have hI:=jBldI (ds:=ds) (ts:=ts) (Jzc h) hds D O o;have C:ts.length=(jAs f 0 (Qp ms)).length:=by have:=congrArg List.length o;grind [Qg]
 refine(Xqm hTB hI hB).mono ?_;rintro u w' ⟨Z,x,st,kf,pf,R,rfl,hE,j⟩;obtain⟨hL,hl,J⟩:=Xvc h hne C;refine⟨Z,x,st,kf,pf,_,_,rfl,Xqn ⟨B0,hTB.ext Z⟩ hI (λi hi=>?_) hE j.here hL J om,λW hW=>(j W hW).congr λv hv=>by grind [BBx]⟩;rw[o];have G:i<(jAs f 0 (Qp ms)).length:=C ▸ hi;show((jAs f 0 (Qp ms)).map toAtm |>.getD i a0).rows=_;simp[rwL,List.getD,G,toAtm]
theorem Jnh(d:α)(ps:List (List Value×α)): Qz ps=Ql ps.length λi=>(ps.getD i ([],d)).1:=by
 have key:∀ n,n<=ps.length->Qz (ps.take n)=Ql n λi=>(ps.getD i ([],d)).1:=by
  intro n;induction n with
  | zero=>intro _;rfl
  | succ n ih=>
   grind [Qr,Ih,Qz]
 grind
theorem InsM.of{ps:List (List Value×UMem)}(hr:Rd w 5 A ps.length (Qz ps))(he:∀ p∈ps,InC w (Yk f ds p.2) p.1): InsM w A f ds (ps.map (·.2)) λi=>(ps.getD i ([],um0)).1:=by
 refine⟨by rw[List.length_map,<-Jnh um0];exact hr,λi hi=>?_⟩;grind
theorem InsM.its{Ms:List UMem}(h:InsM w A f ds Ms xc): ∃ ps:List (List Value×UMem),ps.map (·.2)=Ms/\ps.length=Ms.length/\(∀ i,i<Ms.length->ps.getD i ([],um0)=(xc i,Ms.getD i um0))/\∀ p∈ps,InC w (Yk f ds p.2) p.1:=by
 refine⟨(List.range Ms.length).map λi=>(xc i,Ms.getD i um0),?_,by simp,λi hi=>by simp[List.getD,hi],λp hp=>?_⟩
 .rw[List.map_map];refine List.ext_getElem (by simp) λi o j=>?_;simp[List.getD,j]
 obtain⟨i,hi,rfl⟩:=List.mem_map.1 hp;exact h.el i (List.mem_range.1 hi)
theorem Qrm(g:α->β)(l:List α)(s i:Nat): Yl (l.map g) s i=(Yl l s i).map g:=by grind [Yl]
theorem Qxk(g:α->β)(l:List α)(s:Nat): pick (l.map g) s=(pick l s).map g:=by
 unfold pick;rw[List.length_map,Qrm]
theorem Qkk(hs:List (List CsA)): Qg f (hs.map λg=>Qg f (Qp g))=Qg f (Qp hs.flatten):=by
 have i:=Qkm (f:=f) (s:=0) (Gs:=hs.map Qp);have e:(hs.map Qp).map (Qg f)=hs.map λg=>Qg f (Qp g):=by rw[List.map_map];rfl
 have j:(hs.map Qp).flatten=Qp hs.flatten:=by unfold Qp;rw[List.map_flatten]
 grind [Qg]
theorem Qjn: ∀ s,s<8->∀ i,i<3->(bits .and .i64 (((s:Nat):Int).fdiv (2^min (((i:Nat):Int)).toNat IntKind.i64.bits)) 1 == 1)=s.testBit i:=by decide
def mxR: Nat->(Nat->Nat)->Nat
 | 0,_=>0
 | n+1,g=>max (mxR n g) (g n)
theorem Qkh{g:Nat->Nat}: ∀ {n i:Nat},i<n->g i<=mxR n g
 | n+1,i,h=>by
  rw[mxR];rcases Nat.lt_or_ge i n with h1|h1
  .have:=Qkh (g:=g) h1;omega
  repeat grind
theorem Qzd{g:Nat->Nat}{B:Nat}: ∀ {n:Nat},(∀ i,i<n->g i<=B)->mxR n g<=B
 | 0,_=>Nat.zero_le _
 | n+1,h=>by
  have h1:=Qzd (g:=g) (n:=n) λi hi=>h i om;grind [mxR]
theorem Jtm{g:Nat->Nat}{B:Nat}(h:∀ i,g i<=B): ∀ n,Qb n g<=n*B
 | 0=>Nat.zero_le _
 | n+1=>by
  have h1:=Jtm h n;grind [Qb,Nat.succ_mul]
def Zh: IxD:=⟨0,λ_=>0,λ_=>0,λ_=>[],0⟩
structure HsOk(hs:List (List CsA))(f:Nat)(ds:List Bool): Prop where
 nil:hs≠[]
 c3:hs.length<=3
 c4:hs.flatten.length<=4
 ne:∀ g∈hs,g≠[]
 ok:∀ g∈hs,∀ p∈g,CsM f ds p
theorem CsU.hs(h:CsU gs f ds): HsOk gs f ds:=⟨λe=>by have:=h.c1;grind,h.c3,h.c4,h.ne,h.ok⟩
theorem CsU.hp(h:CsU gs f ds)(h1:1<=s)(h2:s<2^gs.length): HsOk (pick gs s) f ds :=
 ⟨Qxj h1 h2,Nat.le_trans Qrl h.c3,h.p4,λg i=>h.ne g (pick_sub.subset i),λg i=>h.ok g (pick_sub.subset i)⟩
section
variable {hs:List (List CsA)} {f:Nat} {ds:List Bool} (h:HsOk hs f ds)
include h
theorem HsOk.fok: ∀ p∈hs.flatten,CsM f ds p:=λp hp=>by
 obtain⟨g,j,i⟩:=List.mem_flatten.1 hp;exact h.ok g j p i
theorem HsOk.fne: hs.flatten≠[]:=by
 obtain⟨g,i⟩:=List.exists_mem_of_ne_nil _ h.nil;obtain⟨p,hp⟩:=List.exists_mem_of_ne_nil _ (h.ne g i);exact List.ne_nil_of_mem (List.mem_flatten.2 ⟨g,i,hp⟩)
theorem HsOk.meet(hds:ds.length=f): (∀ M∈hs.map (λg=>Qg f (Qp g)),UMt f ds M)/\jN f 0 (hs.map λg=>Qg f (Qp g))<=32/\(jPm f 0 (hs.map λg=>Qg f (Qp g))).length<=1000/\(jAs f 0 (hs.map λg=>Qg f (Qp g))).length<=1000:=by
 have e:=Qkk (f:=f) hs;have G:jN f 0 (hs.map λg=>Qg f (Qp g))=jN f 0 (Qp hs.flatten):=congrArg UMem.N e;have D:jPm f 0 (hs.map λg=>Qg f (Qp g))=jPm f 0 (Qp hs.flatten):=congrArg UMem.perm e;have C:jAs f 0 (hs.map λg=>Qg f (Qp g))=jAs f 0 (Qp hs.flatten):=congrArg UMem.ats e;have i:=Jzc h.fok;have o:(Qp hs.flatten).length<=4:=by rw[Qp,List.length_map];exact h.c4
 have J:=(Jpf i hds (λe=>h.fne (List.map_eq_nil_iff.1 e)) o).1;have O:=Jxl (s:=0) i;have hp:=(Jmp (s:=0) i).1;refine⟨λM u=>?_,by rw[G];omega,by rw[D];omega,by rw[C];omega⟩;obtain⟨g,j,rfl⟩:=List.mem_map.1 u;refine Qkl (Jzc (h.ok g j)) hds (λe=>h.ne g j (List.map_eq_nil_iff.1 e)) ?_;have Z:=flat_len (List.singleton_sublist.2 j);grind [Qp,List.length_map]
theorem HsOk.meet_any(hds:ds.length=f)(hI:InsM w A f ds (hs.map λg=>Qg f (Qp g)) xc):
  Ret Tryz.prog 27 [.slice A hs.length c] w λu w'=>Ext w w'/\∃ cs,u=.tuple #[.agg cs.toArray,.int .i64 0]/\InC w' (Yk f ds (Qg f (Qp hs.flatten))) cs:=by
 obtain⟨C,o,j,i⟩:=h.meet hds;have:=Qhg (c:=c) hI C (λe=>h.nil (List.map_eq_nil_iff.1 e)) (by rw[List.length_map];exact h.c3) o j i;grind [List.length_map,Qkk]
end
theorem Jpj(n f:Int)(A B C:Option Addr)(a b c a' b' c':Nat)(w:World): (Instr.buildSlice 23 1 #[(0,.agg #[.int .i64 n,.int .i64 f,.slice A a a',.slice B b b',.slice C c c'])]).run Tryz.prog w=.ok (.slice (some ⟨w.heap.size,0,none⟩) 1 1) (w.alloc (.cells [Value.int .i64 n,.int .i64 f,.slice A a a',.slice B b b',.slice C c c'].toArray 42)):=kr
theorem bs1Ix(A B C D E:Option Addr)(a b c d e a' b' c' d' e':Nat)(w:World): (Instr.buildSlice 29 1 #[(0,.agg #[.slice A a a',.slice B b b',.slice C c c',.slice D d d',.slice E e e'])]).run Tryz.prog w=.ok (.slice (some ⟨w.heap.size,0,none⟩) 1 1) (w.alloc (.cells [Value.slice A a a',.slice B b b',.slice C c c',.slice D d d',.slice E e e'].toArray 77)):=kr
theorem Jsr(hTB:TB B0 w)(hC:CsU gs f ds)(hds:ds.length=f)(hI:InsM w A f ds (gs.map λg=>Qg f (Qp g)) xc):
  Ret Tryz.prog 12 [.slice A gs.length c] w λu w'=>Ext w w'/\∃(cs:List Value) (st:Int) (D:UD),u=.tuple #[.agg cs.toArray,.int .i64 st,.int .i64 0]/\UnV w' D cs/\D.k=gs.length/\D.f=f/\D.ds=ds/\D.U=Gj ds gs/\D.M=(λs=>Xb (pick gs s).flatten)/\D.Hm=mxR D.n (λi=>Qb D.f λv=>hmB (D.BB i v)):=by
 have dk:=hC.c1;have dj:=hC.c3;obtain⟨its,hits,cb,az,cc⟩:=hI.its;rw[List.length_map]at cb az;have bw:Rd w 5 A gs.length (Ql gs.length xc):=by have:=hI.rd;rwa [List.length_map]at this
 have bm:∀ {i},i<gs.length->∃ D Q T dc pc tc ts,InF w f ds ((gs.map λg=>Qg f (Qp g)).getD i um0) (xc i) D Q T dc pc tc ts:=λhi=>(hI.el _ (by rw[List.length_map];exact hi)).inF;have ay:∀ i,i<gs.length->(xc i).length=5:=λi hi=>by obtain⟨D,Q,T,dc,pc,tc,ts,h⟩:=bm hi;rw[h.e];rfl
 have be:∀ {W:World} (hx:Ext w W) {i:Nat} (hi:i<gs.length) {j:Nat} {u:Value},(xc i)[j]?=some u->W.cell? ((adr A (i*5)).add j)=some u:=λhx i hi j u hu=>by
  have hj:j<5:=by
   rcases Nat.lt_or_ge j 5 with h'|h'
   .exact h'
   rw[List.getElem?_eq_none (by rw[ay i hi];omega)]at hu;cases hu
  rw[Xk];exact(bw.ext hx).cell (by rw[Yv ay hi hj];exact hu)
 have c2:IntKind.i64.wrap (1*2^min ((gs.length:Int)).toNat IntKind.i64.bits)=((2^gs.length:Nat):Int):=by
  have:gs.length=1∨gs.length=2∨gs.length=3:=om
  rcases this with h|h|h<;>rw[h]<;>rfl
 have eh:2^gs.length<=8:=Nat.pow_le_pow_right (show 0<2 by omega) dj;have ei:2<=2^gs.length:=Nat.pow_le_pow_right (show 0<2 by omega) dk;refine enE Tryz.func12 Tryz.ntmps12 ?_;refine Jw zUni ?_;intro w1 b2 b8 dn bj;refine clR (hC.hs.meet_any hds (hI.ext b8)) ?_;rintro u w2 ⟨d9,d4,rfl,aq⟩;obtain⟨_,_,_,_,_,_,_,hF⟩:=aq.inF;have bi:=hF.e;subst bi;refine Jw Yt ?_;intro w3 b5 d8 dm dz;refine Qo dz ?_;intro w4 ea em d7;have bo:Ext w2 w4:=d7 w2 d8 dm;have ac:=d9.trans bo;refine Qd (λw=>Qcb w) ?_;intro w5 b7 bn dl dx;refine ρ ?_;have dt:OwnM 77 5 (IxG f ds gs) (λk=>k=b2) w5 w4.heap.size (.slice (some ⟨b7,0,none⟩) 0 0) []:=⟨[],rfl,dx.own (n:=0) dl rfl (Nat.zero_le _),λp hp=>by cases hp⟩;refine Zj (fun (s:Nat) (xv:Value) (st:Int)=>[(0,.slice A gs.length c),(2,.pointer (some ⟨b2,0,none⟩)),(7,xv),(8,.int .i64 st),(9,.int .i64 (s:Int))])
  (λs xv st w'=>1<=s/\s<=2^gs.length/\Ext w1 w'/\w4.heap.size<=w'.heap.size/\∃ Xd:List IxD,OwnM 77 5 (IxG f ds gs) (λk=>k=b2) w' w4.heap.size xv Xd/\Xd.length=s-1/\∀ i,i<s-1->(Xd.getD i Zh).s=i+1) (λs _ _=>2^gs.length-s) 1 (.slice (some ⟨b7,0,none⟩) 0 0) 0 sB
  ⟨nR _,om,ac.trans bn,bn.size,[],dt,rfl,λi hi=>absurd hi (Nat.not_lt_zero i)⟩ ?_
 rintro s xv st w6 ⟨dd,ef,J,aw,Xd,hO,ag,bf⟩;have a7:=b8.trans J;refine ρ ?_;refine Jxw rfl rfl om rfl ?_;refine Go.Wk.kv 32 (congrArg (Value.int .i64) c2) ?_;refine ciR (λh=>?_) (λh=>?_)
 .have ls:s<2^gs.length:=by have:=oT h;omega
  clear h;refine Qd (λw=>Xvv w) ?_;intro w7 e1 aa ck aj;refine ρ ?_;refine Qj (fun (i:Nat) (mv:Value)=>[(0,.slice A gs.length c),(2,.pointer (some ⟨b2,0,none⟩)),(7,xv),(8,.int .i64 st),(9,.int .i64 (s:Int)),(10,mv),(37,.slice A gs.length c),(38,.int .i64 (gs.length:Int)),(39,.int .i64 (i:Int))])
   (λi mv w'=>i<=gs.length/\Ext w6 w'/\w'.ownsRow w6.heap.size 42 5 mv (Yl its s i).length (Qz (Yl its s i))) (λi _=>gs.length-i) 0 (.slice (some ⟨e1,0,none⟩) 0 0) sB
   ⟨Nat.zero_le _,aa,aj.own (n:=0) ck rfl (Nat.zero_le _)⟩ ?_
  rintro i mv w8 ⟨hi,ab,a1⟩;have ad:=a7.trans ab;refine ciR (λh=>?_) (λh=>?_)
  .have li:i<gs.length:=by have:=oT h;omega
   clear h;obtain⟨D,Q,T,dc,pc,tc,ts,dv⟩:=bm li;have bb:=dv.e;refine Qn 5 i (bw.ext ad) li ?_;refine Jl (cs:=[.int .i64 (((gs.map λg=>Qg f (Qp g)).getD i um0).N:Int),.int .i64 (f:Int),.slice D ds.length dc,.slice Q ((gs.map λg=>Qg f (Qp g)).getD i um0).perm.length pc,.slice T ((gs.map λg=>Qg f (Qp g)).getD i um0).ats.length tc]) (λj u hu=>be ad li (by rw[bb];exact hu)) ?_;refine Jw Yt ?_;intro w9 eu a9 cj cw;refine Qo cw ?_;intro C av af Z;have a3:Ext w8 C:=Z w8 a9 cj;refine ρ ?_;refine Uk rfl rfl om rfl ?_;refine ρ ?_;have G:=ab.trans a3;have b6:i<its.length:=om
   have df:its[i]=(xc i,(gs.map λg=>Qg f (Qp g)).getD i um0):=by rw[<-az i li,Qc _ its b6]
   refine ci (λh=>?_) (λh=>?_)
   .have hb:s.testBit i=true:=(Qjn s om i om).symm.trans h;clear h;refine Jo av ?_;refine Qd (Jpj _ _ _ _ _ _ _ _ _ _ _) ?_;intro ak eo O e8 cp;have eg:(Yl its s i).length<=3:=by
     have:=(Jll (l:=its) (s:=s) i om).length_le;rw[List.length_take]at this;omega
    obtain⟨_,_,_,_,c8⟩:=Jb a1;refine ρ ?_;refine apb (m':=1) (news:=xc i) EInp (Jk (Jk a1 a3) O) (by rw[bb];exact cp.rd (n:=1) rfl) ?_ (by unfold maxLen;omega) om (G.trans O).size ?_
    .rw[bb];intro u hu;simp only[List.mem_cons,List.not_mem_nil,or_false]at hu;rcases hu with rfl|rfl|rfl|rfl|rfl<;>rfl
    intro d3 b4 c9 cd _;refine ρ ?_;refine Jh (i+1) d3 sO ⟨li,Qt (G.trans O) cd (λg e=>(c8 g e).1),?_⟩ om;rw[Jlk b6,if_pos hb,df,List.length_append];have e:Qz (Yl its s i++[(xc i,(gs.map λg=>Qg f (Qp g)).getD i um0)])=Qz (Yl its s i)++xc i:=by simp[Qz]
    rw[e];exact c9
   have hb:¬ s.testBit i=true:=λe=>by rw[(Qjn s om i om).symm.trans h]at *;cases e
   clear h;refine ρ ?_;refine Jh (i+1) mv sO ⟨li,G,?_⟩ om;rw[Jlk b6,if_neg hb];exact Jk a1 a3
  have dg:i=its.length:=by have:=oF h;omega
  clear h;rw[dg]at a1;have c5:(pick its s).map (·.2)=(pick gs s).map λg=>Qg f (Qp g):=by rw[<-Qxk,hits,Qxk]
  have c6:(pick its s).length=(pick gs s).length:=by have:=congrArg List.length c5;simpa using this
  change w8.ownsRow w6.heap.size 42 5 mv (pick its s).length (Qz (pick its s)) at a1
  rw[c6]at a1;obtain⟨MA,mc,rfl,ej,c8⟩:=Jb a1;have du:InsM w8 MA f ds ((pick gs s).map λg=>Qg f (Qp g)) λi=>((pick its s).getD i ([],um0)).1:=by
   rw[<-c5];refine InsM.of (by rw[c6];exact Rd.own a1) λp hp=>(cc p (pick_sub.subset hp)).ext ad
  have bh:=hC.hp dd ls;refine clR (bh.meet_any hds du) ?_;rintro u w9 ⟨a9,d4,rfl,aq⟩;obtain⟨D,Q,T,dc,pc,tc,ts,dw⟩:=id aq.inF;have bi:=dw.e;subst bi;refine Jw Yt ?_;intro C et Z ch cv;refine Qo cv ?_;intro ak au e6 O;have a8:Ext w9 ak:=O w9 Z ch;have a4:=(ab.trans a9).trans a8;have ba:=a7.trans a4;refine Jo au ?_;refine clR (Qbt (hTB.ext ba) (λp hp=>hC.pok p hp) hds bh.fne bh.c4 ⟨_,rfl,aq.ext a8⟩) ?_;rintro u b4 ⟨bs,x,sn,kf,pf,BB,tot,rfl,ah,ae⟩;obtain⟨XA,xd,YA,yd,ZA,zd,UA,ud,tv,ee,ed,rfl,_,_,_,_,_,_,da,_⟩:=id ah.ix.ex;obtain⟨TA,d2,rfl,_⟩:=id da;refine Jw Iu ?_;intro ec er br cg cr;refine Qo cr ?_;intro d1 ar e5 bq;have ao:Ext b4 d1:=bq b4 br cg;refine Jo ar ?_;refine Qd (bs1Ix _ _ _ _ _ _ _ _ _ _ _ _ _ _ _) ?_;intro d0 en bp e7 co;have a6:=ao.trans bp;have o:=(a4.trans bs).trans a6;have b9:=a7.trans o;obtain⟨PA,am,rfl,c7,ap⟩:=hO.form;have d5:=bj.lt;have cx:=J.size
  have e2:=a4.size;have eb:=ac.size;have e9:=hTB.le;have hΦ:Off (λk=>k=b2∨(Value.slice PA Xd.length am).ownBlock=some k) d0 (λu=>IxG f ds gs u [.slice XA f xd,.slice YA f yd,.slice ZA f zd,.slice UA f ud,.slice TA (Jq tot).length d2] ⟨s,kf,pf,BB,tot⟩):=λW hW=>by
   refine ah.on ((ae.ext a6) W (hW.mono λk _ hk=>?_)) ⟨B0,(hTB.ext b9).gr hW λk hk h=>?_⟩
   .rcases hk with hk|hk
    .show k<ak.heap.size;omega
    have:=(ap k hk).2;show k<ak.heap.size;omega
   rcases h with h|h
   .omega
   have:=(ap k h).1;have:=b8.size;omega
  have e3:Xd.length<=7:=om
  refine ρ ?_;refine apM EX5 (Φ:=IxG f ds gs) (hO.ext o) co rfl (λu hu=>?_) hΦ om om (nL aw o.size) ?_
  .simp only[List.mem_cons,List.not_mem_nil,or_false]at hu;rcases hu with rfl|rfl|rfl|rfl|rfl<;>rfl
  intro cy cz cn b3 e4;have an:Ext w1 cz:=(GrN.by (N:=λk=>(Value.slice PA Xd.length am).ownBlock=some k) b3 λk hk=>hk).old (J.trans o) λk hk=>by have:=(ap k hk).1;omega
  refine ρ ?_;refine Xx (s+1) cy _ sO ⟨om,om,an,Nat.le_trans (nL aw o.size) b3.size,_,cn,by rw[List.length_append,ag];simp;omega,λi hi=>?_⟩ om;rcases Nat.lt_or_ge i (s-1) with h1|h1
  .rw[List.getD,List.getElem?_append_left om];exact bf i h1
  have:i=s-1:=om
  subst this;rw[List.getD,List.getElem?_append_right om,ag];simp;omega
 have db:s=2^gs.length:=by have:=oF h;omega
 clear h;subst db;obtain⟨ps,e0,ax,bz⟩:=hO;subst e0;rw[List.length_map]at ag;obtain⟨PA,am,rfl,c7,ap⟩:=Jb ax;have b1:∀ i,i<ps.length->(ps.map (·.2)).getD i Zh=(ps.getD i ([],Zh)).2:=λi hi=>by simp[List.getD,hi]
 obtain⟨D,hD⟩:∃ D:UD,D=⟨gs.length,f,ds,λs=>Xb (pick gs s).flatten,Gj ds gs,λi=>(ps.getD i ([],Zh)).1,λi=>(ps.getD i ([],Zh)).2.kf,λi=>(ps.getD i ([],Zh)).2.pf,λi=>(ps.getD i ([],Zh)).2.BB,λi=>(ps.getD i ([],Zh)).2.tot,mxR ps.length (λi=>Qb f λv=>hmB ((ps.getD i ([],Zh)).2.BB v))⟩:=⟨_,rfl⟩;have ai:D.n=ps.length:=by rw[hD,ag];rfl
 have de:∀ s,(Xb (pick gs s).flatten).length<=5000:=λs=>Jpc hC.pok;have ah:∀ i,i<ps.length->IxA w6 (.agg (ps.getD i ([],Zh)).1.toArray) f ds (ps.getD i ([],Zh)).2.kf (ps.getD i ([],Zh)).2.pf (ps.getD i ([],Zh)).2.BB (ps.getD i ([],Zh)).2.tot (Xb (pick gs (i+1)).flatten):=λi hi=>by
  have h1:=(bz _ (getD_mem' ([],Zh) ps hi)).2.here;have h2:=bf i om;rw[b1 i hi]at h2;unfold IxG at h1;rw[h2]at h1;exact h1
 have a2:PreU w6 D PA:=by
  rw[hD];refine⟨?_,λi hi=>ah i (by have h:i<2^gs.length-1:=hi;omega),hC.unp,λi hi=>Qkh (g:=λi=>Qb f λv=>hmB ((ps.getD i ([],Zh)).2.BB v)) (by have h:i<2^gs.length-1:=hi;omega),?_,de⟩
  .have h1:=Rd.own ax;rw[Jnh Zh]at h1;show Rd w6 5 PA (2^gs.length-1) (Ql (2^gs.length-1) _);rw[<-ag];exact h1
  refine Qzd λi hi=>?_;have ca:=ah i hi;have h1:=Jtm (g:=λv=>hmB ((ps.getD i ([],Zh)).2.BB v)) (B:=65536) (λv=>Xxn λb hb=>ca.hb v b hb) f;have h2:=ca.ip.f32;have h3:f*65536<=32*65536:=nO _ h2;omega
 have cm:=Qhd (mc:=am) a2;rw[ai,show D.k=gs.length by rw[hD]]at cm;refine clR cm ?_;rintro u w7 ⟨aa,DA,dc,NA,nc,SA,sl,sc,rfl,di,dh,ae⟩;refine Jw zUni ?_;intro w8 ep d6 ce cq;refine Qo cq ?_;intro w9 bl ek a9;have a5:Ext w7 w9:=a9 w7 d6 ce;refine Jo bl ?_;refine Qo (bj.ext ((J.trans aa).trans a5)) ?_;intro C aj af Z;have bd:GrN (λk=>k=b2) w6 C:=(GrN.ext (aa.trans a5)).trans (GrN.by af λj hj=>by injection hj with hj;exact hj.symm);have bc:GrN (λk=>k=b2) w7 C:=(GrN.ext a5).trans (GrN.by af λj hj=>by injection hj with hj;exact hj.symm);have d5:=bj.lt;have cx:=J.size;obtain⟨k1,k2,k3⟩:=ae C (bc.mono λk _ hk=>by show k<w6.heap.size;omega);rw[<-ai]at k2;have bg:∀ i,i<ps.length->IxA C (.agg (ps.getD i ([],Zh)).1.toArray) f ds (ps.getD i ([],Zh)).2.kf (ps.getD i ([],Zh)).2.pf (ps.getD i ([],Zh)).2.BB (ps.getD i ([],Zh)).2.tot (Xb (pick gs (i+1)).flatten):=λi hi=>by
  have h1:=(bz _ (getD_mem' ([],Zh) ps hi)).2 C (bd.mono λk _ hk=>.inl hk);have h2:=bf i om;rw[b1 i hi]at h2;unfold IxG at h1;rw[h2]at h1;exact h1
 have dq:UnV C D [.int .i64 (D.k:Int),.int .i64 (D.f:Int),.slice DA D.f dc,.slice NA D.n nc,.slice SA sl sc] :=
  ⟨⟨DA,dc,NA,nc,SA,sl,sc,rfl,di,dh,k1,k2,k3⟩,λi hi=>by rw[ai]at hi;have:=bg i hi;rw[hD];exact this,a2.up,a2.hm,a2.hl,a2.ml⟩
 refine ρ ?_;refine Jkm aj ⟨Z w ((a7.trans aa).trans a5) dn,_,st,D,?_,dq,by rw[hD],by rw[hD],by rw[hD],by rw[hD],by rw[hD],?_⟩
 .rw[ai,hD]
 rw[ai,hD]
open Go.RowKit Pl Go.Wk _root_.Go.Proofs.Tryz
variable {c:Cse}{ats:List Atm}{A B C aA dA pA:Option Addr}{w:World}
def tt5: TT:=(22,{ desc:=.slice 65,esz:=6 })::(24,{ desc:=.slice 108,esz:=5 })::tt4
theorem Jst: TOk prog tt5:=⟨⟨kr,kr,kr⟩,⟨kr,kr,kr⟩,Jsv⟩
instance (priority:=6000):Tab prog tt5:=⟨Jst,mixed⟩
theorem ERin: ElT prog 24 108 5 88 (.agg #[.int .i64 0,.int .i64 0,.slice none 0 0,.slice none 0 0,.slice none 0 0]):=⟨underlying24,info_parts kr,rfl,by decide⟩
def c0: Cse:=⟨0,0,[],[],[],[]⟩
structure CsesV(w:World)(A:Option Addr)(l:List Cse)(xc:Nat->List Value): Prop where
 rd:Rd w 6 A l.length (Ql l.length xc)
 el:∀ i,i<l.length->CseV w (xc i) (l.getD i c0)
theorem CsesV.ext{w w':World}{A:Option Addr}{l:List Cse}{xc:Nat->List Value}(h:CsesV w A l xc)(hx:Ext w w'): CsesV w' A l xc:=⟨h.rd.ext hx,λi hi=>(h.el i hi).ext hx⟩
theorem CseOk.atm(h:CseOk c ats): (Zy c ats).ats.map toAtm=ats:=by
 have u:ats.length=c.m:=h.al;refine List.ext_getElem (by simp[Zy,u]) λi J C=>?_;have hi:i<c.m:=om
 have o:=h.vars hi;have j:=h.mka i (by grind [Cse.m]);have e:ats.getD i a0=ats[i]:=Qc a0 ats C;simp only[Zy,List.map_map,List.getElem_map,List.getElem_range,Function.comp,toAtm,rsA,e];rw[e]at j;have G:=j.vars;have D:=j.ar;rw[o.1,o.2.2.2];cases hat:ats[i] with
 | mk v a r=>
  grind
theorem Qwj{dc pc ac an:Nat}(h:CseOk c ats)(hD:BoolsV w (.slice dA c.ds.length dc) c.ds)(hP:IntsV w (.slice pA c.pm.length pc) c.pm)(hG:GV 3 AtG w (.slice aA an ac) ats):
  InC w (Yk c.F c.ds (Zy c ats)) [.int .i64 c.n,.int .i64 c.f,.slice dA c.ds.length dc,.slice pA c.pm.length pc,.slice aA an ac]:=by
 refine⟨.slice dA c.ds.length dc,.slice pA c.pm.length pc,.slice aA an ac,?_,hD,?_,?_⟩
 .rw[h.nN.1,h.fF.1];rfl
 .show IntsV w _ (nz (toN c.pm));rw[h.pm.2];exact hP
 show AtsV w _ ((Zy c ats).ats.map toAtm);rw[h.atm];exact Jfr hG
def RefG(w:World)(cs:List Value)(p:CsA): Prop:=∃ pA pn pc vA vc rA rc,cs=Vk (p.1.N:Int) (p.1.F:Int) pA pn pc vA vc rA rc p.1.m/\RInM w vA rA p.1.m p.1.vars p.1.crs
def InG(f:Nat)(ds:List Bool)(w:World)(cs:List Value)(p:CsA): Prop:=InC w (Yk f ds (Zy p.1 p.2)) cs
theorem Xvs(n f:Int)(A B C:Option Addr)(a b c a' b' c':Nat)(w:World): (Instr.buildSlice 24 1 #[(0,.agg #[.int .i64 n,.int .i64 f,.slice A a a',.slice B b b',.slice C c c'])]).run prog w=.ok (.slice (some ⟨w.heap.size,0,none⟩) 1 1) (w.alloc (.cells [Value.int .i64 n,.int .i64 f,.slice A a a',.slice B b b',.slice C c c'].toArray 108)):=kr
theorem Jlq{n f:Int}{a b c a' b' c':Nat}: ∀ u∈[Value.int .i64 n,.int .i64 f,.slice A a a',.slice B b b',.slice C c c'],u.oneCell'=true:=λu i=>by
 simp only[List.mem_cons,List.not_mem_nil,or_false]at i;rcases i with rfl|rfl|rfl|rfl|rfl<;>rfl
theorem Qfl: Qu prog 65=some (.agg #[.int .i64 0,.int .i64 0,.slice none 0 0,.slice none 0 0,.slice none 0 0,.slice none 0 0]):=kr
theorem Xjk{c:Nat}{l:List Cse}{xc:Nat->List Value}(hL:CsesV w A l xc)(hfit:∀ c∈l,∀ i,i<c.rss.length->∀ r∈c.rss.getD i [],∀ u∈r,Xa u):
  Ret prog 10 [.slice A l.length c] w λu w'=>Ext w w'/\(u=.tuple #[.slice none 0 0,.slice none 0 0,.bool false] ∨
   ∃(ps:List CsA) (iv rv:Value),u=.tuple #[iv,rv,.bool true]/\1<=l.length/\l.length<=3/\ps.map (·.1)=l/\(∀ p∈ps,CsM (l.getD 0 c0).F (l.getD 0 c0).ds p)/\GV 5 (InG (l.getD 0 c0).F (l.getD 0 c0).ds) w' iv ps/\GV 5 RefG w' rv ps):=by
 have bn:∀ i,i<l.length->(xc i).length=6:=λi hi=>by
  obtain⟨dA,dc,pA,pc,vA,vc,rA,rc,e,_⟩:=hL.el i hi;rw[e];rfl
 have a2:∀ {W:World} (hx:Ext w W) {i:Nat} (hi:i<l.length) {j:Nat} {u:Value},(xc i)[j]?=some u->W.cell? ((adr A (i*6)).add j)=some u:=λhx i hi j u hu=>by
  have hj:j<6:=by grind
  rw[Xk];exact(hL.rd.ext hx).cell (by rw[Yv bn hi hj];exact hu)
 obtain⟨ay,bq⟩:=id hL;refine enE func10 ntmps10 ?_;refine ρ ?_;refine Yd (fun (t:Bool)=>[(18,.bool t),(0,.slice A l.length c),(2,.slice none 0 0),(3,.slice none 0 0),(4,.bool false)]) (λt w'=>w'=w/\(t=false->1<=l.length/\l.length<=3)) ?_ ?_
 .refine ki 14 (λh=>?_) (λh=>?_)
  .refine ρ ?_;exact Jf true sB ⟨rfl,λe=>by cases e⟩
  have h1:=oF h;refine ρ ?_;refine Jf _ sB ⟨rfl,λe=>?_⟩;grind
 rintro t w' ⟨rfl,ht⟩;refine ci (λh=>?_) (λh=>?_)
 .refine ρ ?_;exact Vn ⟨Ext.refl _,.inl rfl⟩
 obtain⟨a6,cx⟩:=ht h;clear ht h;obtain⟨de,dd,du,dt,dm,dl,dq,dn,cd,da,e6,e4,e5,dx,e3⟩:=id (bq 0 a6);obtain⟨m,hm⟩:∃ m,m=l.length:=⟨_,rfl⟩;refine ρ ?_;refine Zj (fun (i:Nat) (iv rv:Value)=>[(0,.slice A l.length c),(2,.slice none 0 0),(3,.slice none 0 0),(4,.bool false),(5,iv),(6,rv),(19,.slice A l.length c),(20,.int .i64 (l.length:Int)),(21,.int .i64 (i:Int))])
  (λi iv rv w1=>i<=l.length/\Ext w' w1/\w'.heap.size<=w1.heap.size/\∃ ps:List CsA,ps.map (·.1)=l.take i/\(∀ p∈ps,CsM (l.getD 0 c0).F (l.getD 0 c0).ds p) /\
   OwnM 42 5 (InG (l.getD 0 c0).F (l.getD 0 c0).ds) (λk=>False∨rv.ownBlock=some k) w1 w'.heap.size iv ps/\OwnM 108 5 RefG (λk=>False∨iv.ownBlock=some k) w1 w'.heap.size rv ps/\∀ g,iv.ownBlock=some g->¬ rv.ownBlock=some g)
  (λi _ _=>l.length-i) 0 (.slice none 0 0) (.slice none 0 0) sB ⟨Nat.zero_le _,Ext.refl _,Nat.le_refl _,[],rfl,(λp hp=>by cases hp),OwnM.nil _ _,OwnM.nil _ _,(λg e=>by cases e)⟩ ?_
 rintro i iv rv w1 ⟨hi,a5,ad,ps,dw,bl,b5,b3,br⟩;refine ciR (λh=>?_) (λh=>?_)
 .have li:i<l.length:=by have:=oT h;omega
  clear h;obtain⟨o,d2⟩:∃ o,o=l.getD i c0:=⟨_,rfl⟩;have ag:=bq i li;rw[<-d2]at ag;obtain⟨dA,dc,pA,pc,vA,vc,rA,rc,cb,hD,hP,hV,hR,hn,hf⟩:=id ag;refine Qn 6 i (ay.ext a5) li ?_;refine Jl (cs:=[.int .i64 o.n,.int .i64 o.f,.slice dA o.ds.length dc,.slice pA o.pm.length pc,.slice vA o.vs.length vc,.slice rA o.rss.length rc]) (λj u hu=>a2 a5 li (by rw[cb];exact hu)) ?_;refine Jw Qfl ?_;intro w2 b8 bd d4 c8;refine Qo c8 ?_;intro w3 av e2 cq;have a9:Ext w1 w3:=cq w1 bd d4;have bi:=a5.trans a9;refine Jo av ?_;rw[cb]at ag;refine clR (Qgs ag bi) ?_;rintro u w4 ⟨aw,cg,bb,aA,ce,ba,ac,an,ok,rfl,db,d6,cw,_⟩;refine Jw Yt ?_;intro w5 b9 cp d3 c4;refine Qo c4 ?_;intro w6 c3 e1 co;have a8:Ext w4 w6:=co w4 cp d3;have ak:=(a9.trans aw).trans a8;have bh:=a5.trans ak;have c7:=(av.ext aw).ext a8;have a7:Ext w6 w6.drew:=(Ext.refl w6).drew;have aa:=bh.trans a7;have be:=ak.trans a7;have au:=c7.ext a7
  obtain⟨_,_,eD,e9,d8,d9⟩:=id hD;injection eD with eD1 _ eD2
  subst eD1;subst eD2;obtain⟨_,_,eE,e8,e7,d7⟩:=id da;injection eE with eE1 _ eE2
  subst eE1;subst eE2;refine drR (Go.Wk.sc 26 [4,23]) ?_;cases ok with
  | false=>
   refine ρd ?_;refine ρ ?_;exact Vn ⟨aa,.inl rfl⟩
  | true=>
   obtain⟨az,ats,d5,bm,hmk,bs⟩:=cw rfl;refine Qq (cs:=[.int .i64 o.n,.int .i64 o.f,.slice dA o.ds.length dc,.slice pA o.pm.length pc,.slice vA o.vs.length vc,.slice rA o.rss.length rc]) (λj u hu=>au.at hu) ?_;refine Jm (Xzp (ag.ext aa)) ?_;rintro u w7 ⟨a4,fw,rfl,bp,_⟩;refine⟨a4,?_⟩;have G:=aa.trans a4;have ah:=au.ext a4;cases fw with
   | false=>
    refine ρd ?_;refine ρ ?_;exact Vn ⟨G,.inl rfl⟩
   | true=>
    refine Jz (ah.at (i:=1) rfl) ?_;refine Zr 6 0 (ay.ext G) a6 ?_;refine Jz (a2 G a6 (j:=1) (u:=.int .i64 (l.getD 0 c0).f) (by rw[cd];rfl)) ?_;refine ρd ?_;refine dki 46 (λh=>?_) (λh=>?_)
    .refine ρd ?_;refine ρ ?_;exact Vn ⟨G,.inl rfl⟩
    have d0:o.f=(l.getD 0 c0).f:=bne_eq_false_iff_eq.1 h;clear h;refine Jz (ah.at (i:=2) rfl) ?_;refine Zr 6 0 (ay.ext G) a6 ?_;refine Jz (a2 G a6 (j:=2) (u:=.slice de (l.getD 0 c0).ds.length dd) (by rw[cd];rfl)) ?_;refine Jm (Jff (Rd.ext d9 G) (Rd.ext d7 G) d8) ?_;rintro u w8 ⟨rfl,a3⟩;refine⟨a3,?_⟩;have bg:=G.trans a3;have c6:=ah.ext a3;refine ρd ?_;refine ciR (λh=>?_) (λh=>?_)
    .refine ρ ?_;exact Vn ⟨bg,.inl rfl⟩
    have d1:o.ds=(l.getD 0 c0).ds:=by simpa using h
    clear h;have hC:CseOk o ats:=⟨bp rfl,az,d5,hmk,bs trivial,hfit o (by grind)⟩;have hF:o.F=(l.getD 0 c0).F:=by unfold Cse.F;rw[d0]
    have cy:∀ {W:World},Ext w' W->GV 3 AtG W (.slice aA an ac) ats->InG (l.getD 0 c0).F (l.getD 0 c0).ds W [.int .i64 o.n,.int .i64 o.f,.slice cg o.ds.length ce,.slice bb o.pm.length ba,.slice aA an ac] (o,ats):=λhx hg=>by
     have:=Qwj hC (db.ext hx) (d6.ext hx) hg;grind [InG]
    obtain⟨IA,ic,rfl,dz,cz⟩:=b5.form;obtain⟨QA,qc,rfl,dv,bj⟩:=b3.form;have bf:=((be.trans a4).trans a3);have ai:Ext w8 w8.drew:=(Ext.refl w8).drew;have J:=bf.trans ai;have am:=a5.trans J;have c5:=c6.ext ai;have c2:=(((c3.ext a7).ext a4).ext a3).ext ai;have l8:=c8.lt;have l9:=c4.lt;have z2:=bd.size;have z4:=aw.size;have dj:=a9.size;have n8:¬ ((Value.slice IA ps.length ic).ownBlock=some b8∨(Value.slice QA ps.length qc).ownBlock=some b8):=λh=>by grind
    have n9:¬ ((Value.slice IA ps.length ic).ownBlock=some b9∨(Value.slice QA ps.length qc).ownBlock=some b9):=λh=>by grind
    have cv:ps.length=i:=by grind [List.length,List.length_map,List.length_take]
    have bz:=b5.ext J;have bw:=b3.ext J;refine ρ ?_;refine drN (λk=>(Value.slice IA ps.length ic).ownBlock=some k∨(Value.slice QA ps.length qc).ownBlock=some k) 14 [(0,0),(0,1),(0,4),(0,5),(1,2),(1,3),(1,6),(1,7),(1,8),(0,9),(0,10)] kr ?_;refine ρn ?_;refine Xr (cs:=[.int .i64 o.n,.int .i64 o.f,.slice cg o.ds.length ce,.slice bb o.pm.length ba,.slice aA an ac]) (λW hg j u hu=>(Jv c2 hg n9).at hu) ?_;refine ρn ?_;refine Xr (cs:=[.int .i64 o.n,.int .i64 o.f,.slice dA o.ds.length dc,.slice pA o.pm.length pc,.slice vA o.vs.length vc,.slice rA o.rss.length rc]) (λW hg j u hu=>(Jv c5 hg n8).at hu) ?_;refine ρn ?_;refine nop ?_;refine bsl (Jpj _ _ _ _ _ _ _ _ _ _ _) ?_;intro ck eb C di ca;refine Jc (Jr (GrN.ext C) ?_);refine nop ?_;have aj:=((((bm.ext a8).ext ((a7.trans a4).trans a3)).ext ai).ext C);refine apM EInp (Φ:=InG (l.getD 0 c0).F (l.getD 0 c0).ds) (a:=(o,ats)) (bz.ext C) ca rfl Jlq (λW hW=>cy (hW.old (am.trans C) λk hk=>?_) (aj W (hW.mono λk _ hk=>?_))) om om (nL ad (J.trans C).size) ?_
    .grind
    .grind
    intro cm b6 ar ae ap;refine Jc (Jr (GrN.by ae λk hk=>.inl hk) ?_);have b2:=(bw.ext C).other ae ap λg e h=>br g h e;have af:∀ g,cm.ownBlock=some g->¬ (Value.slice QA ps.length qc).ownBlock=some g:=λg e h=>by
     rcases ap g e with h1|h1
     .exact br g h1 h
     have:=(bj g h).2;have:=(J.trans C).size;omega
    have a1:GrN (λk=>(Value.slice IA ps.length ic).ownBlock=some k) ck b6:=GrN.by ae λk hk=>hk
    have ax:Ext w' b6:=a1.old (am.trans C) λk hk=>(cz k hk).1;refine ρn ?_;refine nop ?_;refine cl Qpc ?_;rintro u dk ⟨rfl,O⟩;refine Jc (Jr (GrN.ext O) ?_);refine nop ?_;refine bsl (Xvs _ _ _ _ _ _ _ _ _ _ _) ?_;intro cj ea D dh c9;refine Jc (Jr (GrN.ext D) ?_);refine nop ?_;have ab:=(ax.trans O).trans D;obtain⟨df,cn,rfl,dg,bo⟩:=ar.form;have cr:o.rss.length=o.m:=by rw[<-hC.len];rfl
    refine apM ERin (Φ:=RefG) (a:=(o,ats)) ((b2.ext O).ext D) c9 rfl Jlq (λW hW=>?_) om om (nL ad (nL (J.trans C).size (nL a1.size (O.trans D).size))) ?_
    .have bc:Ext w' W:=hW.old ab λk hk=>by grind
     refine⟨pA,o.pm.length,pc,vA,vc,rA,rc,?_,CseV.rin (hV.ext bc) (hR.ext bc) hC⟩;show _=Vk (o.N:Int) (o.F:Int) pA o.pm.length pc vA vc rA rc o.m;rw[<-hC.nN.1,<-hC.fF.1,cr];rfl
    intro b7 ch c1 aq ao;have Z:GrN (λk=>(Value.slice QA ps.length qc).ownBlock=some k) cj ch:=GrN.by aq λk hk=>hk
    refine Jc (Jr (Z.mono λk _ hk=>.inr hk) ?_);have b4:=((ar.ext O).ext D).other aq ao af;have b1:∀ g,(Value.slice df (ps++[(o,ats)]).length cn).ownBlock=some g->¬ b7.ownBlock=some g:=λg e h=>by
     rcases ao g h with h1|h1
     .exact af g e h1
     have:=(bo g e).2;have:=(O.trans D).size;omega
    refine ρn ?_;refine ρ ?_;refine Xx (i+1) _ b7 sO ⟨li,Z.old ab λk hk=>(bj k hk).1,Nat.le_trans (nL ad (nL (J.trans C).size (nL a1.size (O.trans D).size))) Z.size,ps++[(o,ats)],?_,λp hp=>?_,b4,c1,b1⟩ om
    .grind [Qr,c0]
    rcases List.mem_append.1 hp with hp|hp
    .exact bl p hp
    rw[List.mem_singleton.1 hp];exact⟨hC,hF,d1⟩
 have e0:i=l.length:=by grind
 clear h;have cv:ps.length=i:=by grind
 refine ρ ?_;exact Vn ⟨a5,.inr ⟨ps,iv,rv,rfl,a6,cx,by grind,bl,b5.gv om,b3.gv om⟩⟩
open Go.RowKit Pl Go.Wk
variable {c:Cse}{ds ds':List Bool}{i k m n:Nat}{r y:Row}{rr rv v vd:Value}
theorem Xvb: Vr n m=0↔n=m:=by
 unfold Vr;grind
theorem Jpt{w:World}(hv:NatV w v n)(hk:k<9223372036854775808):
  Ret Tryz.prog 14 [v,.int .i64 (k:Int)] w λu w'=>u=.bool (decide (n=k))/\Ext w w':=by
 obtain⟨O,J,rfl,_⟩:=id hv;refine enE Tryz.func14 Tryz.ntmps14 ?_;refine ρ ?_;rw[Gk (z:=(k:Int)) om];refine cl (Jxc k om w) ?_;rintro o G ⟨C,_,i⟩;refine clR (Ib (hv.ext i) C) ?_;rintro _ D ⟨rfl,j⟩;refine ρ ?_;refine Jj ⟨?_,i.trans j⟩;rw[show(Vr n k == 0)=decide (n=k) by rw[Bool.eq_iff_iff,beq_iff_eq,decide_eq_true_iff,Xvb]]
def sgl(ps:List CsA): List (List CsA):=ps.map λp=>[p]
theorem Jqn(ps:List CsA): (sgl ps).length=ps.length:=List.length_map _
theorem Xcj: y∈Ia c.m c.vars c.crs c.N c.F ds↔y∈c.ans:=by
 rw[(Jbf c.m c.vars c.crs c.N c.F ds).2 y];exact((Jbf c.m c.vars c.crs c.N c.F c.ds).2 y).symm
theorem Xck{ats:List Atm}(h:CseOk c ats)(ds:List Bool): (Ia c.m c.vars c.crs c.N c.F ds).length<=5000:=by
 have i:=Jwr (Jbf c.m c.vars c.crs c.N c.F ds);have j:=Jmn h.refP.asc h.refP.len h.refP.cov;rw[List.length_map]at i;exact nL i (nL j h.refP.cnt)
theorem RefG.ext{w w':World}{cs:List Value}{p:CsA}(h:RefG w cs p)(hx:Ext w w'): RefG w' cs p:=by
 obtain⟨pA,pn,pc,i,vc,j,rc,e,h⟩:=h;exact⟨pA,pn,pc,i,vc,j,rc,e,h.ext hx⟩
theorem Jnf(ps:List CsA)(f:Nat)(ds:List Bool)(h:∀ p∈ps,CsM f ds p): (sgl ps).flatMap Xb=ps.flatMap λp=>p.1.ans:=by grind [sgl,List.flatMap_map,Qbc]
section
variable {w:World} {ps:List CsA} {f:Nat} {ds:List Bool}
theorem CsM.answers{p:CsA}{cs:List Value}(h:CsM f ds p)(hr:RefG w cs p)(hd:BoolsV w vd ds'):
  Ret Tryz.prog 50 [.agg cs.toArray,vd] w λu w'=>RowsV w' u (Ia p.1.m p.1.vars p.1.crs p.1.N p.1.F ds')/\Ext w w':=by
 obtain⟨pA,pn,pc,j,vc,o,rc,rfl,i⟩:=hr;exact Qpr h.1.refP i (by have:=h.1.nN.2;omega) h.1.fF.2 hd
theorem Qnk(hR:GV 5 RefG w rv ps)(hp:∀ p∈ps,CsM f ds p)(hd:BoolsV w vd ds)(h3:ps.length<=3):
  Ret Tryz.prog 13 [rv,vd] w λu w'=>RowsV w' u (Gj ds (sgl ps))/\Ext w w':=by
 obtain⟨rs,A,c,ad,rfl,hc,hm,a4,he⟩:=hR;have ao:ps.length=rs.length:=by rw[ad,List.length_map]
 obtain⟨D,dc,rfl,ax,aw,b3⟩:=id hd;refine enE Tryz.func13 Tryz.ntmps13 ?_;refine ρ ?_;refine Qj (fun (i:Nat) (G:Value)=>[(0,.slice A rs.length c),(1,.slice D ds.length dc),(5,G),(6,.int .i64 (i:Int))])
  (λi G w1=>i<=rs.length/\Ext w w1/\RowsV w1 G (((ps.take i).flatMap λp=>p.1.ans).foldl (Zx ds) [])/\(((ps.take i).flatMap λp=>p.1.ans).foldl (Zx ds) []).length<=i*5000) (λi _=>rs.length-i) 0 (.slice none 0 0) sB
  ⟨Nat.zero_le _,Ext.refl _,⟨[],none,0,rfl,rfl,Nat.le_refl _,Nat.zero_le _,Rd.nil,λp hp=>by cases hp⟩,Nat.zero_le _⟩ ?_
 rintro i G w1 ⟨hi,o,J,a8⟩;refine ciR (λh=>?_) (λh=>?_)
 .have li:i<rs.length:=by have:=oT h;omega
  clear h;obtain⟨q,hq⟩:∃ q,q=rs[i]:=⟨_,rfl⟩;have ag:q∈rs:=by grind
  have ap:ps[i]'(by omega)=q.2:=by grind
  have a1:q.2∈ps:=by grind
  have ak:ps.take (i+1)=ps.take i++[q.2]:=by grind [List.take_succ_eq_append_getElem]
  obtain⟨an,a6⟩:=he q ag;obtain⟨pA,pn,pc,vA,vc,rA,rc,eq,_⟩:=id a6;have a2:∀ j u,q.1[j]?=some u->w1.cell? ((adr A (i*5)).add j)=some u:=λj u hu=>by
   have hj:j<5:=by grind
   rw[Xk];exact(a4.ext o).cell (by rw[Kp (p:=q) (λp hp=>(he p hp).1) (by grind) hj];exact hu)
  refine Qn 5 i (a4.ext o) li ?_;refine Jl (cs:=Vk (q.2.1.N:Int) (q.2.1.F:Int) pA pn pc vA vc rA rc q.2.1.m) (λj u hu=>a2 j u (by rw[eq];exact hu)) ?_;refine ρ ?_;rw[<-eq];refine cl ((hp _ a1).answers (a6.ext o) (hd.ext o)) ?_;rintro av w2 ⟨b1,Z⟩;have au:q.2.1.ds=ds:=(hp _ a1).2.2;have a9:RowsV w2 av q.2.1.ans:=by grind [Cse.ans]
  have b2:=(hp _ a1).1.anl;obtain⟨O,B,bc,has,rfl,az,ay,aa,ah⟩:=id a9;have ai:q.2.1.ans.length=O.length:=by rw[has,List.length_map]
  refine ρ ?_;refine Qj (fun (k:Nat) (G:Value)=>[(0,.slice A rs.length c),(1,.slice D ds.length dc),(5,G),(6,.int .i64 (i:Int)),(7,.slice B O.length bc),(8,.int .i64 (k:Int))])
   (λk G w3=>k<=O.length/\Ext w2 w3/\RowsV w3 G ((((ps.take i).flatMap λp=>p.1.ans)++q.2.1.ans.take k).foldl (Zx ds) [])/\((((ps.take i).flatMap λp=>p.1.ans)++q.2.1.ans.take k).foldl (Zx ds) []).length<=i*5000+k) (λk _=>O.length-k) 0 G sB
   ⟨Nat.zero_le _,Ext.refl _,by rw[List.take_zero,List.append_nil];exact J.ext Z,by grind⟩ ?_
  clear J a8 G;rintro k G w3 ⟨hk,C,J,a8⟩;refine ciR (λh=>?_) (λh=>?_)
  .have lk:k<O.length:=by have:=oT h;omega
   clear h;obtain⟨r,hr⟩:∃ r,r=O[k]:=⟨_,rfl⟩;have ae:r∈O:=by grind
   have a5:=ah r ae;have af:(O.map (·.1))[k]?=some r.1:=by grind
   have am:q.2.1.ans.take (k+1)=q.2.1.ans.take k++[r.2]:=by grind [List.take_succ_eq_append_getElem]
   refine ixR k (aa.ext C) lk ?_;refine ρ ?_;obtain⟨RA,aj,b4,_⟩:=id a5;refine ld ((aa.ext C).cell af) ?_;refine ρ ?_;have a3:=Jxp (ds:=ds) (((ps.take i).flatMap λp=>p.1.ans)++q.2.1.ans.take k) (done:=[]) (l:=[]) ⟨List.Pairwise.nil,λx=>Iff.rfl⟩;refine cl (Jld J (a5.ext C) (hd.ext ((o.trans Z).trans C)) a3.1 om) ?_;rintro ab w4 ⟨a7,ac,_⟩;refine ρ ?_;have e:(((ps.take i).flatMap λp=>p.1.ans)++q.2.1.ans.take (k+1)).foldl (Zx ds) []=Zx ds ((((ps.take i).flatMap λp=>p.1.ans)++q.2.1.ans.take k).foldl (Zx ds) []) r.2:=by grind
   refine Jh (k+1) ab sO ⟨lk,C.trans ac,by rw[e];exact a7,?_⟩ om;grind [Qqt,Zx]
  have aq:k=O.length:=by have:=oF h;omega
  clear h;have e:((ps.take (i+1)).flatMap λp=>p.1.ans)=((ps.take i).flatMap λp=>p.1.ans)++q.2.1.ans.take k:=by grind
  refine ρ ?_;refine Jh (i+1) G sO ⟨li,(o.trans Z).trans C,by rw[e];exact J,by rw[e,Nat.succ_mul];omega⟩ om
 have ar:i=rs.length:=by have:=oF h;omega
 clear h;refine ρ ?_;refine Jj ⟨?_,o⟩;unfold Gj;rw[Jnf ps f ds hp];grind
theorem Qjm{ps:List CsA}(h:i<ps.length): Xb ((sgl ps).getD i [])=(ps[i]).1.ans:=by grind [sgl,List.getD,Qbc]
theorem Xjb(hR:GV 5 RefG w rv ps)(hp:∀ p∈ps,CsM f ds p)(h3:ps.length<=3)(hr:RowV w rr r):
  Ret Tryz.prog 21 [rv,rr] w λu w'=>u=.int .u32 ((Xt (Ze (sgl ps) r) ps.length:Nat):Int)/\Ext w w':=by
 obtain⟨rs,A,c,ab,rfl,hc,hm,a4,he⟩:=hR;have ae:ps.length=rs.length:=by rw[ab,List.length_map]
 obtain⟨D,dc,rfl,az,ay,b4⟩:=id hr;refine enE Tryz.func21 Tryz.ntmps21 ?_;refine ρ ?_;refine Qm (fun (i:Nat)=>[(0,.slice A rs.length c),(1,.slice D r.length dc),(5,.int .u32 ((Xt (Ze (sgl ps) r) i:Nat):Int)),(6,.int .i64 (i:Int))])
  (λi w1=>i<=rs.length/\Ext w w1) (λi=>rs.length-i) 0 sB ⟨Nat.zero_le _,Ext.refl _⟩ ?_
 rintro i w1 ⟨hi,G⟩;refine ciR (λh=>?_) (λh=>?_)
 .have li:i<rs.length:=by have:=oT h;omega
  clear h;have ah:i=0∨i=1∨i=2:=om
  obtain⟨q,hq⟩:∃ q,q=rs[i]:=⟨_,rfl⟩;have ad:q∈rs:=by grind
  have aq:ps[i]'(by omega)=q.2:=by grind
  have a6:q.2∈ps:=by grind
  obtain⟨ap,a5⟩:=he q ad;obtain⟨pA,pn,pc,vA,vc,rA,rc,eq,_⟩:=id a5;have Z:∀ j u,q.1[j]?=some u->w1.cell? ((adr A (i*5)).add j)=some u:=λj u hu=>by
   have hj:j<5:=by grind
   rw[Xk];exact(a4.ext G).cell (by rw[Kp (p:=q) (λp hp=>(he p hp).1) (by grind) hj];exact hu)
  have aw:=Qzh (Ze (sgl ps) r) i;obtain⟨O,ag⟩:∃ O,O=Xt (Ze (sgl ps) r) i:=⟨_,rfl⟩;have b5:2^i<=4:=by grind
  refine Qn 5 i (a4.ext G) li ?_;refine Jl (cs:=Vk (q.2.1.N:Int) (q.2.1.F:Int) pA pn pc vA vc rA rc q.2.1.m) (λj u hu=>Z j u (by rw[eq];exact hu)) ?_;refine ρ ?_;rw[<-eq];refine cl ((hp _ a6).answers (a5.ext G) (BoolsV.nil _ none 0)) ?_;rintro av w2 ⟨a7,a3⟩;obtain⟨L,hL⟩:∃ L,L=Ia q.2.1.m q.2.1.vars q.2.1.crs q.2.1.N q.2.1.F []:=⟨_,rfl⟩;rw[<-hL]at a7;have b3:L.length<=5000:=by rw[hL];exact Xck (hp _ a6).1 []
  have ak:r∈L↔Ze (sgl ps) r i=true:=by grind [Ze,Qjm,Xcj]
  obtain⟨J,B,bc,ac,rfl,b2,b1,a8,aj⟩:=id a7;have am:L.length=J.length:=by rw[ac,List.length_map]
  refine ρ ?_;refine Qj (fun (k o:Nat)=>[(0,.slice A rs.length c),(1,.slice D r.length dc),(5,.int .u32 (o:Int)),(6,.int .i64 (i:Int)),(7,.slice B J.length bc),(8,.int .i64 (k:Int))])
   (λk o w3=>k<=J.length/\Ext w2 w3/\o=if r∈L.take k then O ||| 2^i else O) (λk _=>J.length-k) 0 O (by rw[ag];exact sB)
   ⟨Nat.zero_le _,Ext.refl _,by simp⟩ ?_
  rintro k o w3 ⟨hk,C,ho⟩;have ar:O ||| 2^i<8:=by
   have h1:O<8:=by grind
   exact Nat.or_lt_two_pow (n:=3) h1 om
  have au:o<8:=by grind
  refine ciR (λh=>?_) (λh=>?_)
  .have lk:k<J.length:=by have:=oT h;omega
   clear h;obtain⟨y,hy⟩:∃ y,y=J[k]:=⟨_,rfl⟩;have a9:y∈J:=by grind
   have a1:=aj y a9;have aa:(J.map (·.1))[k]?=some y.1:=by grind
   have ao:L.take (k+1)=L.take k++[y.2]:=by grind [List.take_succ_eq_append_getElem]
   obtain⟨RA,an,b6,_⟩:=id a1;refine ixR k (a8.ext C) lk ?_;refine ldR ((a8.ext C).cell aa) ?_;refine clR (Jcj (a1.ext C) (hr.ext ((G.trans a3).trans C))) ?_;rintro _ w4 ⟨rfl,a2⟩;refine ciR (λh=>?_) (λh=>?_)
   .have he:=oT h;clear h;refine ρ ?_;refine Jxw rfl rfl om rfl ?_;refine Go.Wk.kv 34 (show Value.int .u32 (IntKind.u32.wrap (1*2^min ((i:Int)).toNat IntKind.u32.bits))=.int .u32 ((2^i:Nat):Int) by rcases ah with rfl|rfl|rfl<;>rfl) ?_;refine ρ ?_;rw[Ip om om];refine Jh (k+1) (o ||| 2^i) sO ⟨om,C.trans a2,?_⟩ om;grind
   have he:=oF h;clear h;refine ρ ?_;refine Jh (k+1) o sO ⟨om,C.trans a2,?_⟩ om;grind
  have ax:k=J.length:=by have:=oF h;omega
  clear h;have af:o=Xt (Ze (sgl ps) r) (i+1):=by grind [List.take_length,Xt]
  refine ρ ?_;rw[af];exact Qy (i+1) sO ⟨li,(G.trans a3).trans C⟩ om
 have ai:i=rs.length:=by have:=oF h;omega
 clear h;refine ρ ?_;rw[ai,<-ae];exact Jj ⟨rfl,G⟩
theorem Xwg(hR:GV 5 RefG w rv ps)(hp:∀ p∈ps,CsM f ds p)(hd:BoolsV w vd ds)(h1:1<=ps.length)(h3:ps.length<=3):
  Ret Tryz.prog 40 [rv,vd] w λu w'=>RowsV w' u ((Gj ds (sgl ps)).filter λy=>decide (Xt (Ze (sgl ps) y) ps.length=2^ps.length-1))/\Ext w w':=by
 obtain⟨rs,A,c,ai,a4,hc,hm,ax,he⟩:=id hR;have ak:ps.length=rs.length:=by rw[ai,List.length_map]
 obtain⟨D,dc,ba,b5,b4,b9⟩:=id hd;have a7:IntKind.u32.wrap (1*2^min ((rs.length:Int)).toNat IntKind.u32.bits)=((2^ps.length:Nat):Int):=by
  have:rs.length=1∨rs.length=2∨rs.length=3:=om
  rw[ak];rcases this with h|h|h<;>rw[h]<;>rfl
 have b1:2<=2^ps.length:=by grind
 have az:2^ps.length<=8:=Nat.pow_le_pow_right (show 0<2 by omega) h3;have a8:(Gj ds (sgl ps)).length<=15000:=by
  have h:=Jwr (Jbd ds (sgl ps));rw[Jnf ps f ds hp]at h;have key:∀ l:List CsA,(∀ p∈l,CsM f ds p)->(l.flatMap λp=>p.1.ans).length<=l.length*5000:=by
   intro l;induction l with
   | nil=>intro _;exact Nat.zero_le _
   | cons p l ih=>
    intro hl;have h1:=(hl p mC).1.anl;grind
  have:=key ps hp;omega
 refine enE Tryz.func40 Tryz.ntmps40 ?_;refine clR (Qnk hR hp hd h3) ?_;rintro av w1 ⟨a9,ah⟩;obtain⟨L,hL⟩:∃ L,L=Gj ds (sgl ps):=⟨_,rfl⟩;rw[<-hL]at a9 a8 ⊢;obtain⟨O,B,bc,aj,rfl,b7,b6,a3,ap⟩:=id a9;have aa:L.length=O.length:=by rw[aj,List.length_map]
 subst a4;refine ρ ?_;refine Qj (fun (i:Nat) (ov:Value)=>[(0,.slice A rs.length c),(5,ov),(6,.slice B O.length bc),(7,.int .i64 (i:Int))])
  (λi ov w2=>i<=O.length/\Ext w1 w2/\w1.heap.size<=w2.heap.size/\OwnM 46 1 RowΦ (λ_=>False) w2 w1.heap.size ov ((L.take i).filter λy=>decide (Xt (Ze (sgl ps) y) ps.length=2^ps.length-1))) (λi _=>O.length-i) 0 (.slice none 0 0) sB
  ⟨Nat.zero_le _,Ext.refl _,Nat.le_refl _,OwnM.nil _ _⟩ ?_
 rintro i ov w2 ⟨hi,C,a2,hO⟩;have J:=ah.trans C;refine ciR (λh=>?_) (λh=>?_)
 .have li:i<O.length:=by have:=oT h;omega
  clear h;obtain⟨y,hy⟩:∃ y,y=O[i]:=⟨_,rfl⟩;have ae:y∈O:=by grind
  have Z:=ap y ae;have a5:(O.map (·.1))[i]?=some y.1:=by grind
  have af:L.take (i+1)=L.take i++[y.2]:=by grind [List.take_succ_eq_append_getElem]
  obtain⟨RA,aw,a4,ar,aq,ay⟩:=id Z;have G:Ext w2 w2.drew:=(Ext.refl w2).drew;have ab:=a3.ext (C.trans G);refine drR [(0,0),(0,1),(0,2),(0,3),(0,4),(0,6),(0,7),(0,8),(0,9),(1,5),(0,10)] ?_;refine Jd i ab li ?_;refine Jz (ab.cell a5) ?_;refine ρd ?_;refine Jyn ?_ (h0:=by omega);refine dkv 25 (congrArg (Value.int .u32) a7) ?_;refine ρd ?_;refine dkv 26 (show Value.int .u32 (IntKind.u32.wrap (((2^ps.length:Nat):Int)-1))=.int .u32 ((2^ps.length-1:Nat):Int) by congr 1;rw[IntKind.wrap_u32];omega) ?_;refine Jm (Xjb (GV.ext hR (J.trans G) λcs p h=>RefG.ext h (J.trans G)) hp h3 (Z.ext (C.trans G))) ?_;rintro u w3 ⟨rfl,a6⟩;refine⟨a6,?_⟩;have j:=G.trans a6;refine ρd ?_;refine ciR (λh=>?_) (λh=>?_)
  .have hm:Xt (Ze (sgl ps) y.2) ps.length=2^ps.length-1:=by have:=eq_of_beq h;omega
   clear h;refine ixR i (a3.ext (C.trans j)) li ?_;refine ldR ((a3.ext (C.trans j)).cell a5) ?_;refine Qd (λw=>Jyv y.1 w _ _ _ a4) ?_;intro w4 bb ag au ac;have o:=j.trans ag;obtain⟨OA,oc,rfl,b2,am⟩:=hO.form;refine ρ ?_;refine apM ER (Φ:=RowΦ) (a:=y.2) (hO.ext o) ac rfl (λu hu=>by rw[List.mem_singleton.1 hu];exact Z.one) (λW hW=>⟨y.1,rfl,Z.ext (hW.old (C.trans o) λk hk=>?_)⟩) (by grind) om (nL a2 o.size) ?_
   .grind
   intro ad w5 b8 ao b3;have a1:GrN (λk=>(Value.slice OA ((L.take i).filter λy=>decide (Xt (Ze (sgl ps) y) ps.length=2^ps.length-1)).length oc).ownBlock=some k) w4 w5:=GrN.by ao λk hk=>hk
   refine ρ ?_;refine Jh (i+1) ad sO ⟨li,a1.old (C.trans o) λk hk=>(am k hk).1,Nat.le_trans a2 (nL o.size a1.size),?_⟩ om;grind
  have hm:¬ Xt (Ze (sgl ps) y.2) ps.length=2^ps.length-1:=λe=>by grind
  clear h;refine ρ ?_;refine Jh (i+1) ov sO ⟨li,C.trans j,Nat.le_trans a2 j.size,?_⟩ om;rw[af,List.filter_append,List.filter_cons_of_neg (by simpa using hm),List.filter_nil,List.append_nil];exact hO.ext j
 have an:i=O.length:=by have:=oF h;omega
 clear h;rw[an,<-aa,List.take_length]at hO;refine ρ ?_;refine Jj ⟨Xxv (hO.gv ?_),J⟩;grind
end
open Go.RowKit Pl Go.Wk _root_.Go.Proofs.Tryz
variable {ds:List Bool}{ps:List CsA}{B0 f:Nat}{w:World}
def tt6: TT:=(110,{ desc:=.slice 2,esz:=1 })::tt5
theorem Qhr: TOk prog tt6:=⟨⟨kr,kr,kr⟩,Jst⟩
instance (priority:=7000):Tab prog tt6:=⟨Qhr,mixed⟩
def exU(n:Int): Cse:=⟨1,1,[false],[],[[0]],[[[nV n],[nV 3]]]⟩
theorem Xzt{n:Int}(hn:n=1∨n=2){m:List Row}(hset:Zt [] [[nV n],[nV 3]] m)(hm:m.length<=65536)(hsub:∀ x∈m,x∈[[nV n],[nV 3]]): CseOk (exU n) [⟨[0],1,m⟩]:=by
 have D:(0:Int)<=1:=by decide
 have J:(1:Int)<=32:=by decide
 have Z:(1:Int)<=1:=by decide
 refine⟨⟨λi hi=>?_,?_,.inl (show(1:Int)<=6 by decide),show 1<=5 by decide,show 1<=5 by decide⟩,rfl,rfl,λi hi=>?_,⟨D,J,D,Z,rfl,rfl,(λv o=>by cases o),List.Pairwise.nil,D,J,show 1<=32 by decide,λa O=>?_,λv o=>?_⟩,λi hi r G u hu=>?_⟩
 .grind [exU]
 .grind [Jg,exU]
 .have:i=0:=by simp[exU]at hi;exact hi
  subst this;refine⟨rfl,rfl,show 1<=32 by decide,λr G=>?_,hm,hsub,λ_=>hset⟩;have C:r∈[[nV n],[nV 3]]:=G;simp only[List.mem_cons,List.not_mem_nil,or_false]at C;rcases C with rfl|rfl<;>exact⟨rfl,rfl⟩
 .rw[List.mem_singleton.1 O];refine⟨λj h0 hj=>?_,λv o=>?_,rfl⟩
  .grind
  have:v=0:=List.mem_singleton.1 o;subst this;exact⟨Int.le_refl _,show(0:Int)<1 by decide⟩
 .have:v=0:=by have:(v:Int)<1:=o;omega
  subst this;exact⟨_,List.mem_singleton.2 rfl,List.mem_singleton.2 rfl⟩
 repeat grind [exU,nV,List.mem_singleton.1,Qtt]
theorem Qvk: (exU 1).ans=[[nV 1],[nV 3]]:=by decide
theorem Qvj: (exU 2).ans=[[nV 2],[nV 3]]:=by decide
def exW: List Row:=[[nV 1],[nV 2],[nV 3]]
theorem Xzs: Lt [false] exW:=by unfold Lt;decide
theorem exW_a: Qh [false] exW [nV 3]=2:=by decide
structure ExU(ps:List CsA): Prop where
 len:ps.length=2
 ok:∀ p∈ps,CsM 1 [false] p
 p0:(ps.getD 0 (c0,[])).1=exU 1
 p1:(ps.getD 1 (c0,[])).1=exU 2
theorem ExU.two(h:ExU ps): ∃ a b,ps=[(exU 1,a),(exU 2,b)]:=by
 obtain⟨i,_,o,j⟩:=h;match ps,i with
 | [(c,a),(d,b)],_=>
  grind
theorem Jfh(h1:1<=ps.length)(h3:ps.length<=3)(h:∀ p∈ps,CsM f ds p): CsU (sgl ps) f ds:=by
 have j:(sgl ps).flatten=ps:=by simp[sgl,List.flatten_eq_flatMap,List.flatMap_map]
 refine⟨by rw[Jqn];exact h1,by rw[Jqn];exact h3,by rw[j];omega,λg i=>?_,λg i p hp=>?_⟩
 .obtain⟨p,_,rfl⟩:=List.mem_map.1 i;simp
 obtain⟨q,o,rfl⟩:=List.mem_map.1 i;grind
theorem CsU.mems{gs:List (List CsA)}(h:CsU gs f ds)(q:Row): Xt (λi=>decide (q∈Xb (pick gs (2^i)).flatten)) gs.length=Xt (Ze gs q) gs.length:=Xxt λi hi=>by
 unfold Ze;rw[List.getD,List.getElem?_eq_getElem hi];exact decide_eq_decide.2 (h.one hi q)
theorem ExU.any(h:ExU ps): Gj [false] (sgl ps)=exW:=by
 have hs:=Jbd [false] (sgl ps);obtain⟨a,b,rfl⟩:=h.two;refine Iq hs.1 Xzs λy=>?_;rw[hs.2 y,Jnf _ 1 [false] h.ok];grind [Qvk,Qvj,exW]
theorem ExU.mem(h:ExU ps): Xt (Ze (sgl ps) [nV 3]) 2=3:=by
 refine(Qzj (k:=2)).2 λi hi=>?_;unfold Ze;rw[Qjm (by rw[h.len];exact hi),decide_eq_true_iff];obtain⟨a,b,rfl⟩:=h.two;grind [nV,exU,Qvk,Qvj]
theorem GV.insM{v:Value}(h:GV 5 (InG f ds) w v ps)(hp:∀ p∈ps,CsM f ds p): ∃ A c xc,v=.slice A ps.length c/\ps.length<=c/\InsM w A f ds (ps.map λp=>Zy p.1 p.2) xc:=by
 obtain⟨rs,A,c,e,rfl,O,G,o,D⟩:=h;subst e;have J:Qz (rs.map λq=>(q.1,Zy q.2.1 q.2.2))=Qz rs:=by simp[Qz,List.flatMap_map]
 have j:=InsM.of (w:=w) (A:=A) (f:=f) (ds:=ds) (ps:=rs.map λq=>(q.1,Zy q.2.1 q.2.2)) (by grind) λq C=>by
  obtain⟨r,u,rfl⟩:=List.mem_map.1 C;exact(D r u).2
 rw[List.map_map]at j;refine⟨A,c,λi=>((rs.map λq=>(q.1,Zy q.2.1 q.2.2)).getD i ([],um0)).1,by rw[List.length_map],by grind,?_⟩;rw[List.map_map];exact j
theorem Jhd(hp:∀ p∈ps,CsM f ds p): ((sgl ps).map λg=>Qg f (Qp g))=ps.map λp=>Zy p.1 p.2:=by
 unfold sgl;rw[List.map_map];refine List.map_congr_left λp i=>?_;obtain⟨o,j,_⟩:=hp p i;show Qg f [Zy p.1 p.2]=_;exact Xqj (by rw[<-j];exact o.uok.pm.fn)
theorem Xyc(n:Int)(w:World): (Instr.build 118 #[(0,.int .i64 1),(1,.int .i64 n)]).run prog w=.ok (nV n).val w:=Xyl n w
theorem Jvh(n:Int)(w:World): Ret prog 49 [.int .i64 n] w λu w'=>(∃ b,u=.slice (some ⟨b,0,none⟩) 1 1/\Blk w' b 118 (Jp [nV n]))/\Ext w w':=by
 refine enE func49 ntmps49 ?_;refine Zl (Xyc n w) ?_;refine Qd (Jwb _) ?_;intro o b i C j;refine ρ ?_;exact Jj ⟨⟨b,rfl,j⟩,i⟩
theorem bs2J'(a b:Int)(w:World): (Instr.buildSlice 110 2 #[(0,.int .i64 a),(1,.int .i64 b)]).run prog w=.ok (.slice (some ⟨w.heap.size,0,none⟩) 2 2) (w.alloc (.cells [Value.int .i64 a,.int .i64 b].toArray 2)):=kr
theorem bs2Rr(A B:Option Addr)(a b a' b':Nat)(w:World): (Instr.buildSlice 37 2 #[(0,.slice A a a'),(1,.slice B b b')]).run prog w=.ok (.slice (some ⟨w.heap.size,0,none⟩) 2 2) (w.alloc (.cells [Value.slice A a a',.slice B b b'].toArray 46)):=kr
theorem bs1Bl(a:Bool)(w:World): (Instr.buildSlice 28 1 #[(0,.bool a)]).run prog w=.ok (.slice (some ⟨w.heap.size,0,none⟩) 1 1) (w.alloc (.cells [Value.bool a].toArray 4)):=kr
theorem bs1Iu(a:Int)(w:World): (Instr.buildSlice 39 1 #[(0,.int .i64 a)]).run prog w=.ok (.slice (some ⟨w.heap.size,0,none⟩) 1 1) (w.alloc (.cells [Value.int .i64 a].toArray 3)):=kr
theorem Xyq(n f:Int)(A B:Option Addr)(a a' b b':Nat)(w:World): (Instr.build 42 #[(0,.int .i64 n),(1,.int .i64 f),(2,.slice A a a'),(4,.slice B b b')]).run prog w=.ok (.agg #[.int .i64 n,.int .i64 f,.slice A a a',.slice none 0 0,.slice B b b']) w:=kr
theorem zRel1: Qu prog 98=some (.agg #[.int .i64 0,.slice none 0 0]):=kr
theorem Qcz(hTB:TB B0 w): Ret prog 11 [] w λu w'=>u=.bool true/\Ext w w':=by
 refine enE func11 ntmps11 ?_;refine Qd (bs2J' 1 2) ?_;intro w1 ch cq dm cb;refine ρ ?_;refine Qj (fun (i:Nat) (iv:Value)=>[(0,.bool false),(1,iv),(16,.slice (some ⟨ch,0,none⟩) 2 2),(17,.int .i64 2),(18,.int .i64 (i:Int))])
  (λi iv w'=>i<=2/\Ext w1 w'/\w1.heap.size<=w'.heap.size/\∃ ps:List CsA,ps.length=i/\(∀ p∈ps,CsM 1 [false] p)/\(∀ j,j<i->(ps.getD j (c0,[])).1=exU (j+1))/\OwnM 42 5 (InG 1 [false]) (λ_=>False) w' w1.heap.size iv ps) (λi _=>2-i) 0 (.slice none 0 0) sB
  ⟨Nat.zero_le _,Ext.refl _,Nat.le_refl _,[],rfl,(λp hp=>by cases hp),(λj hj=>absurd hj (Nat.not_lt_zero j)),OwnM.nil _ _⟩ ?_
 rintro i iv w2 ⟨hi,ay,b9,ps,b1,ae,bd,hO⟩;have aq:=cq.trans ay;refine ciR (λh=>?_) (λh=>?_)
 .have li:i<2:=by have:=oT h;omega
  clear h;have c2:Rd w2 1 (some ⟨ch,0,none⟩) 2 [Value.int .i64 1,.int .i64 2]:=(cb.rd rfl).ext ay;have e0:i=0∨i=1:=om
  have cx:([Value.int .i64 1,.int .i64 2]:List Value)[i]?=some (.int .i64 ((i:Int)+1)):=by grind
  refine ixR i c2 li ?_;refine ldR (c2.cell cx) ?_;refine clR (Jvh ((i:Int)+1) _) ?_;rintro u w3 ⟨⟨df,rfl,bs⟩,ai⟩;refine clR (Jvh 3 _) ?_;rintro u w4 ⟨⟨de,rfl,br⟩,ab⟩;refine Qd (bs2Rr _ _ _ _ _ _) ?_;intro w5 db a6 dl bq;have az:RowsV w5 (.slice (some ⟨db,0,none⟩) 2 2) [[nV ((i:Int)+1)],[nV 3]]:=Xjs [(.slice (some ⟨df,0,none⟩) 1 1,[nV ((i:Int)+1)]),(.slice (some ⟨de,0,none⟩) 1 1,[nV 3])] bq (λp hp=>by
   simp only[List.mem_cons,List.not_mem_nil,or_false]at hp;rcases hp with rfl|rfl
   .exact Jmd ((bs.ext ab).ext a6) (by show 1<=1100000;decide)
   exact Jmd (br.ext a6) (by decide)) (by show 2<=1100000;decide)
  refine clR (Jcn (ar:=1) az) ?_;rintro u w6 ⟨aa,rv,e,rfl,⟨z,B,mm,dd,d9⟩,ba,bc⟩;have he:e=0:=ba (by decide) (λr hr=>by
   simp only[List.mem_cons,List.not_mem_nil,or_false]at hr;rcases hr with rfl|rfl<;>exact⟨rfl,rfl⟩) (by show 2<=65536;decide)
  obtain⟨_,_,ms,be,cw,b3,b5⟩:=bc he;have bb:=b5 (.inl (by show 2<=12;decide));subst d9;refine Jw zRel1 ?_;intro w7 b4 ah d2 d8;refine Qo d8 ?_;intro w8 ca e1 a9;have am:Ext w6 w8:=a9 w6 ah d2;refine Qd (bs1Bl false) ?_;intro w9 cg a2 dk bp;refine Qd (bs1Iu 0) ?_;intro ck ce G dj bo;have b7:=(ca.ext a2).ext G;refine Jo b7 ?_;refine Zl (Jfl _ _ _ _ _ _ _ _) ?_;refine Qd (λw=>Jyw _ _ _ _ _ _ _ _ _ _ rfl rfl rfl w) ?_;intro cj cd J di bn;refine Zl (Xyq _ _ _ _ _ _ _ _ _) ?_;refine Qd (Jpj _ _ _ _ _ _ _ _ _ _ _) ?_;intro av e7 C dh bm;obtain⟨IA,ic,rfl,cz,cy⟩:=hO.form;have hC:CseOk (exU ((i:Int)+1)) [⟨[0],1,ms⟩]:=Xzt om bb cw b3;have ao:=((((ai.trans ab).trans a6).trans aa).trans am);have Z:=(((ao.trans a2).trans G).trans J).trans C;have dn:=ao.size;have z9:=a2.size;have dt:=G.size;have dq:=((ai.trans ab).trans a6).size;have hΦ:Off (λk=>False∨(Value.slice IA ps.length ic).ownBlock=some k) av (λu=>InG 1 [false] u [.int .i64 1,.int .i64 1,.slice (some ⟨cg,0,none⟩) 1 1,.slice none 0 0,.slice (some ⟨cd,0,none⟩) 1 1] (exU ((i:Int)+1),[⟨[0],1,ms⟩])):=λW hW=>by
   have b2:∀ {k:Nat},w2.heap.size<=k->¬ (False∨(Value.slice IA ps.length ic).ownBlock=some k):=λhk h=>by grind
   obtain⟨v,ev,cr⟩:=((((((be.ext am).ext a2).ext G).ext J).ext C)) W (hW.mono λk _ hk=>by grind);have cc:=congrArg (λv:Value=>match v with | .agg xs=>xs.toList|_=>[]) ev;simp only[List.cons.injEq,Value.int.injEq,true_and,and_true]at cc;obtain⟨ez,rfl⟩:=cc;have co:=Jv (((bp.ext G).ext J).ext C) hW (b2 om);have cn:=Jv ((bo.ext J).ext C) hW (b2 om);have cm:=Jv (bn.ext C) hW (b2 om);exact Qwj (c:=exU ((i:Int)+1)) (dA:=some ⟨cg,0,none⟩) (dc:=1) (pA:=none) (pc:=0) hC ⟨_,1,rfl,Nat.le_refl _,show 1<=1100000 by decide,co.rd rfl⟩ ⟨none,0,rfl,Nat.le_refl _,show 0<=1100000 by decide,Rd.nil⟩
    ⟨[([.slice (some ⟨ce,0,none⟩) 1 1,.int .i64 z,.slice B mm dd],⟨[0],1,ms⟩)],some ⟨cd,0,none⟩,1,rfl,rfl,Nat.le_refl _,show 1<=1100000 by decide,cm.rd rfl,λp hp=>by
     rw[List.mem_singleton.1 hp];exact⟨rfl,(.slice (some ⟨ce,0,none⟩) 1 1,.int .i64 z,.slice B mm dd),rfl,⟨_,1,rfl,Nat.le_refl _,show 1<=1100000 by decide,cn.rd rfl⟩,by rw[ez],cr⟩⟩
  refine ρ ?_;refine apM EInp (Φ:=InG 1 [false]) (hO.ext Z) bm rfl Jlq hΦ om om (nL b9 Z.size) ?_;intro cp b8 c4 bw dg;have a4:GrN (λk=>(Value.slice IA ps.length ic).ownBlock=some k) av b8:=GrN.by bw λk hk=>hk
  refine ρ ?_;refine Jh (i+1) cp sO ⟨li,a4.old (ay.trans Z) λk hk=>(cy k hk).1,Nat.le_trans b9 (nL Z.size a4.size),_,by grind,λp hp=>?_,λj hj=>?_,c4⟩ om
  .rcases List.mem_append.1 hp with hp|hp
   .exact ae p hp
   rw[List.mem_singleton.1 hp];exact⟨hC,rfl,rfl⟩
  repeat grind
 have d0:i=2:=by grind
 clear h;subst d0;have hE:ExU ps:=⟨b1,ae,bd 0 om,bd 1 om⟩;have c8:=Jfh (ps:=ps) om om ae;obtain⟨IA,ic,xc,rfl,cz,c5⟩:=GV.insM (hO.gv om) ae;rw[<-Jhd ae]at c5;have c9:=Jsr (c:=ic) (hTB.ext aq) c8 rfl c5;rw[Jqn]at c9;refine clR c9 ?_;rintro u w3 ⟨ai,cs,st,D,rfl,aj,c6,c7,d5,a7,d6,e3⟩;rw[b1]at c6;rw[hE.any]at a7;obtain⟨DA,dc,MA,mc,SA,sl,sc,da,_⟩:=id aj.ex;subst da;refine Jw zUni ?_;intro w4 b6 ab d1 d7;refine Qo d7 ?_;intro w5 au e2 a6;have an:Ext w3 w5:=a6 w3 ab d1;have a5:=aj.ext an;have ax:Ext w5 w5.drew:=(Ext.refl w5).drew;have c1:=a5.ext ax;refine drR (Go.Wk.sc 10 [1,2]) ?_;refine Qq (λj u hu=>(au.ext ax).at hu) ?_;refine Jm (Jxc 1 (by decide) _) ?_;rintro o w6 ⟨ho,_,aa⟩;refine⟨aa,?_⟩;refine Jm (Qhn (c1.ext aa) ho aj.sz (nR _) aj.f32) ?_;rintro u w7 ⟨ah,_,d3⟩;obtain⟨RA,rc,dz,rfl,c3,bz,_⟩:=d3 (by rw[a7];decide)
 rw[a7]at c3 bz;refine⟨ah,?_⟩;have a1:=(ax.trans aa).trans ah;have af:=au.ext a1;have aw:Ext w7 w7.drew:=(Ext.refl w7).drew;refine ρd ?_;refine drR (Go.Wk.sc 12 [1,2]) ?_;refine Qq (λj u hu=>(af.ext aw).at hu) ?_;refine Jm (Jvh 3 _) ?_;rintro u w8 ⟨⟨e6,rfl,bl⟩,a9⟩;refine⟨a9,?_⟩;refine Jm (Qhc (((a5.ext a1).ext aw).ext a9) (q:=[nV 3]) (bl.rd rfl) (nR _)) ?_;rintro u w9 ⟨a2,_,cv⟩;obtain⟨nv,dx,rfl,bf,_⟩:=cv (by rw[c7];rfl);rw[d5,a7,exW_a]at bf;rw[a7];refine⟨a2,?_⟩;have O:=(aw.trans a9).trans a2;have ag:Ext w9 w9.drew:=(Ext.refl w9).drew;rw[decide_eq_true (show[nV 3]∈exW by decide)];refine ρd ?_;refine drR (Go.Wk.sc 34 [4,5,13,14,25,29,30]) ?_;refine Qq (λj u hu=>((af.ext O).ext ag).at hu) ?_;refine ρd ?_;have d4:=((a5.ext a1).ext O).ext ag;refine dcl (Qhh d4) ?_;rintro n1 ck ⟨bg,G⟩;rw[a7]at bg;refine⟨G,?_⟩;refine Jm (Jpt (k:=3) bg (by decide)) ?_;rintro _ cj ⟨rfl,J⟩
 rw[decide_eq_true (show exW.length=3 from rfl)];refine⟨J,?_⟩;refine Jm (Jvh 2 _) ?_;rintro u av ⟨⟨e5,rfl,bj⟩,C⟩;refine⟨C,?_⟩;refine ρd ?_;have a8:=(ag.trans G).trans (J.trans C);refine dcl (Jck (a:=[nV 2]) ⟨RA,rc,rfl,bz,by decide,(Rd.ext c3 O).ext a8⟩ (Jmd bj (by decide))) ?_;rintro _ b8 ⟨rfl,a3⟩;rw[decide_eq_true rfl];refine⟨a3,?_⟩;refine Jm (Jpt (k:=2) (bf.ext ((ag.trans G).trans ((J.trans C).trans a3))) (by decide)) ?_;rintro _ dw ⟨rfl,ad⟩;rw[decide_eq_true (show 2=2 from rfl)];refine⟨ad,?_⟩;refine Qq (λj u hu=>((af.ext O).ext (a8.trans (a3.trans ad))).at hu) ?_;refine Jm (Jvh 3 _) ?_;rintro u dv ⟨⟨e4,rfl,bi⟩,ac⟩;refine⟨ac,?_⟩;refine ρd ?_;have ak:=a8.trans (a3.trans ad);refine dcl (Qhf (((a5.ext a1).ext O).ext (ak.trans ac)) (q:=[nV 3]) (bi.rd rfl) (nR _)) ?_;rintro u du ⟨ap,rfl⟩;have bh:=c8.mems [nV 3];rw[Jqn,b1,hE.mem]at bh
 rw[if_pos (show[nV 3].length=D.f from c7.symm),c6,d6,bh];refine⟨ap,?_⟩;refine ρd ?_;refine ρ ?_;exact Jj ⟨rfl,((aq.trans ai).trans (an.trans a1)).trans (O.trans ((ak.trans ac).trans ap))⟩
open Go.RowKit Pl Go.Wk
variable {ds:List Bool}{ps:List CsA}{B0 f ic:Nat}{w:World}
theorem CsM.dsl{p:CsA}(h:CsM f ds p): ds.length=f:=by
 obtain⟨i,o,j⟩:=h;have e:(p.1.ds.length:Int)=p.1.f:=i.chk.2.2.2.2.1;rw[i.fF.1,j,o]at e;omega
theorem GV.hd{iv:Value}(h:GV 5 (InG f ds) w iv ps)(hp:∀ p∈ps,CsM f ds p)(h1:1<=ps.length):
  ∃(IA:Option Addr) (ic:Nat) (xc:Nat->List Value) (D:Option Addr) (dc:Nat),iv=.slice IA ps.length ic/\InsM w IA f ds (ps.map λp=>Zy p.1 p.2) xc/\Rd w 5 IA ps.length (Ql ps.length xc)/\BoolsV w (.slice D ds.length dc) ds /\
   (∀ W,Ext w W->W.cell? ((adr IA (0*5)).add 1)=some (.int .i64 (f:Int)))/\∀ W,Ext w W->W.cell? ((adr IA (0*5)).add 2)=some (.slice D ds.length dc):=by
 obtain⟨IA,ic,xc,rfl,J,C⟩:=GV.insM h hp;obtain⟨D,Q,T,dc,pc,O,ts,u⟩:=(C.el 0 (by rw[List.length_map];exact h1)).inF;have j:=C.rd;rw[List.length_map]at j;have o:∀ i,i<ps.length->(xc i).length=5:=λi hi=>by
  obtain⟨_,_,_,_,_,_,_,u⟩:=(C.el i (by rw[List.length_map];exact hi)).inF;rw[u.e];rfl
 refine⟨IA,ic,xc,D,dc,rfl,C,j,⟨D,dc,rfl,u.dl.1,u.dl.2,u.d⟩,λW G=>?_,λW G=>?_⟩
 .rw[Xk];exact(j.ext G).cell (by rw[Yv o h1 (by decide),u.e];rfl)
 rw[Xk];exact(j.ext G).cell (by rw[Yv o h1 (by decide),u.e];rfl)
theorem InsM.bld{IA:Option Addr}{xc:Nat->List Value}(hI:InsM w IA f ds (ps.map λp=>Zy p.1 p.2) xc)(hTB:TB B0 w)(hp:∀ p∈ps,CsM f ds p)(h1:1<=ps.length)(h3:ps.length<=3):
  Ret Tryz.prog 12 [.slice IA ps.length ic] w λu w'=>Ext w w'/\∃(cs:List Value) (st:Int) (D:UD),u=.tuple #[.agg cs.toArray,.int .i64 st,.int .i64 0]/\UnV w' D cs/\D.k=ps.length/\D.f=f/\D.ds=ds/\D.U=Gj ds (sgl ps)/\D.M=(λs=>Xb (pick (sgl ps) s).flatten)/\D.Hm=mxR D.n (λi=>Qb D.f λv=>hmB (D.BB i v)):=by
 rw[<-Jhd hp]at hI;obtain⟨p,j⟩:=List.exists_mem_of_length_pos h1;have:=Jsr (c:=ic) hTB (Jfh h1 h3 hp) (hp p j).dsl hI;rwa [Jqn]at this
end Go.Proofs.YtbcdghbonlifdaaGreatDoor
namespace Go.Proofs.YtbcdghbonlifdaaGreatDoor
open Go.RowKit Pl Go.Wk Go.ChangeShapes Go.WideShapes
section
variable {H:Type} {enc:TypeId×Value->H} {w:World} {base b0:Nat} {spare:Nat->Bool} {held:Bool}
def Qfd(w:World)(v:Value): Prop:=∃(A:Option Addr) (c:Nat) (l:List Cse) (xc:Nat->List Value),v=.slice A l.length c/\CsesV w A l xc/\∀ c∈l,∀ i,i<c.rss.length->∀ r∈c.rss.getD i [],∀ u∈r,Xa u
theorem Qsn{v:Value}{d:DataW H}{p:List MemPlace}(hv:Value.okWide Tryz.prog w .any b0 22 v)(h:DataW.Trod enc Tryz.prog w base spare held 22 v d p)(hb:Rows.uptoBulk d<=1048576): Qfd w v:=by
 obtain⟨a,len,G,rfl⟩:=okWide_slice Tryz.underlying22 hv;obtain⟨J,Z⟩:=h;obtain⟨ps,A,c,e,C,o,h3,h4⟩:=Jxb (sz:=6) (λp:List Value×Cse=>p.1) (λp=>CseV w p.1 p.2/\∀ i,i<p.2.rss.length->∀ r∈p.2.rss.getD i [],∀ u∈r,Xa u) Tryz.underlying22 kr hb (λn D y O hb=>by
  obtain⟨c,C,o⟩:=Qsp O hb;exact⟨(D,c),rfl,C,o⟩) Z
 have e':Value.slice a len G=.slice A ps.length c:=by injection e
 refine⟨A,c,ps.map (·.2),λi=>(ps.getD i ([],c0)).1,by rw[List.length_map];exact e',⟨by rw[List.length_map,<-Jnh c0];exact C,λi hi=>?_⟩,λc hc=>?_⟩
 .have j:i<ps.length:=by rwa [List.length_map]at hi
  rw[Xzc (·.2) ps ([],c0) c0 j]
  exact(o _ (getD_mem' _ _ j)).1
 obtain⟨p,hp,rfl⟩:=List.mem_map.1 hc;exact(o p hp).2
end
open Go.RowKit Pl Go.Wk
attribute [local irreducible] WC WL QX WD WDB WP WN WG WH WM
theorem InsM.cell{w W:World}{A:Option Addr}{f i j:Nat}{ds:List Bool}{Ms:List UMem}{xc:Nat->List Value}{u:Value}(h:InsM w A f ds Ms xc)(hx:Ext w W)(hi:i<Ms.length)(hu:(xc i)[j]?=some u): W.cell? ((adr A (i*5)).add j)=some u:=by
 have o:∀ i,i<Ms.length->(xc i).length=5:=λi hi=>by
  obtain⟨_,_,_,_,_,_,_,D⟩:=(h.el i hi).inF;rw[D.e];rfl
 have C:j<5:=by
  rcases Nat.lt_or_ge j 5 with h'|h'
  .exact h'
  rw[List.getElem?_eq_none (by rw[o i hi];omega)]at hu;cases hu
 rw[Xk];exact(h.rd.ext hx).cell (by rw[Yv o hi C];exact hu)
open Go.RowKit Pl Go.Wk _root_.Go.Proofs.Tryz
variable {L:List Row}{ar c d:Nat}{va vb:Value}{w:World}
theorem Xzv{A B:Option Addr}{us:List Nat}(hA:Rd w 1 A us.length (Ja (nz us)))(hB:Rd w 1 B us.length (Ja (nz us)))(hm:us.length<=1100000):
  Ret prog 39 [.slice A us.length c,.slice B us.length d] w λu w'=>u=.bool true/\Ext w w':=by
 refine enE func39 ntmps39 ?_;refine ciR (λh=>absurd rfl (Yn h)) (λh=>?_);clear h;refine ρ ?_;refine Qm (fun (k:Nat)=>[(0,.slice A us.length c),(1,.slice B us.length d),(12,.int .i64 (us.length:Int)),(13,.int .i64 (k:Int))])
  (λk w'=>k<=us.length/\Ext w w') (λk=>us.length-k) 0 sB ⟨Nat.zero_le _,Ext.refl _⟩ ?_
 rintro k D ⟨G,i⟩;refine ciR (λh=>?_) (λh=>?_)
 .have lk:k<us.length:=by have:=oT h;omega
  clear h;refine drR (Go.Wk.sc 9 []) ?_;have j:Ext D D.drew:=(Ext.refl D).drew;have C:=Rd.ext hA (i.trans j);have o:=Rd.ext hB (i.trans j);refine Jd k C lk ?_;refine Jz (C.cell (Xo lk)) ?_;refine Jd k o lk ?_;refine Jz (o.cell (Xo lk)) ?_;refine ρd ?_;refine ciR (λh=>absurd rfl (Yn h)) (λh=>?_);clear h;refine ρ ?_;exact Qy (k+1) sO ⟨lk,i.trans j⟩ om
 refine ρ ?_;exact Jj ⟨rfl,i⟩
theorem Xzw(ha:RowsV w va L)(hb:RowsV w vb L):
  Ret prog 82 [va,vb,.func (.func 42) #[] #[]] w λu w'=>u=.bool true/\Ext w w':=by
 obtain⟨A,c,rfl,_,Z,_⟩:=ha.parts;obtain⟨B,d,rfl,_⟩:=hb.parts;refine enE func82 ntmps82 ?_;refine ciR (λh=>absurd rfl (Yn h)) (λh=>?_);clear h;refine ρ ?_;refine Qm (fun (k:Nat)=>[(1,.slice B L.length d),(2,.func (.func 42) #[] #[]),(15,.slice A L.length c),(16,.int .i64 (L.length:Int)),(17,.int .i64 (k:Int))])
  (λk w'=>k<=L.length/\Ext w w') (λk=>L.length-k) 0 sB ⟨Nat.zero_le _,Ext.refl _⟩ ?_
 rintro k w1 ⟨hk,i⟩;refine ciR (λh=>?_) (λh=>?_)
 .have lk:k<L.length:=by have:=oT h;omega
  clear h;obtain⟨va,ca,O,_,G,o⟩:=(ha.ext i).one lk;obtain⟨vb,cb,J,_,D,j⟩:=(hb.ext i).one lk;obtain⟨_,_,rfl,_⟩:=id o;obtain⟨_,_,rfl,_⟩:=id j;refine ixR k O lk ?_;refine ldR (O.cell G) ?_;refine ixR k J lk ?_;refine ldR (J.cell D) ?_;refine ρ ?_;refine clv (Jck o j) ?_;rintro _ w2 ⟨rfl,C⟩;rw[decide_eq_true rfl];refine ρ ?_;exact Qy (k+1) sO ⟨lk,i.trans C⟩ om
 refine ρ ?_;exact Jj ⟨rfl,i⟩
theorem Qpb(ha:RowsV w va L)(hb:RowsV w vb L):
  Ret prog 38 [.agg #[.int .i64 (ar:Int),va],.agg #[.int .i64 (ar:Int),vb]] w λu w'=>u=.bool true/\Ext w w':=by
 obtain⟨A,c,rfl,_⟩:=ha.parts;obtain⟨B,d,rfl,_⟩:=hb.parts;refine enE func38 ntmps38 ?_;refine bxR ?_;intro w1 b2 o O D;refine bxR ?_;intro w2 b3 j J C;refine ldR ((D.ext j).at (i:=0) rfl) ?_;refine ldR (C.at (i:=0) rfl) ?_;refine ρ ?_;rw[beq_self_eq_true];refine ldR ((D.ext j).at (i:=1) rfl) ?_;refine ldR (C.at (i:=1) rfl) ?_;refine clR (Xzw (ha.ext (o.trans j)) (hb.ext (o.trans j))) ?_;rintro _ Z ⟨rfl,G⟩;refine ρ ?_;exact Jj ⟨rfl,(o.trans j).trans G⟩
open Go.RowKit Pl Go.Wk
variable {B0 c dc f j pc tc:Nat}{A D Q T:Option Addr}{w:World}
theorem Qjl(ps:List CsA): (sgl ps).flatten=ps:=by simp[sgl,List.flatten_eq_flatMap,List.flatMap_map]
theorem InF.atom{ds:List Bool}{M:UMem}{cs:List Value}{ts:List TA}(hF:InF w f ds M cs D Q T dc pc tc ts)(hj:j<M.ats.length):
  ∃ VA vd G gl gc,(ts.getD j ta0).1.cells=[.slice VA (M.ats.getD j pa0).1.length vd,.int .i64 ((M.ats.getD j pa0).1.length:Int),.slice G gl gc]/\Rd w 1 VA (M.ats.getD j pa0).1.length (Ja (nz (M.ats.getD j pa0).1))/\RowsV w (.slice G gl gc) (M.ats.getD j pa0).2:=by
 obtain⟨u,i⟩:∃ u,u=ts.getD j ta0:=⟨_,rfl⟩;have a4:u∈ts:=by rw[i];exact getD_mem' ta0 ts (by rw[hF.tl];exact hj)
 obtain⟨a,ha⟩:∃ a,a=M.ats.getD j pa0:=⟨_,rfl⟩;have C:u.2=toAtm a:=by
  have h1:=congrArg (λl=>l[j]?) hF.a;have J:j<ts.length:=by rw[hF.tl];exact hj
  simp only[List.getElem?_map,List.getElem?_eq_getElem hj,List.getElem?_eq_getElem J,Option.map_some,Option.some.injEq]at h1;rw[i,ha,Qc ta0 ts J,Qc pa0 M.ats hj];exact h1.symm
 have a3:=hF.at_ u a4;rw[C]at a3;rw[<-i,<-ha];obtain⟨⟨t1,t2,t3⟩,a2⟩:=u;obtain⟨a1,Z,o⟩:=a3;simp only at a1 Z o;obtain⟨VA,vd,rfl,_,a6,a5⟩:=IntsV.n (l:=a.1) a1;obtain⟨G,gl,gc,rfl⟩:∃ G gl gc,t3=.slice G gl gc:=by obtain⟨ps,G,gc,_,e,_⟩:=id o;exact⟨G,_,gc,e⟩
 have O:t2=.int .i64 (a.1.length:Int):=Z;subst O;exact⟨VA,vd,G,gl,gc,rfl,a5,o⟩
theorem Qhb{l:List Cse}{xc:Nat->List Value}(hTB:TB B0 w)(hL:CsesV w A l xc)(hfit:∀ c∈l,∀ i,i<c.rss.length->∀ r∈c.rss.getD i [],∀ u∈r,Xa u):
  Ret Tryz.prog 8 [.slice A l.length c] w λu w'=>u=.bool true/\Ext w w':=by
 refine enE Tryz.func8 Tryz.ntmps8 ?_;refine clR (Xjk hL hfit) ?_;rintro u w1 ⟨bc,hm⟩;rcases hm with rfl|⟨ps,iv,rv,rfl,h1,h3,hmp,hps,hiv,hrv⟩
 .refine clR (Qcz (hTB.ext bc)) ?_;rintro _ w2 ⟨rfl,c3⟩;refine ρ ?_;exact Jj ⟨rfl,bc.trans c3⟩
 obtain⟨f,hf⟩:∃ f,f=(l.getD 0 c0).F:=⟨_,rfl⟩;obtain⟨ds,hd⟩:∃ ds,ds=(l.getD 0 c0).ds:=⟨_,rfl⟩;rw[<-hf,<-hd]at hps hiv;have fe:ps.length=l.length:=by rw[<-hmp,List.length_map]
 have g1:1<=ps.length:=om
 have g3:ps.length<=3:=om
 clear hmp hf hd;obtain⟨IA,ic,yc,D0,fy,rfl,hI,bd,e9,d2,ec⟩:=GV.hd hiv hps g1;have bf:ds.length=f:=(hps _ (List.getElem_mem g1)).dsl;have d9:=hI;rw[<-Jhd hps]at d9;have d8:=(Jfh g1 g3 hps).hs.meet_any (c:=ic) bf d9;rw[Jqn,Qjl]at d8;refine clR d8 ?_;rintro u w2 ⟨c3,f9,rfl,be⟩;obtain⟨Ms,b5⟩:∃ Ms,Ms=Qp ps:=⟨_,rfl⟩;rw[<-b5]at be;have en:InsM w1 IA f ds Ms yc:=by rw[b5];exact hI
 have cv:Ms.length=ps.length:=by rw[b5,Qp,List.length_map]
 have hU:∀ M∈Ms,UOk f M:=b5 ▸ Jzc hps;have cq:Ms≠[]:=λe=>by rw[e]at cv;simp at cv;omega
 have bg:=Jpf hU bf cq om;obtain⟨D,Q,T,dc,pc,tc,ts,hF⟩:=be.inF;have eo:=hF.e;subst eo;refine Jw Yt ?_;intro w3 b6 dq ee ep;refine Qo ep ?_;intro w4 dd fx dn;have a7:Ext w2 w4:=dn w2 dq ee;have aa:=c3.trans a7;have ab:Ext w4 w4.drew:=(Ext.refl w4).drew;have Z:=aa.trans ab;refine drR (Go.Wk.sc 10 []) ?_;refine Zr 5 0 (bd.ext Z) g1 ?_;refine Jz (d2 _ Z) ?_;refine Zr 5 0 (bd.ext Z) g1 ?_;refine Jz (d2 _ Z) ?_;refine ρd ?_;refine ρ ?_;have a4:=dd.ext ab;have a5:InF w4.drew f ds (Qg f Ms) _ D Q T dc pc tc ts:=(be.ext (a7.trans ab)).inF |> λ_=>⟨rfl,Rd.ext hF.d (a7.trans ab),hF.dl,hF.p.ext (a7.trans ab),hF.a,hF.tl,hF.t.ext (a7.trans ab),λp hp=>(hF.at_ p hp).ext (a7.trans ab)⟩;have bp:=be.ext (a7.trans ab);have ca:=en.ext Z;have d0:∀ {i},i<Ms.length->∃ D Q T dc pc tc ts,InF w4.drew f ds (Ms.getD i um0) (yc i) D Q T dc pc tc ts:=λhi=>(ca.el _ hi).inF;generalize hw4:w4.drew=w5 at ab Z a4 a5 bp ca d0 ⊢
 have c5:∀ i,jN f 0 (Ms.take i)<=24:=λi=>by
  have:=bg.1;have e:=List.take_append_drop i Ms;have h2:jN f 0 (Ms.take i++Ms.drop i)=jN f 0 Ms:=by rw[e]
  rw[Jvt]at h2;have:=Uo (f:=f) (s:=jN f 0 (Ms.take i)-f) (Ms:=Ms.drop i);omega
 have cx:∀ i,(jPm f 0 (Ms.take i)).length<=1000:=λi=>by
  have e:=List.take_append_drop i Ms;have h2:jPm f 0 (Ms.take i++Ms.drop i)=jPm f 0 Ms:=by rw[e]
  rw[Jvs]at h2;have h3:=congrArg List.length h2;rw[List.length_append]at h3;have h4:=(Qkl hU bf cq om).pm.len;have h5:(Qg f Ms).perm=jPm f 0 Ms:=rfl;have h6:(Qg f Ms).N=jN f 0 Ms:=rfl;have:=bg.1;rw[h5,h6]at h4;omega
 have cz:∀ i,f<=jN f 0 (Ms.take i):=λi=>by have:=Uo (f:=f) (s:=0) (Ms:=Ms.take i);omega
 refine Qj (fun (i:Nat) (pv:Value)=>[(2,.bool false),(3,.slice IA ps.length ic),(4,rv),(6,.pointer (some ⟨b6,0,none⟩)),(7,.int .i64 0),(8,.int .i64 (f:Int)),(9,.int .i64 (jN f 0 (Ms.take i):Int)),(10,pv),(11,.int .i64 ((jAs f 0 (Ms.take i)).length:Int)),(52,.slice IA ps.length ic),(53,.int .i64 (ps.length:Int)),(54,.int .i64 (i:Int))])
  (λi pv w'=>i<=ps.length/\Ext w5 w'/\Zm w' w5.heap.size pv (jPm f 0 (Ms.take i))) (λi _=>ps.length-i) 0 (.slice none 0 0) sB ⟨Nat.zero_le _,Ext.refl _,Zc _ _ _ _⟩ ?_
 rintro i pv w6 ⟨hi,an,hO⟩;refine ciR (λh=>?_) (λh=>?_)
 .have li:i<ps.length:=by have:=oT h;omega
  clear h;have bw:i<Ms.length:=om
  obtain⟨Di,Qi,Ti,di,qi,ti,si,hG⟩:=d0 bw;have da:=hG.e;obtain⟨M,hM⟩:∃ M,M=Ms.getD i um0:=⟨_,rfl⟩;rw[<-hM]at hG da;have ax:UOk f M:=by rw[hM];exact hU _ (getD_mem' um0 Ms bw)
  have ah:Ms.take (i+1)=Ms.take i++[M]:=by grind [Qr,um0]
  refine Qn 5 i (bd.ext (Z.trans an)) li ?_;refine Jl (cs:=[.int .i64 (M.N:Int),.int .i64 (f:Int),.slice Di ds.length di,.slice Qi M.perm.length qi,.slice Ti M.ats.length ti]) (λj u hu=>ca.cell an bw (by rw[da];exact hu)) ?_;refine Jw Yt ?_;intro w7 b8 ai d5 dg;refine Qo dg ?_;intro w8 am fw ba;have bl:Ext w6 w8:=ba w6 ai d5;have a6:=an.trans bl;have e8:=ax.pm.fn;have fk:=c5 i;have ey:=cz i;have fg:=ax.n6;refine ldR (am.at (i:=3) rfl) ?_;refine ρ ?_;have eh:(jN f 0 (Ms.take i):Int)-(f:Int)=((jN f 0 (Ms.take i)-f:Nat):Int):=om
  rw[eh];obtain⟨sh,c4⟩:∃ sh,sh=jN f 0 (Ms.take i)-f:=⟨_,rfl⟩;rw[<-c4];have dx:sh<=24:=by have:=c5 i;omega
  have fp:(jPm f 0 (Ms.take i)).length<=1000:=cx i;have e1:=ax.pm.len;refine Qj (fun (j:Nat) (pv:Value)=>[(2,.bool false),(3,.slice IA ps.length ic),(4,rv),(6,.pointer (some ⟨b6,0,none⟩)),(7,.int .i64 0),(8,.int .i64 (f:Int)),(9,.int .i64 (jN f 0 (Ms.take i):Int)),(10,pv),(11,.int .i64 ((jAs f 0 (Ms.take i)).length:Int)),(13,.pointer (some ⟨b8,0,none⟩)),(14,.int .i64 (sh:Int)),(52,.slice IA ps.length ic),(53,.int .i64 (ps.length:Int)),(54,.int .i64 (i:Int)),(62,.slice Qi M.perm.length qi),(63,.int .i64 (M.perm.length:Int)),(64,.int .i64 (j:Int))])
   (λj pv w'=>j<=M.perm.length/\Ext w5 w'/\Blk w' b8 42 [.int .i64 (M.N:Int),.int .i64 (f:Int),.slice Di ds.length di,.slice Qi M.perm.length qi,.slice Ti M.ats.length ti]/\Zm w' w5.heap.size pv (jPm f 0 (Ms.take i)++(M.perm.take j).map (ren f sh))) (λj _=>M.perm.length-j) 0 pv sB
   ⟨Nat.zero_le _,a6,am,by rw[List.take_zero,List.map_nil,List.append_nil];exact Jk hO bl⟩ ?_
  clear hO pv am a6;rintro j pv w9 ⟨hj,O,ae,hO⟩;refine ciR (λh=>?_) (λh=>?_)
  .have lj:j<M.perm.length:=by have:=oT h;omega
   clear h;obtain⟨v,hv⟩:∃ v,v=M.perm.getD j 0:=⟨_,rfl⟩;have du:v∈M.perm:=by rw[hv];exact getD_mem' 0 _ lj
   have dt:=ax.pm.rng v du;refine ixR j (hG.p.ext O) lj ?_;refine ldR ((hG.p.ext O).cell (Xo lj)) ?_;refine ρ ?_;rw[<-hv,show(v:Int)+(sh:Int)=((ren f sh v:Nat):Int) by rw[Jqq dt.1];omega];refine bsl (bs1Int'' _) ?_;intro bs g0 a2 f2 dh;refine ρ ?_;refine apI (Jk hO a2) dh (by rw[List.length_append,List.length_map,List.length_take];omega) (O.trans a2).size ?_;intro dm cd ef bq ew;obtain⟨_,_,_,_,e2⟩:=Jb hO;have b2:Ext w5 cd:=Qt (O.trans a2) bq (λg eg=>(e2 g eg).1);have bj:=(ae.ext a2).grown bq ((ae.ext a2).ne_own (Jk hO a2) rfl);refine ρ ?_;refine Jh (j+1) dm sO ⟨lj,b2,bj,?_⟩ om;rw[List.take_add_one,List.map_append,<-List.append_assoc,show M.perm[j]?.toList=[v] by rw[hv];simp[List.getD,lj]];exact ef
  have c6:j=M.perm.length:=by have:=oF h;omega
  clear h;subst c6;rw[List.take_length,c4,<-Qkn,<-ah]at hO;clear hj;refine ldR (ae.at (i:=4) rfl) ?_;refine ρ ?_;have fr:(jAs f 0 (Ms.take i)).length+M.ats.length<=(jAs f 0 Ms).length:=by
   have e:=List.take_append_drop (i+1) Ms;have h2:jAs f 0 (Ms.take (i+1)++Ms.drop (i+1))=jAs f 0 Ms:=by rw[e]
   rw[<-h2,Jkg,ah,Jdp,List.length_append,List.length_append,List.length_map];omega
  have e4:∀ j,j<M.ats.length->(jAs f 0 Ms).getD ((jAs f 0 (Ms.take i)).length+j) pa0=Qa f sh (M.ats.getD j pa0):=λj hj=>by
   have e:=List.take_append_drop (i+1) Ms;have h2:jAs f 0 (Ms.take (i+1)++Ms.drop (i+1))=jAs f 0 Ms:=by rw[e]
   rw[<-h2,Jkg,ah,Jdp,<-c4,List.append_assoc,List.getD,List.getElem?_append_right om,Nat.add_sub_cancel_left,List.getElem?_append_left (by rw[List.length_map];exact hj),List.getElem?_map];simp[List.getD,hj]
  have cy:(jAs f 0 Ms).length<=1000:=by have:=Jxl (s:=0) hU;omega
  refine Qm (fun (j:Nat)=>[(2,.bool false),(3,.slice IA ps.length ic),(4,rv),(6,.pointer (some ⟨b6,0,none⟩)),(7,.int .i64 0),(8,.int .i64 (f:Int)),(9,.int .i64 (jN f 0 (Ms.take i):Int)),(10,pv),(11,.int .i64 (((jAs f 0 (Ms.take i)).length+j:Nat):Int)),(13,.pointer (some ⟨b8,0,none⟩)),(14,.int .i64 (sh:Int)),(52,.slice IA ps.length ic),(53,.int .i64 (ps.length:Int)),(54,.int .i64 (i:Int)),(76,.slice Ti M.ats.length ti),(77,.int .i64 (M.ats.length:Int)),(78,.int .i64 (j:Int))])
   (λj w'=>j<=M.ats.length/\Ext w9 w') (λj=>M.ats.length-j) 0 sB ⟨Nat.zero_le _,Ext.refl _⟩ ?_
  rintro j b9 ⟨hj,ac⟩;have J:=O.trans ac;refine ciR (λh=>?_) (λh=>?_)
  .have lj:j<M.ats.length:=by have:=oT h;omega
   clear h;obtain⟨VA,vd,G,gl,gc,dj,c8,db⟩:=hG.atom lj;have fj:j<ts.length∨True:=.inr trivial;obtain⟨VB,vb,H,hl,hc,b7,b4,cb⟩:=a5.atom (j:=(jAs f 0 (Ms.take i)).length+j) (by show _<(jAs f 0 Ms).length;omega);have e6:(Qg f Ms).ats.getD ((jAs f 0 (Ms.take i)).length+j) pa0=Qa f sh (M.ats.getD j pa0):=e4 j lj;rw[e6]at b7 b4 cb;have cw:(Qa f sh (M.ats.getD j pa0)).1.length=(M.ats.getD j pa0).1.length:=List.length_map _;rw[cw]at b7 b4;obtain⟨a,ha⟩:∃ a,a=M.ats.getD j pa0:=⟨_,rfl⟩;rw[<-ha]at dj b7 c8 b4 db cb;have cm:(Qa f sh a).1.length=a.1.length:=List.length_map _;have d6:a∈M.ats:=by rw[ha];exact getD_mem' pa0 _ lj
   refine Qn 3 j (hG.t.ext J) lj ?_;refine Jl (cs:=[.slice VA a.1.length vd,.int .i64 (a.1.length:Int),.slice G gl gc]) (λq u hu=>Ir (hG.t.ext J) hG.tl lj (by rw[dj];exact hu)) ?_;refine Jw Yc ?_;intro dk fz ag d4 df;refine Qo df ?_;intro au bi ez aa;have ao:Ext b9 au:=aa b9 ag d4;have aw:Ext au au.drew:=(Ext.refl au).drew;have C:=(J.trans ao).trans aw;have ak:=bi.ext aw;have a3:=a4.ext C;refine drR (Go.Wk.sc 30 [27]) ?_;have b3:(jAs f 0 (Ms.take i)).length+j<(Qg f Ms).ats.length:=by show _<(jAs f 0 Ms).length;omega
   have c9:=a5.t.ext C;have d7:∀ {q:Nat} {u:Value},[Value.slice VB a.1.length vb,.int .i64 (a.1.length:Int),.slice H hl hc][q]?=some u->au.drew.cell? ((adr T (((jAs f 0 (Ms.take i)).length+j)*3)).add q)=some u:=λhu=>Ir c9 a5.tl b3 (by rw[b7];exact hu);refine Jz (a3.at (i:=4) rfl) ?_;refine ρd ?_;rw[decide_eq_false (show¬ ((Qg f Ms).ats.length:Int)<=(((jAs f 0 (Ms.take i)).length+j:Nat):Int) by omega)];refine Jz (a3.at (i:=4) rfl) ?_;refine Zr 3 _ c9 b3 ?_;refine Jz (d7 (q:=0) rfl) ?_;refine Jz (ak.at (i:=0) rfl) ?_;refine ρd ?_;rw[bne_self_eq_false];refine Jz (a3.at (i:=4) rfl) ?_;refine Zr 3 _ c9 b3 ?_;refine Qq (cs:=[.int .i64 (a.1.length:Int),.slice H hl hc]) (λq u hu=>by rw[Jbg,Nat.add_comm];exact d7 (q:=q+1) hu) ?_;refine Qq (cs:=[.int .i64 (a.1.length:Int),.slice G gl gc]) (λq u hu=>by rw[Jbg,Nat.add_comm];exact ak.at (i:=q+1) hu) ?_;refine Jm (Qpb (L:=a.2) (cb.ext C) (db.ext C)) ?_
   rintro _ br ⟨rfl,a9⟩;refine⟨a9,?_⟩;refine ρd ?_;refine ldR ((ak.ext a9).at (i:=0) rfl) ?_;refine ρ ?_;have c2:=C.trans a9;have c1:=(ac.trans ao).trans (aw.trans a9);have bn:∀ v∈a.1,v<M.N:=ax.lt a d6;have f3:a.1.length<=24:=Jcz 24 ((ax.asc a d6).imp λh=>Nat.ne_of_lt h) λv hv=>by have:=bn v hv;omega
   refine Qm (fun (q:Nat)=>[(2,.bool false),(3,.slice IA ps.length ic),(4,rv),(6,.pointer (some ⟨b6,0,none⟩)),(7,.int .i64 0),(8,.int .i64 (f:Int)),(9,.int .i64 (jN f 0 (Ms.take i):Int)),(10,pv),(11,.int .i64 (((jAs f 0 (Ms.take i)).length+j:Nat):Int)),(13,.pointer (some ⟨b8,0,none⟩)),(14,.int .i64 (sh:Int)),(52,.slice IA ps.length ic),(53,.int .i64 (ps.length:Int)),(54,.int .i64 (i:Int)),(76,.slice Ti M.ats.length ti),(77,.int .i64 (M.ats.length:Int)),(78,.int .i64 (j:Int)),(113,.slice VA a.1.length vd),(114,.int .i64 (a.1.length:Int)),(115,.int .i64 (q:Int))])
    (λq w'=>q<=a.1.length/\Ext br w') (λq=>a.1.length-q) 0 sB ⟨Nat.zero_le _,Ext.refl _⟩ ?_
   rintro q ay ⟨hq,a8⟩;refine ciR (λh=>?_) (λh=>?_)
   .have lq:q<a.1.length:=by have:=oT h;omega
    clear h;have a1:=c2.trans a8;obtain⟨v,hv⟩:∃ v,v=a.1.getD q 0:=⟨_,rfl⟩;have fa:=bn v (by rw[hv];exact getD_mem' 0 _ lq);refine ixR q (c8.ext a1) lq ?_;refine ldR ((c8.ext a1).cell (Xo lq)) ?_;refine ρ ?_;rw[<-hv];refine Zn (fun (z:Nat)=>[(19,.int .i64 (q:Int)),(20,.int .i64 (z:Int)),(2,.bool false),(3,.slice IA ps.length ic),(4,rv),(6,.pointer (some ⟨b6,0,none⟩)),(7,.int .i64 0),(8,.int .i64 (f:Int)),(9,.int .i64 (jN f 0 (Ms.take i):Int)),(10,pv),(11,.int .i64 (((jAs f 0 (Ms.take i)).length+j:Nat):Int)),(13,.pointer (some ⟨b8,0,none⟩)),(14,.int .i64 (sh:Int)),(52,.slice IA ps.length ic),(53,.int .i64 (ps.length:Int)),(54,.int .i64 (i:Int)),(76,.slice Ti M.ats.length ti),(77,.int .i64 (M.ats.length:Int)),(78,.int .i64 (j:Int)),(113,.slice VA a.1.length vd),(114,.int .i64 (a.1.length:Int)),(115,.int .i64 (q:Int))])
     (λz w'=>w'=ay/\z=ren f sh v) ?_ ?_
    .refine ci (λh=>?_) (λh=>?_)
     .have e7:f<=v:=by have:=oT h;omega
      refine ρ ?_;exact Jf (v+sh) sO ⟨rfl,(Jqq e7).symm⟩
     have e3:v<f:=by have:=oF h;omega
     refine ρ ?_;exact Jf v sB ⟨rfl,(Jcm e3).symm⟩
    rintro z cc ⟨rfl,rfl⟩;refine ldR ((a4.ext a1).at (i:=4) rfl) ?_;refine Qn 3 _ (a5.t.ext a1) b3 ?_;refine ldR (Ir (j:=0) (u:=.slice VB a.1.length vb) (a5.t.ext a1) a5.tl b3 (by rw[b7];rfl)) ?_;refine ixR q (b4.ext a1) lq ?_;refine ldR ((b4.ext a1).cell (Xo (by rw[cm];exact lq))) ?_;refine ρ ?_;have e5:(Qa f sh a).1.getD q 0=ren f sh v:=by rw[hv];simp[Qa,List.getD,lq]
    rw[e5];refine ci (λh=>absurd rfl (Yn h)) (λh=>?_);clear h;refine ρ ?_;exact Qy (q+1) sO ⟨lq,a8⟩ om
   have fd:q=a.1.length:=by have:=oF h;omega
   clear h;refine ρ ?_;exact Qy (j+1) sO ⟨lj,c1.trans a8⟩ om
  have c6:j=M.ats.length:=by have:=oF h;omega
  clear h;subst c6;refine ldR ((ae.ext ac).at (i:=0) rfl) ?_;refine ρ ?_;have ei:jN f 0 (Ms.take (i+1))=jN f 0 (Ms.take i)+(M.N-f):=by rw[ah,Qkq e8]
  have er:(jAs f 0 (Ms.take (i+1))).length=(jAs f 0 (Ms.take i)).length+M.ats.length:=by rw[ah,Jdp,List.length_append,List.length_map]
  rw[show(jN f 0 (Ms.take i):Int)+((M.N:Int)-(f:Int))=(jN f 0 (Ms.take (i+1)):Int) by rw[ei];omega,<-er];exact Jh (i+1) pv sO ⟨li,J,Jk hO ac⟩ om
 have ft:i=ps.length:=by have:=oF h;omega
 clear h;have dw:Ms.take i=Ms:=List.take_of_length_le om;rw[dw]at hO ⊢;have cy:(jAs f 0 Ms).length<=1000:=by have:=Jxl (s:=0) hU;omega
 have fq:=bg.1;have fl:(Qg f Ms).N=jN f 0 Ms:=rfl;have fo:(Qg f Ms).ats.length=(jAs f 0 Ms).length:=rfl;obtain⟨PA,f8,rfl,eu,ff⟩:=Jb hO;have aw:Ext w6 w6.drew:=(Ext.refl w6).drew;have C:=an.trans aw;have az:=Z.trans C;have a3:=a4.ext C;refine drR (Go.Wk.sc 43 [21,28,40]) ?_;refine Jz (a3.at (i:=0) rfl) ?_;refine ρd ?_;rw[show(((Qg f Ms).N:Int) != (jN f 0 Ms:Int))=false from bne_self_eq_false _];refine Jz (a3.at (i:=1) rfl) ?_;refine ρd ?_;rw[bne_self_eq_false];refine Jz (a3.at (i:=2) rfl) ?_;refine Zr 5 0 (bd.ext az) g1 ?_;refine Jz (ec _ az) ?_;refine ρd ?_;obtain⟨_,_,ed,_,ea,eb⟩:=id e9;injection ed with ed1 _ ed3
 subst ed1;subst ed3;refine dcl (Jff (Rd.ext a5.d C) (Rd.ext eb az) ea) ?_;rintro _ w7 ⟨rfl,ai⟩;rw[decide_eq_true rfl];refine⟨ai,?_⟩;refine Jz ((a3.ext ai).at (i:=3) rfl) ?_;refine Jm (Xzv (us:=jPm f 0 Ms) ((a5.p.ext C).ext ai) (((Rd.own hO).ext aw).ext ai) (by have:=cx ps.length;rw[List.take_of_length_le om]at this;omega)) ?_;rintro _ w8 ⟨rfl,ba⟩;refine⟨ba,?_⟩;have a6:=(C.trans ai).trans ba;refine Jz ((a4.ext a6).at (i:=4) rfl) ?_;refine ρd ?_;rw[show(((jAs f 0 Ms).length:Int) != ((Qg f Ms).ats.length:Int))=false from bne_self_eq_false _];refine Qq (λj u hu=>(a4.ext a6).at hu) ?_;refine ρd ?_;have bo:InC w5 (Yk f ds (Qg f Ms)) _:=bp;refine dcl (Jdw (inp:=Yk f ds (Qg f Ms)) ⟨_,rfl,bo.ext a6⟩ (by show _<=((Qg f Ms).N:Int)/\((Qg f Ms).N:Int)<=_;omega) (by show _<=(f:Int)/\(f:Int)<=_;have:=cz 0;have:=c5 0;omega)) ?_;rintro u w9 ⟨cg,e,rfl,he⟩
 have e0:e=0:=he.2 bg.2;subst e0;refine⟨cg,?_⟩;have O:=a6.trans cg;refine ρd ?_;refine Jo (a4.ext O) ?_;refine ρ ?_;have cp:ps≠[]:=λe=>by rw[e]at g1;exact absurd g1 (by decide)
 refine cl (Qbt (v:=.agg #[.int .i64 ((Qg f Ms).N:Int),.int .i64 (f:Int),.slice D ds.length dc,.slice Q (Qg f Ms).perm.length pc,.slice T (Qg f Ms).ats.length tc]) (ms:=ps) (hTB.ext (bc.trans (Z.trans O))) hps bf cp om (by rw[<-b5];exact⟨_,rfl,bo.ext O⟩)) ?_;rintro u bs ⟨a2,x,f6,kf,pf,BB,tot,rfl,hX,_⟩;obtain⟨_,_,_,_,_,_,_,_,tv,_,_,rfl,_,_,_,_,_,_,dv,_⟩:=id hX.ix.ex;obtain⟨_,_,rfl,_⟩:=id dv;refine Jw Iu ?_;intro cd et b2 d3 de;refine Qo de ?_;intro b9 ar f0 cj;have ap:Ext bs b9:=cj bs b2 d3;have aq:=hX.ext ap;have J:=(O.trans a2).trans ap;refine ldR ((a4.ext J).at (i:=2) rfl) ?_;refine ρ ?_;have aj:=Z.trans J;refine cl (Xwg (ds:=ds) (GV.ext hrv aj λ_ _ h=>h.ext aj) hps ⟨D,dc,rfl,a5.dl.1,a5.dl.2,Rd.ext a5.d J⟩ g1 g3) ?_;rintro av dk ⟨bh,ag⟩;have d1:=Xwf (Jfh g1 g3 hps);rw[Jqn,Qjl]at d1;rw[d1]at bh;have ek:(Xb ps).length<=5000:=Jpc hps
 have ej:∀ y∈Xb ps,y.length=f:=λy hy=>Qbb hps hy;have ck:tot=(Xb ps).length:=hX.ip.len;obtain⟨L,em⟩:∃ L,L=Xb ps:=⟨_,rfl⟩;rw[<-em]at bh ek ej ck aq;obtain⟨LA,lc,rfl,fi,fh,_⟩:=bh.parts;refine Jo (ar.ext ag) ?_;refine clR (Jvw (aq.ix.ext ag) aq.ip.nbT) ?_;rintro n1 au ⟨cr,_,aa⟩;rw[ck]at cr;refine clR (Jpt (k:=L.length) cr om) ?_;rintro _ br ⟨rfl,a9⟩;rw[decide_eq_true rfl];refine ρ ?_;have bb:=(ag.trans aa).trans a9;refine Qm (fun (i:Nat)=>[(2,.bool false),(21,.pointer (some ⟨et,0,none⟩)),(211,.slice LA L.length lc),(212,.int .i64 (L.length:Int)),(213,.int .i64 (i:Int))])
  (λi w'=>i<=L.length/\Ext br w') (λi=>L.length-i) 0 sB ⟨Nat.zero_le _,Ext.refl _⟩ ?_
 rintro i ay ⟨hi,a8⟩;have ad:=bb.trans a8;refine ciR (λh=>?_) (λh=>?_)
 .have li:i<L.length:=by have:=oT h;omega
  clear h;obtain⟨v1,f7,co,_,dz,cn⟩:=(bh.ext ((aa.trans a9).trans a8)).one li;obtain⟨RA,rc,rfl,cm,fb,fc⟩:=id cn;refine ixR i co li ?_;refine ldR (co.cell dz) ?_;have bz:Ext ay ay.drew:=(Ext.refl ay).drew;refine drR (Go.Wk.sc 12 [3,4]) ?_;refine Qq (λj u hu=>((ar.ext ad).ext bz).at hu) ?_;refine Jm (Qtp (i:=i) om _) ?_;rintro o cc ⟨ho,af⟩;refine⟨af,?_⟩;refine Jm (Xbv (((aq.ext ad).ext bz).ext af) ho) ?_;rintro u f5 ⟨bm,c7⟩;unfold AtR at c7;rw[getD_some li]at c7;obtain⟨GA,gc,st,rfl,hG,fu,_⟩:=c7;refine⟨bm,?_⟩;have b1:=(bz.trans af).trans bm;refine ρd ?_;refine clR (Jcj (a:=L.getD i []) ⟨GA,gc,rfl,om,om,hG⟩ (cn.ext b1)) ?_;rintro _ f4 ⟨rfl,ch⟩;rw[decide_eq_true rfl];refine ρ ?_;exact Qy (i+1) sO ⟨li,(a8.trans b1).trans ch⟩ om
 refine ρ ?_;have ce:=((bc.trans aj).trans ad);refine cl (Qcz (hTB.ext ce)) ?_;rintro _ cc ⟨rfl,af⟩;refine ρ ?_;exact Jj ⟨rfl,ce.trans af⟩
end Go.Proofs.YtbcdghbonlifdaaGreatDoor
namespace Go.Proofs.YtbcdghbonlifdaaGreatDoor
open Go.RowKit Pl Go.Wk Go.ChangeShapes Go.WideShapes
theorem Qgz{B0:Nat}{w:World}{v:Value}(hTB:TB B0 w)(h:Qfd w v): Ret Tryz.prog 8 [v] w λu w'=>u=.bool true/\Ext w w':=by
 obtain⟨A,c,l,o,rfl,j,i⟩:=h;exact Qhb hTB j i
end Go.Proofs.YtbcdghbonlifdaaGreatDoor
