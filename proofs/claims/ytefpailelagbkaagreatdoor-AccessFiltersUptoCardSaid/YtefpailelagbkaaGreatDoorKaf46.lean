/- Part 1 of the proof: Lw5, LwA, Open, OpE, LwB, LwD. -/
import Derived.Test.YtefpailelagbkaaGreatDoorKaf45
import Derived.ProofKit
import Derived.OpenShut
import Derived.ShutString
import Derived.ChangeOld
import Derived.Deep.Slices
import Derived.Deep.Fields
import Derived.Test.YtefpailelagbkaaGreatDoorRows
import Derived.LaidSub
import Derived.Lib.LaidTab
set_option linter.unusedVariables false
set_option maxRecDepth 100000
set_option maxHeartbeats 40000000
namespace Go.Proofs.YtefpailelagbkaaGreatDoor
open Go.RowKit Pl Go.Wk
attribute [local irreducible] WC WL QX WD WDB WP WN WG WH WM
theorem bldNum(n:Int)(w:World): (Instr.build 71 #[(0,.int .i64 1),(1,.int .i64 n)]).run Tryz.prog w=.ok (nV n).val w:=by kernel_rfl
theorem num41_any(n:Int)(w:World): Ret Tryz.prog 31 [.int .i64 n] w λx w'=>x=(nV n).val/\Ext w w':=by
 refine Jjc Tryz.func31 Tryz.ntmps31 rfl (by kernel_rfl) rfl ?_;refine ρ ?_;refine alc Qns ?_;intro O b j C u;refine ρ ?_;refine bld (bldNum n _) ?_;refine ρ ?_;refine stb u (cs':=(nV n).cells) ?_ (V.one _);intro J o G i;refine ρ ?_;exact Qdc o ⟨rfl,i w j C⟩
theorem bs2V(a b:V)(w:World): (Instr.buildSlice 40 2 #[(0,a.val),(1,b.val)]).run Tryz.prog w=.ok (.slice (some ⟨w.heap.size,0,none⟩) 2 2) (w.alloc (.cells (Jzf [a,b]).toArray 71)):=by kernel_rfl
theorem bs1V(a:V)(w:World): (Instr.buildSlice 40 1 #[(0,a.val)]).run Tryz.prog w=.ok (.slice (some ⟨w.heap.size,0,none⟩) 1 1) (w.alloc (.cells (Jzf [a]).toArray 71)):=by kernel_rfl
theorem bs3R(A1 A2 A3:Option Addr)(n1 n2 n3 c1 c2 c3:Nat)(w:World): (Instr.buildSlice 35 3 #[(0,.slice A1 n1 c1),(1,.slice A2 n2 c2),(2,.slice A3 n3 c3)]).run Tryz.prog w=.ok (.slice (some ⟨w.heap.size,0,none⟩) 3 3) (w.alloc (.cells [.slice A1 n1 c1,.slice A2 n2 c2,.slice A3 n3 c3].toArray 40)):=by kernel_rfl
theorem bs1RR(A1:Option Addr)(n1 c1:Nat)(w:World): (Instr.buildSlice 25 1 #[(0,.slice A1 n1 c1)]).run Tryz.prog w=.ok (.slice (some ⟨w.heap.size,0,none⟩) 1 1) (w.alloc (.cells [.slice A1 n1 c1].toArray 35)):=by kernel_rfl
theorem bs1II(A1:Option Addr)(n1 c1:Nat)(w:World): (Instr.buildSlice 24 1 #[(0,.slice A1 n1 c1)]).run Tryz.prog w=.ok (.slice (some ⟨w.heap.size,0,none⟩) 1 1) (w.alloc (.cells [.slice A1 n1 c1].toArray 23)):=by kernel_rfl
theorem bs2I(a b:Int)(w:World): (Instr.buildSlice 23 2 #[(0,.int .i64 a),(1,.int .i64 b)]).run Tryz.prog w=.ok (.slice (some ⟨w.heap.size,0,none⟩) 2 2) (w.alloc (.cells [Value.int .i64 a,.int .i64 b].toArray 3)):=by kernel_rfl
theorem bs2B(a b:Bool)(w:World): (Instr.buildSlice 22 2 #[(0,.bool a),(1,.bool b)]).run Tryz.prog w=.ok (.slice (some ⟨w.heap.size,0,none⟩) 2 2) (w.alloc (.cells [Value.bool a,.bool b].toArray 4)):=by kernel_rfl
theorem bldCase(A B C:Option Addr)(a b c a' b' c':Nat)(w:World): (Instr.build 27 #[(0,.int .i64 2),(1,.int .i64 2),(2,.slice A a a'),(4,.slice B b b'),(5,.slice C c c')]).run Tryz.prog w=.ok (.agg #[.int .i64 2,.int .i64 2,.slice A a a',.slice none 0 0,.slice B b b',.slice C c c']) w:=by kernel_rfl
theorem litRow{w:World}{b:Nat}{r:Row}(h:Blk w b 71 (Jzf r))(hl:r.length<=1100000): RowV w (.slice (some ⟨b,0,none⟩) r.length r.length) r:=⟨some ⟨b,0,none⟩,r.length,rfl,Nat.le_refl _,hl,h.rd (Qwv r)⟩
theorem litRows{w:World}{b:Nat}(ps:List Pr)(h:Blk w b 40 (ps.map (·.1)))(hr:∀ p∈ps,RowV w p.1 p.2)(hl:ps.length<=1100000): RowsV w (.slice (some ⟨b,0,none⟩) ps.length ps.length) (ps.map (·.2)):=⟨ps,some ⟨b,0,none⟩,ps.length,rfl,rfl,Nat.le_refl _,hl,h.rd (by simp),hr⟩
theorem litCase{w:World}{b1 b2 b3 b4 b5 b6 b7 b8:Nat}{d1 d2:Bool}{r1 r2 r3:Row}(h1:Blk w b1 4 [.bool d1,.bool d2])(h2:Blk w b2 3 [.int .i64 0,.int .i64 1])(h3:Blk w b3 23 [.slice (some ⟨b2,0,none⟩) 2 2])(h4:Blk w b4 71 (Jzf r1))(h5:Blk w b5 71 (Jzf r2))(h6:Blk w b6 71 (Jzf r3))(h7:Blk w b7 40 [.slice (some ⟨b4,0,none⟩) 2 2,.slice (some ⟨b5,0,none⟩) 2 2,.slice (some ⟨b6,0,none⟩) 2 2])(h8:Blk w b8 35 [.slice (some ⟨b7,0,none⟩) 3 3])(l1:r1.length=2)(l2:r2.length=2)(l3:r3.length=2):
  CseV w [.int .i64 2,.int .i64 2,.slice (some ⟨b1,0,none⟩) 2 2,.slice none 0 0,.slice (some ⟨b3,0,none⟩) 1 1,.slice (some ⟨b8,0,none⟩) 1 1] (Jzw [d1,d2] r1 r2 r3):=by
 have u:IntsV w (.slice (some ⟨b2,0,none⟩) 2 2) [0,1]:=⟨some ⟨b2,0,none⟩,2,rfl,by decide,by decide,h2.rd rfl⟩;have o:RowsV w (.slice (some ⟨b7,0,none⟩) 3 3) [r1,r2,r3]:=by
  refine litRows [(.slice (some ⟨b4,0,none⟩) 2 2,r1),(.slice (some ⟨b5,0,none⟩) 2 2,r2),(.slice (some ⟨b6,0,none⟩) 2 2,r3)] h7 (λp j=>?_) (by simp);simp only [List.mem_cons,List.not_mem_nil,or_false]at j;rcases j with rfl|rfl|rfl
  ·have:=litRow h4 (by omega);rw [l1]at this;exact this
  ·have:=litRow h5 (by omega);rw [l2]at this;exact this
  ·have:=litRow h6 (by omega);rw [l3]at this;exact this
 refine ⟨some ⟨b1,0,none⟩,2,none,0,some ⟨b3,0,none⟩,1,some ⟨b8,0,none⟩,1,rfl,⟨some ⟨b1,0,none⟩,2,rfl,by simp [Jzw],by simp [Jzw],h1.rd rfl⟩,⟨none,0,rfl,Nat.le_refl _,Nat.zero_le _,Rd.nil⟩,
  ⟨some ⟨b3,0,none⟩,1,_,rfl,by simp [Jzw],by simp [Jzw],h3.rd rfl,λi hi=>?_⟩,⟨some ⟨b8,0,none⟩,1,_,rfl,by simp [Jzw],by simp [Jzw],h8.rd rfl,λi hi=>?_⟩,by simp [Jzw],by simp [Jzw]⟩
 ·have:i=0:=by simp [Jzw]at hi;exact hi
  subst this;exact ⟨_,rfl,u⟩
 ·have:i=0:=by simp [Jzw]at hi;exact hi
  subst this;exact ⟨_,rfl,o⟩
theorem exA_F(d:Bool): (exA d).F=2:=rfl
set_option linter.constructorNameAsVariable false in
theorem awake41_any{B0:Nat}{w:World}(hTB:TB B0 w): Ret Tryz.prog 16 [] w λu w'=>u=.bool true/\Ext w w':=by
 refine Jjc Tryz.func16 Tryz.ntmps16 rfl (by kernel_rfl) rfl ?_;refine ρ ?_;refine bsl (bs2B _ _) ?_;intro w1 b1 d4 f2 df;refine ρ ?_;refine Jqq (fun (i:Nat)=>[(0,.bool false),(17,.slice (some ⟨b1,0,none⟩) 2 2),(18,.int .i64 2),(19,.int .i64 (i:Int))])
  (λi w'=>i<=2/\Ext w1 w') (λi=>2-i) 0 sB ⟨by omega,Ext.refl _⟩ ?_
 rintro i w2 ⟨hi,b6⟩;have aj:=d4.trans b6;refine ρ ?_;refine ci (λh=>?_) (λh=>?_)
 ·have li:i<2:=by have:=oT h;omega
  clear h;have cp:Rd w2 1 (some ⟨b1,0,none⟩) 2 [Value.bool false,.bool true]:=(df.rd rfl).ext b6;obtain ⟨d,hd⟩:∃ d:Bool,[Value.bool false,.bool true][i]?=some (.bool d):=by
   rcases (show i=0∨i=1 by omega) with rfl|rfl
   ·exact ⟨false,rfl⟩
   ·exact ⟨true,rfl⟩
  refine ρ ?_;refine ix i cp li ?_;refine ρ ?_;refine ld (cp.cell hd) ?_;refine ρ ?_;refine bsl (bs2B _ _) ?_;intro w3 b3 bv f0 de;refine ρ ?_;refine bsl (bs2I _ _) ?_;intro w4 b4 d3 ez dd;refine ρ ?_;refine bsl (bs1II _ _ _) ?_;intro w5 b5 d2 ey dc;refine ρ ?_;refine cl (num41_any 1 _) ?_;rintro _ w6 ⟨rfl,d1⟩;refine ρ ?_;refine cl (num41_any 2 _) ?_;rintro _ w7 ⟨rfl,d0⟩;refine ρ ?_;refine bsl (bs2V _ _) ?_;intro w8 b8 cz ew db;refine ρ ?_;refine cl (num41_any 1 _) ?_;rintro _ w9 ⟨rfl,cy⟩;refine ρ ?_;refine cl (num41_any 3 _) ?_;rintro _ en ⟨rfl,c7⟩;refine ρ ?_;refine bsl (bs2V _ _) ?_;intro em f9 c6 dz ck;refine ρ ?_;refine cl (num41_any 2 _) ?_;rintro _ el ⟨rfl,c5⟩;refine ρ ?_;refine cl (num41_any 3 _) ?_;rintro _ ek ⟨rfl,c4⟩;refine ρ ?_;refine bsl (bs2V _ _) ?_;intro ej f8 c3 dx cj;refine ρ ?_;refine bsl (bs3R _ _ _ _ _ _ _ _ _) ?_;intro ei f7 c0 dw ch;refine ρ ?_;refine bsl (bs1RR _ _ _) ?_
  intro cw f6 ao dv cg;refine ρ ?_;refine bld (bldCase _ _ _ _ _ _ _ _ _ _) ?_;have bg:=c0.trans ao;have cv:=c3.trans bg;have bh:=(c5.trans c4).trans cv;have y8:=((cy.trans c7).trans c6).trans bh;have y5:=((d1.trans d0).trans cz).trans y8;have y4:=d2.trans y5;have y3:=d3.trans y4;have ay:=(aj.trans bv).trans y3;have hC:CseV cw _ (exA d):=litCase (de.ext y3) (dd.ext y4) (dc.ext y5) (r1:=nR 1 2) (r2:=nR 1 3) (r3:=nR 2 3) (db.ext y8) (ck.ext bh) (cj.ext bg) (ch.ext ao) cg rfl rfl rfl;refine ρ ?_;refine cl (built_any (hTB.ext ay) hC (exA_fit d)) ?_;rintro u bj ⟨bz,dg⟩;rcases dg with ⟨_,d9⟩|⟨ats,x,av,kf,pf,BB,tot,hOk,rfl,hIx,hav⟩
  ·exact absurd (exA_good d) d9
  obtain ⟨cn,d8,d7,d6⟩:=exA_ans' d;obtain ⟨XA,xd,YA,yd,ZA,zd,UA,ud,tv,ep,eo,rfl,_,_,_,_,_,_,d5,_⟩:=id hIx.ix.ex;obtain ⟨TA,tc,rfl,_⟩:=id d5;obtain ⟨LA,lc,c9,eu,et,_⟩:=hav.parts;rw [cn]at c9;subst c9;refine ρ ?_;refine alc Qfg ?_;intro eh cq bw cm ce;refine ρ ?_;refine stW ce ?_;intro ag ap dn b7;have ad:Ext bj ag:=b7 bj bw cm;refine ρ ?_;have b2:Ext ag ag.drew:=(Ext.refl ag).drew;refine drN (λ_=>False) 13 [(0,0),(1,1),(1,2),(0,3),(0,4),(0,5),(0,6),(0,7),(0,8),(0,9)] (by kernel_rfl) ?_;refine ρn ?_;refine Jgr (cs:=[.slice XA (exA d).F xd,.slice YA (exA d).F yd,.slice ZA (exA d).F zd,.slice UA (exA d).F ud,.slice TA (Jjf tot).length tc]) (λw' hg j u hu=>((ap.ext b2).ext hg.toExt).at hu) ?_;refine ρn ?_;refine nop ?_;refine cl (Jfl 1 (by decide) _) ?_;rintro o eg ⟨ho,_,ac⟩;refine ρ ?_;refine Jqv (GrN.ext ac) ?_;refine ρn ?_;refine nop ?_;have Z:=b2.trans ac;refine cl (at_any (hIx.ext (ad.trans Z)) ho) ?_
  rintro u a9 ⟨a6,bf⟩;unfold AtR at bf;rw [d8]at bf;obtain ⟨A1,c1,bl,rfl,h5,h6,h7,h8⟩:=bf;refine ρ ?_;refine Jqv (GrN.ext a6) ?_;refine ρn ?_;refine ρ ?_;have af:=((ap.ext b2).ext ac).ext a6;have ai:=hIx.ext ((ad.trans Z).trans a6);have U:Ext a9 a9.drew:=(Ext.refl a9).drew;refine drG (by kernel_rfl) ?_;refine Qtx (fuel':=11) [(0,0)] (lst 12 1) (by kernel_rfl) (by kernel_rfl) rfl ?_;refine ρd ?_;refine Jvb (cs:=[.slice XA (exA d).F xd,.slice YA (exA d).F yd,.slice ZA (exA d).F zd,.slice UA (exA d).F ud,.slice TA (Jjf tot).length tc]) (λj u hu=>(af.ext U).at hu) ?_;refine ρd ?_;refine Qqs ?_;refine gcut 8 (lst 12 4) (fun (q:Nat×Value)=>[(53,.agg #[.slice XA (exA d).F xd,.slice YA (exA d).F yd,.slice ZA (exA d).F zd,.slice UA (exA d).F ud,.slice TA (Jjf tot).length tc]),(55,.slice (some ⟨q.1,0,none⟩) 1 1),(56,q.2),(0,.bool false),(2,.bool d),(3,.pointer (some ⟨cq,0,none⟩)),(4,.slice LA 3 lc),(5,.bool false),(6,.bool true),(7,.slice A1 (List.length (if d=true then nR 1 2 else nR 1 3)) c1),(8,.int .i64 (bl:Int)),(9,.int .i64 0),(17,.slice (some ⟨b1,0,none⟩) 2 2),(18,.int .i64 2),(19,.int .i64 (i:Int))])
   (λq W=>Ext a9 W/\Blk W q.1 71 (Jzf [nV 1])/\NatV W q.2 1) ?_ ?_
  rotate_left
  ·intro rest;refine Qtx (fuel':=10) [(1,1)] (lst 12 2) (by kernel_rfl) (by kernel_rfl) rfl ?_;refine dcl (num41_any 1 _) ?_;rintro _ v1 ⟨rfl,a2⟩;refine ⟨a2,?_⟩;refine Qmd (Qqs ?_);refine gtwo 2 3 (by kernel_rfl) rfl rfl rfl ?_ ?_
   ·refine ρ ?_;refine bsl (bs1V _) ?_;intro v2 bp G be a3;refine Jzd (Qrh G ?_);refine Qtx (fuel':=8) [(1,3)] (lst 12 4) (by kernel_rfl) (by kernel_rfl) rfl ?_;refine dcl (Jfl 1 (by decide) _) ?_;rintro o2 v3 ⟨J,_,C⟩;refine ⟨C,?_⟩;refine Qmd (Qqs ?_);exact rest (bp,o2) _ _ ⟨((U.trans a2).trans G).trans C,a3.ext C,J⟩ sB
   ·refine ρ ?_;refine cl (Jfl 1 (by decide) _) ?_;rintro o2 v2 ⟨J,_,G⟩;refine Jzd (Qrh G ?_);refine Qtx (fuel':=8) [(1,2)] (lst 12 4) (by kernel_rfl) (by kernel_rfl) rfl ?_;refine dbsl (bs1V _) ?_;intro v3 bp C be a3;refine Qmd (Qqs ?_);exact rest (bp,o2) _ _ ⟨((U.trans a2).trans G).trans C,a3,J.ext C⟩ sB
  rintro ⟨f4,o1⟩ e2 ⟨aa,ar,c8⟩;simp only at ar c8;have aw:=ai.ext aa;refine Qtx (fuel':=0) [(1,4),(0,5),(0,6),(0,7),(0,8),(0,9),(0,10),(0,11)] (lst 12 12) (by kernel_rfl) (by kernel_rfl) rfl ?_;refine dcl (within_any (y:=[nV 1]) aw (ar.rd rfl) c8) ?_;rintro u a7 ⟨a4,_,bb⟩;refine ⟨a4,?_⟩;have bd:=bb (by rw [exA_F];decide);unfold AcR at bd;rw [d7]at bd;obtain ⟨A2,c2,cx,rfl,e5,e6,e7,e8⟩:=bd;refine ρd ?_;refine Qqs ?_;refine gend (by kernel_rfl) ?_;have ae:=(af.ext aa).ext a4;have ah:=aw.ext a4;refine ρ ?_;have O:Ext a7 a7.drew:=(Ext.refl a7).drew;refine drG (by kernel_rfl) ?_;refine Qtx (fuel':=11) [(0,0)] (lst 12 1) (by kernel_rfl) (by kernel_rfl) rfl ?_;refine ρd ?_;refine Jvb (cs:=[.slice XA (exA d).F xd,.slice YA (exA d).F yd,.slice ZA (exA d).F zd,.slice UA (exA d).F ud,.slice TA (Jjf tot).length tc]) (λj u hu=>(ae.ext O).at hu) ?_;refine ρd ?_;refine Qqs ?_;refine gcut 8 (lst 12 4) (fun (q:Nat×Value)=>[(62,.agg #[.slice XA (exA d).F xd,.slice YA (exA d).F yd,.slice ZA (exA d).F zd,.slice UA (exA d).F ud,.slice TA (Jjf tot).length tc]),(64,.slice (some ⟨q.1,0,none⟩) 1 1),(65,q.2),(0,.bool false),(2,.bool d),(3,.pointer (some ⟨cq,0,none⟩)),(4,.slice LA 3 lc),(5,.bool false),(6,.bool true),(7,.slice A1 (List.length (if d=true then nR 1 2 else nR 1 3)) c1),(8,.int .i64 (bl:Int)),(9,.int .i64 0),(10,.slice A2 (nR 1 3).length c2),(11,.int .i64 (cx:Int)),(12,.int .i64 0),(17,.slice (some ⟨b1,0,none⟩) 2 2),(18,.int .i64 2),(19,.int .i64 (i:Int))])
   (λq W=>Ext a7 W/\Blk W q.1 71 (Jzf [nV 2])/\NatV W q.2 1) ?_ ?_
  rotate_left
  ·intro rest;refine Qtx (fuel':=10) [(1,1)] (lst 12 2) (by kernel_rfl) (by kernel_rfl) rfl ?_;refine dcl (num41_any 2 _) ?_;rintro _ v1 ⟨rfl,a2⟩;refine ⟨a2,?_⟩;refine Qmd (Qqs ?_);refine gtwo 2 3 (by kernel_rfl) rfl rfl rfl ?_ ?_
   ·refine ρ ?_;refine bsl (bs1V _) ?_;intro v2 bp G be a3;refine Jzd (Qrh G ?_);refine Qtx (fuel':=8) [(1,3)] (lst 12 4) (by kernel_rfl) (by kernel_rfl) rfl ?_;refine dcl (Jfl 1 (by decide) _) ?_;rintro o2 v3 ⟨J,_,C⟩;refine ⟨C,?_⟩;refine Qmd (Qqs ?_);exact rest (bp,o2) _ _ ⟨((O.trans a2).trans G).trans C,a3.ext C,J⟩ sB
   ·refine ρ ?_;refine cl (Jfl 1 (by decide) _) ?_;rintro o2 v2 ⟨J,_,G⟩;refine Jzd (Qrh G ?_);refine Qtx (fuel':=8) [(1,2)] (lst 12 4) (by kernel_rfl) (by kernel_rfl) rfl ?_;refine dbsl (bs1V _) ?_;intro v3 bp C be a3;refine Qmd (Qqs ?_);exact rest (bp,o2) _ _ ⟨((O.trans a2).trans G).trans C,a3,J.ext C⟩ sB
  rintro ⟨f3,o2⟩ e1 ⟨a5,aq,J⟩;simp only at aq J;have au:=ah.ext a5;refine Qtx (fuel':=0) [(1,4),(0,5),(0,6),(0,7),(0,8),(0,9),(0,10),(0,11)] (lst 12 12) (by kernel_rfl) (by kernel_rfl) rfl ?_;refine dcl (within_any (y:=[nV 2]) au (aq.rd rfl) J) ?_;rintro u e0 ⟨a1,_,ba⟩;refine ⟨a1,?_⟩;have bc:=ba (by rw [exA_F];decide);unfold AcR at bc;rw [d6]at bc;subst bc;refine ρd ?_;refine Qqs ?_;refine gend (by kernel_rfl) ?_;have da:=(ae.ext a5).ext a1;have cr:=au.ext a1;refine ρ ?_;refine cl (num41_any 1 _) ?_;rintro _ ef ⟨rfl,an⟩;refine ρ ?_;refine cl (num41_any 3 _) ?_;rintro _ ee ⟨rfl,am⟩;refine ρ ?_;refine bsl (bs2V _ _) ?_;intro bi dm ak du cd;refine ρ ?_;refine Jzg (fun (b:Nat)=>[(16,.slice (some ⟨b,0,none⟩) 2 2),(15,.int .i64 3),(10,.slice A2 (nR 1 3).length c2),(12,.int .i64 0),(4,.slice LA 3 lc),(5,.bool false),(6,.bool true),(7,.slice A1 (if d=true then nR 1 2 else nR 1 3).length c1),(9,.int .i64 0),(17,.slice (some ⟨b1,0,none⟩) 2 2),(18,.int .i64 2),(19,.int .i64 (i:Int)),(0,.bool false)])
   (λb w'=>Ext bi w'/\Blk w' b 71 (Jzf (if d=true then nR 1 2 else nR 1 3))) ?_ ?_
  ·refine ci (λh=>?_) (λh=>?_)
   ·refine ρ ?_;refine cl (num41_any 1 _) ?_;rintro _ ed ⟨rfl,bu⟩;refine ρ ?_;refine cl (num41_any 2 _) ?_;rintro _ ec ⟨rfl,bt⟩;refine ρ ?_;refine bsl (bs2V _ _) ?_;intro eb dl bs dt cc;refine ρ ?_;exact Jjn dl sB ⟨(bu.trans bt).trans bs,by rw [h,if_pos rfl];exact cc⟩
   ·refine ρ ?_;exact Jjn dm sB ⟨Ext.refl _,by rw [h,if_neg (by decide)];exact cd⟩
  rintro f5 a8 ⟨ab,cb⟩;have er:Ext bi a8:=ab;have z1:Ext a9 a8:=((((((aa.trans a4).trans a5).trans a1).trans an).trans am).trans ak).trans ab;have z2:Ext a7 a8:=(((((a5.trans a1).trans an).trans am).trans ak)).trans ab;have b9:(if d=true then nR 1 2 else nR 1 3).length=2:=by split<;>rfl
  have dj:RowV a8 (.slice A1 (if d=true then nR 1 2 else nR 1 3).length c1) (if d=true then nR 1 2 else nR 1 3):=⟨A1,c1,rfl,h6,by rw [b9];decide,Rd.ext h5 z1⟩;have co:=litRow cb (by rw [b9];decide);rw [b9]at co;refine ρ ?_;refine cl (Jpf dj co) ?_;rintro _ ea ⟨rfl,br⟩;rw [decide_eq_true rfl];refine ρ ?_;refine cl (num41_any 1 _) ?_;rintro _ e9 ⟨rfl,bq⟩;refine ρ ?_;refine cl (num41_any 3 _) ?_;rintro _ e4 ⟨rfl,bo⟩;refine ρ ?_;refine bsl (bs2V _ _) ?_;intro ax dk bn dq ca;have z3:Ext a8 ax:=((br.trans bq).trans bo).trans bn;have di:RowV ax (.slice A2 (nR 1 3).length c2) (nR 1 3):=⟨A2,c2,rfl,e6,by decide,Rd.ext e5 (z2.trans z3)⟩;have dh:RowV ax (.slice (some ⟨dk,0,none⟩) 2 2) (nR 1 3):=litRow (r:=nR 1 3) ca (by decide);refine ρ ?_;refine cl (Jpf di dh) ?_;rintro _ e3 ⟨rfl,bm⟩;rw [decide_eq_true rfl];refine ρ ?_;refine Jjv (i+1) sO ⟨by omega,?_⟩ (by omega);exact ((((((b6.trans bv).trans y3).trans bz).trans (ad.trans Z)).trans a6).trans z1).trans (z3.trans bm)
 ·refine ρ ?_;exact Jjq ⟨rfl,aj⟩
open Go.RowKit Pl Go.Wk
theorem getD_some{L:List Row}{i:Nat}(h:i<L.length): L[i]?=some (L.getD i []):=by simp [List.getD,List.getElem?_eq_getElem h]
end Go.Proofs.YtefpailelagbkaaGreatDoor
namespace Go.Wk
open Go.RowKit Go.ChangeShapes Go.WideShapes
section
variable {H:Type} {enc:TypeId×Value->H} {P:Program} {w:World} {base:Nat} {spare:Nat->Bool} {held:Bool}
theorem rd_of{A:Option Addr}{sz len:Nat}{cs:List Value}{ad:Addr}(hA:A=some ad)(hl:cs.length=len*sz)(hc:∀ j u,cs[j]?=some u->w.cell? (ad.add j)=some u): Rd w sz A len cs :=
 ⟨hl,λh0=>⟨ad,hA,by
  have i:=hc 0 cs[0] (List.getElem?_eq_getElem h0);rw [add_zero]at i;exact World.block_lt_of_cell? w ad i,hc⟩⟩
theorem flatMap_one{α:Type}(f:α->Value)(l:List α): l.flatMap (λz=>[f z])=l.map f:=by induction l<;>simp_all
end
end Go.Wk
namespace Go.Proofs.YtefpailelagbkaaGreatDoor
open Go.RowKit Pl Go.Wk Go.ChangeShapes Go.WideShapes
theorem bulk_one{H:Type}(d:DataW H): 1<=Rows.uptoBulk d:=by
 cases d with
 | lit l=>cases l<;>simp [Rows.uptoBulk]
 | nil=>simp [Rows.uptoBulk]
 | ptr d=>simp [Rows.uptoBulk]
 | slice elems spare=>simp [Rows.uptoBulk]
 | agg parts=>simp [Rows.uptoBulk]
 | iface t d=>simp [Rows.uptoBulk]
 | map entries=>simp [Rows.uptoBulk]
 | held h=>simp [Rows.uptoBulk]
theorem bulk_part{H:Type}{d:DataW H}{l:List (DataW H)}(h:d∈l): Rows.uptoBulk d<=Rows.uptoBulkAll l:=by
 induction l with
 | nil=>cases h
 | cons x r ih=>
  simp only [Rows.uptoBulkAll];cases List.mem_cons.1 h with
  | inl e=>subst e;omega
  | inr e=>have:=ih e;omega
theorem bulk_len{H:Type}(l:List (DataW H)): l.length<=Rows.uptoBulkAll l:=by
 induction l with
 | nil=>simp [Rows.uptoBulkAll]
 | cons x r ih=>have:=bulk_one x;simp only [Rows.uptoBulkAll,List.length_cons];omega
section
variable {H:Type} {enc:TypeId×Value->H} {P:Program} {w:World} {base:Nat} {spare:Nat->Bool} {held:Bool} {B:Nat}
theorem open_elemsB{α:Type}{t e sz:Nat}{fuel:Nat}{cs:List Value}{x:DataW H×List MemPlace}(X:α->List Value)(R:α->Prop)(ht:P.underlying t=some (.slice e))(hc:P.cellsOf e=sz)(hb:Rows.uptoBulk x.1<=B)(hX:∀ (n:Nat) (cs':List Value) (y:DataW H×List MemPlace),DataW.trod enc P w base spare held n e cs'=some y->Rows.uptoBulk y.1<=B->∃ z:α,cs'=X z/\R z)(h:DataW.trod enc P w base spare held fuel t cs=some x): ∃ (l:List α) (A:Option Addr) (cap:Nat),cs=[.slice A l.length cap]/\Rd w sz A l.length (l.flatMap X)/\(∀ z∈l,R z)/\l.length<=cap/\l.length<=B:=by
 rcases Go.Deep.open_slice ht h with ⟨C,_⟩|⟨a,len,cap,m,n,D,Pl,C,_,hl,hm,hmm,hx,hel⟩
 ·exact ⟨[],none,0,C,Rd.nil,(λz G=>by cases G),Nat.le_refl _,Nat.zero_le _⟩
 ·subst C;subst hx;have a5:len<=m:=by rw [hmm];split<;>omega
  have a2:Rows.uptoBulkAll ((List.range len).map D)<=B:=by
   simp only [Rows.uptoBulk]at hb;omega
  have a1:len<=B:=by
   have:=bulk_len ((List.range len).map D);simp at this;omega
  have key:∀ k,k<=len->∃ l:List α,l.length=k/\(l.flatMap X).length=k*sz/\(∀ j u,(l.flatMap X)[j]?=some u->w.cell? (a.add j)=some u)/\∀ z∈l,R z:=by
   intro k;induction k with
   | zero=>intro _;exact ⟨[],rfl,by simp,(λj u i=>by simp at i),(λz G=>by cases G)⟩
   | succ k ih=>
    intro hk;obtain ⟨l,h1,O,h3,h4⟩:=ih (by omega);obtain ⟨cs',o,Z⟩:=hel k (by omega);have a4:D k∈(List.range len).map D:=List.mem_map.2 ⟨k,List.mem_range.2 (by omega),rfl⟩;obtain ⟨z,rfl,G⟩:=hX n cs' _ Z (nL (bulk_part a4) a2);rw [hc]at o;obtain ⟨_,J,a3⟩:=World.cells?_some o;refine ⟨l++[z],by simp [h1],?_,?_,?_⟩
    ·rw [List.flatMap_append,List.length_append,O];simp only [List.flatMap_cons,List.flatMap_nil,List.append_nil,J,Nat.add_mul,Nat.one_mul]
    ·intro j u i;rw [List.flatMap_append]at i;simp only [List.flatMap_cons,List.flatMap_nil,List.append_nil]at i;rcases Nat.lt_or_ge j (k*sz) with hj|hj
     ·rw [List.getElem?_append_left (by omega)]at i;exact h3 j u i
     ·rw [List.getElem?_append_right (by omega),O]at i;have hb:j-k*sz<sz:=by have:=(List.getElem?_eq_some_iff.1 i).1;omega
      have:=a3 (j-k*sz) hb;rw [add_add]at this;rw [show k*sz+(j-k*sz)=j by omega]at this;rw [this,i]
    ·intro z' U;rcases List.mem_append.1 U with h'|h'
     ·exact h4 z' h'
     ·simp at h';subst h';exact G
  obtain ⟨l,h1,O,h3,h4⟩:=key len (Nat.le_refl _);subst h1;exact ⟨l,some a,cap,rfl,rd_of rfl O h3,h4,hl,a1⟩
end
section
variable {H:Type} {enc:TypeId×Value->H} {w:World} {base b0:Nat} {spare:Nat->Bool} {held:Bool}
theorem open_value{n:Nat}{cs:List Value}{y:DataW H×List MemPlace}(h:DataW.trod enc Tryz.prog w base spare held n 71 cs=some y): ∃ v:V,cs=v.cells/\Qyf v:=by
 obtain ⟨o,m,_,_,j,u,G⟩:=DataW.trod_struct Tryz.underlying71 h;have C:cs.length=3:=by rw [j];kernel_rfl
 have a1:o.length=3:=u;match cs,C with
 | [c0,c1,c2],_=>
  have O:DataW.trod enc Tryz.prog w base spare held m 3 (([c0,c1,c2].drop 0).take (Tryz.prog.cellsOf 3))=o[0]?:=G 0 _ rfl;have f1:DataW.trod enc Tryz.prog w base spare held m 2 (([c0,c1,c2].drop 1).take (Tryz.prog.cellsOf 2))=o[1]?:=G 1 _ rfl;have J:DataW.trod enc Tryz.prog w base spare held m 9 (([c0,c1,c2].drop 2).take (Tryz.prog.cellsOf 9))=o[2]?:=G 2 _ rfl;rw [show Tryz.prog.cellsOf 3=1 by kernel_rfl,List.getElem?_eq_getElem (by omega)]at O;rw [show Tryz.prog.cellsOf 2=1 by kernel_rfl,List.getElem?_eq_getElem (by omega)]at f1;rw [show Tryz.prog.cellsOf 9=1 by kernel_rfl,List.getElem?_eq_getElem (by omega)]at J;obtain ⟨k,e0,_,wk⟩:=DataW.trod_int Tryz.underlying3 O;obtain ⟨i,Z,_,wi⟩:=DataW.trod_int Tryz.underlying2 f1;obtain ⟨s,U,_,_⟩:=DataW.trod_string Tryz.underlying9 J;simp at e0 Z U;subst e0;subst Z;subst U;exact ⟨⟨k,i,s⟩,rfl,bounds_i64 wk,bounds_i64 wi⟩
def RowE(w:World)(v:Value)(r:Row): Prop:=RowV w v r/\∀ u∈r,Qyf u
theorem open_rowE{n:Nat}{cs:List Value}{y:DataW H×List MemPlace}(h:DataW.trod enc Tryz.prog w base spare held n 40 cs=some y)(hb:Rows.uptoBulk y.1<=1048576): ∃ p:Pr,cs=[p.1]/\RowE w p.1 p.2:=by
 obtain ⟨l,A,i,e,G,C,u,O⟩:=open_elemsB (sz:=3) V.cells Qyf Tryz.underlying40 (by kernel_rfl) hb (λn J y j _=>open_value j) h;have o:l.length<=1100000:=by omega
 exact ⟨(.slice A l.length i,l),e,⟨A,i,rfl,u,o,G⟩,C⟩
def RowsE(w:World)(v:Value)(ls:List Row): Prop:=RowsV w v ls/\∀ r∈ls,∀ u∈r,Qyf u
theorem open_rowsE{n:Nat}{cs:List Value}{y:DataW H×List MemPlace}(h:DataW.trod enc Tryz.prog w base spare held n 35 cs=some y)(hb:Rows.uptoBulk y.1<=1048576): ∃ p:Value×List Row,cs=[p.1]/\RowsE w p.1 p.2:=by
 obtain ⟨ps,A,i,e,C,o,U,h4⟩:=open_elemsB (sz:=1) (λp:Pr=>[p.1]) (λp=>RowE w p.1 p.2) Tryz.underlying35 (by kernel_rfl) hb (λn Z y G hb=>open_rowE G hb) h;rw [flatMap_one]at C;exact ⟨(.slice A ps.length i,ps.map (·.2)),e,⟨ps,A,i,rfl,rfl,U,by omega,C,λp j=>(o p j).1⟩,λr O u J=>by
  obtain ⟨p,j,rfl⟩:=List.mem_map.1 O;exact (o p j).2 u J⟩
theorem getD_map{α β:Type}(f:α->β)(l:List α)(a:α)(b:β){i:Nat}(h:i<l.length): (l.map f).getD i b=f (l.getD i a):=by simp [List.getD,List.getElem?_eq_getElem h]
theorem open_rowssE{n:Nat}{cs:List Value}{y:DataW H×List MemPlace}(h:DataW.trod enc Tryz.prog w base spare held n 25 cs=some y)(hb:Rows.uptoBulk y.1<=1048576):
  ∃ (A:Option Addr) (c:Nat) (rss:List (List Row)),cs=[.slice A rss.length c]/\RowssV w (.slice A rss.length c) rss/\∀ i,i<rss.length->∀ r∈rss.getD i [],∀ u∈r,Qyf u:=by
 obtain ⟨ps,A,o,e,O,J,h3,h4⟩:=open_elemsB (sz:=1) (λp:Value×List Row=>[p.1]) (λp=>RowsE w p.1 p.2) Tryz.underlying25 (by kernel_rfl) hb (λn Z y U hb=>open_rowsE U hb) h;rw [flatMap_one]at O;have C:(ps.map (·.2)).length=ps.length:=List.length_map _
 have G:∀ i,i<ps.length->(ps.map (·.2)).getD i []=(ps.getD i (.bool false,[])).2:=λi hi=>getD_map (·.2) ps (.bool false,[]) [] hi
 refine ⟨A,o,ps.map (·.2),by rw [C];exact e,⟨A,o,ps.map (·.1),rfl,by omega,by omega,by rw [C];exact O,λi hi=>?_⟩,λi hi=>?_⟩
 ·have j:i<ps.length:=by omega
  rw [G i j];exact ⟨(ps.getD i (.bool false,[])).1,by simp [List.getD,List.getElem?_eq_getElem j],(J _ (getD_mem' _ _ j)).1⟩
 ·have j:i<ps.length:=by omega
  rw [G i j];exact (J _ (getD_mem' _ _ j)).2
theorem open_intsE{n:Nat}{cs:List Value}{y:DataW H×List MemPlace}(h:DataW.trod enc Tryz.prog w base spare held n 23 cs=some y)(hb:Rows.uptoBulk y.1<=1048576): ∃ p:Value×List Int,cs=[p.1]/\IntsV w p.1 p.2/\∃ A c,p.1=.slice A p.2.length c:=by
 obtain ⟨l,A,i,e,j,O,C,J⟩:=open_elemsB (sz:=1) (λz:Int=>[Value.int .i64 z]) (λ_=>True) Tryz.underlying23 (by kernel_rfl) hb (λn G y o _=>by obtain ⟨z,e,_,_⟩:=DataW.trod_int Tryz.underlying3 o;exact ⟨z,e,trivial⟩) h;rw [flatMap_one]at j;have u:l.length<=1100000:=by omega
 exact ⟨(.slice A l.length i,l),e,⟨A,i,rfl,C,u,j⟩,A,i,rfl⟩
theorem open_intssE{n:Nat}{cs:List Value}{y:DataW H×List MemPlace}(h:DataW.trod enc Tryz.prog w base spare held n 24 cs=some y)(hb:Rows.uptoBulk y.1<=1048576):
  ∃ (A:Option Addr) (c:Nat) (zss:List (List Int)),cs=[.slice A zss.length c]/\IntssV w (.slice A zss.length c) zss:=by
 obtain ⟨ps,A,o,e,C,O,h3,Z⟩:=open_elemsB (sz:=1) (λp:Value×List Int=>[p.1]) (λp=>IntsV w p.1 p.2) Tryz.underlying24 (by kernel_rfl) hb (λn U y G hb=>by obtain ⟨p,e,J,_⟩:=open_intsE G hb;exact ⟨p,e,J⟩) h;rw [flatMap_one]at C;have u:(ps.map (·.2)).length=ps.length:=List.length_map _
 refine ⟨A,o,ps.map (·.2),by rw [u];exact e,⟨A,o,ps.map (·.1),rfl,by omega,by omega,by rw [u];exact C,λi hi=>?_⟩⟩
 have j:i<ps.length:=by omega
 rw [getD_map (·.2) ps (.bool false,[]) [] j]
 exact ⟨(ps.getD i (.bool false,[])).1,by simp [List.getD,List.getElem?_eq_getElem j],O _ (getD_mem' _ _ j)⟩
theorem open_boolsE{n:Nat}{cs:List Value}{y:DataW H×List MemPlace}(h:DataW.trod enc Tryz.prog w base spare held n 22 cs=some y)(hb:Rows.uptoBulk y.1<=1048576): ∃ (A:Option Addr) (c:Nat) (l:List Bool),cs=[.slice A l.length c]/\BoolsV w (.slice A l.length c) l:=by
 obtain ⟨l,A,i,e,j,J,u,G⟩:=open_elemsB (sz:=1) (λz:Bool=>[Value.bool z]) (λ_=>True) Tryz.underlying22 (by kernel_rfl) hb (λn C y o _=>by obtain ⟨z,e,_⟩:=DataW.trod_bool Tryz.underlying4 o;exact ⟨z,e,trivial⟩) h;rw [flatMap_one]at j;exact ⟨A,i,l,e,⟨A,i,rfl,u,by omega,j⟩⟩
def CaseE(w:World)(v:Value): Prop:=∃ (cs:List Value) (c:Cse),v=.agg cs.toArray/\CseV w cs c/\∀ i,i<c.rss.length->∀ r∈c.rss.getD i [],∀ u∈r,Qyf u
theorem open_case{v:Value}{d:DataW H}{p:List MemPlace}(hv:Value.okWide Tryz.prog w .any b0 27 v)(h:DataW.Trod enc Tryz.prog w base spare held 27 v d p)(hb:Rows.uptoBulk d<=1048576): CaseE w v:=by
 simp only [Value.okWide,Tryz.underlying27]at hv;obtain ⟨cs,rfl,Z,_⟩:=hv;rw [show Tryz.prog.cellsOf 27=6 by kernel_rfl]at Z;obtain ⟨l⟩:=cs;obtain ⟨a2,h⟩:=h;match l,Z with
 | [c0,c1,c2,c3,c4,c5],_=>
  obtain ⟨j,m,_,U,a1,O,o⟩:=DataW.trod_struct Tryz.underlying27 h;have a3:j.length=6:=O;injection U with U _
  subst U;have G:∀ i (hi:i<j.length),Rows.uptoBulk j[i].1<=1048576:=λi hi=>by
   have h1:j[i].1∈j.map (·.1):=List.mem_map.2 ⟨j[i],List.getElem_mem hi,rfl⟩
   have Z:=bulk_part h1;simp only [Rows.uptoBulk]at hb;omega
  have f0:DataW.trod enc Tryz.prog w base spare held m 3 (([c0,c1,c2,c3,c4,c5].drop 0).take (Tryz.prog.cellsOf 3))=j[0]?:=o 0 _ rfl;have f1:DataW.trod enc Tryz.prog w base spare held m 3 (([c0,c1,c2,c3,c4,c5].drop 1).take (Tryz.prog.cellsOf 3))=j[1]?:=o 1 _ rfl;have f2:DataW.trod enc Tryz.prog w base spare held m 22 (([c0,c1,c2,c3,c4,c5].drop 2).take (Tryz.prog.cellsOf 22))=j[2]?:=o 2 _ rfl;have f3:DataW.trod enc Tryz.prog w base spare held m 23 (([c0,c1,c2,c3,c4,c5].drop 3).take (Tryz.prog.cellsOf 23))=j[3]?:=o 3 _ rfl;have f4:DataW.trod enc Tryz.prog w base spare held m 24 (([c0,c1,c2,c3,c4,c5].drop 4).take (Tryz.prog.cellsOf 24))=j[4]?:=o 4 _ rfl;have f5:DataW.trod enc Tryz.prog w base spare held m 25 (([c0,c1,c2,c3,c4,c5].drop 5).take (Tryz.prog.cellsOf 25))=j[5]?:=o 5 _ rfl;rw [show Tryz.prog.cellsOf 3=1 by kernel_rfl,List.getElem?_eq_getElem (by omega)]at f0 f1;rw [show Tryz.prog.cellsOf 22=1 by kernel_rfl,List.getElem?_eq_getElem (by omega)]at f2
  rw [show Tryz.prog.cellsOf 23=1 by kernel_rfl,List.getElem?_eq_getElem (by omega)]at f3;rw [show Tryz.prog.cellsOf 24=1 by kernel_rfl,List.getElem?_eq_getElem (by omega)]at f4;rw [show Tryz.prog.cellsOf 25=1 by kernel_rfl,List.getElem?_eq_getElem (by omega)]at f5;obtain ⟨n,e0,_,w0⟩:=DataW.trod_int Tryz.underlying3 f0;obtain ⟨f,e1,_,w1⟩:=DataW.trod_int Tryz.underlying3 f1;obtain ⟨A2,k2,ds,e2,g2⟩:=open_boolsE f2 (G 2 (by omega));obtain ⟨⟨p3,pm⟩,e3,g3,A3,k3,C⟩:=open_intsE f3 (G 3 (by omega));simp only at C g3 e3;subst C;obtain ⟨A4,k4,vs,e4,g4⟩:=open_intssE f4 (G 4 (by omega));obtain ⟨A5,k5,J,e5,g5,u⟩:=open_rowssE f5 (G 5 (by omega));simp at e0 e1 e2 e3 e4 e5;subst e0;subst e1;subst e2;subst e3;subst e4;subst e5;exact ⟨_,⟨n,f,ds,pm,vs,J⟩,rfl,⟨A2,k2,A3,k3,A4,k4,A5,k5,rfl,g2,g3,g4,g5,bounds_i64 w0,bounds_i64 w1⟩,u⟩
end
theorem gPow: Tryz.prog.globalNamed "internal/strconv.uint64pow10" = some 1:=by kernel_rfl
theorem gPowT: (Tryz.prog.globals[1]?).map (·.type)=some 307:=by kernel_rfl
theorem tb_of_laid{W:World}(h:laidMetH Tryz.prog Rows.accessAtUptoRow.laid W): TB W.heap.size W:=by
 refine ⟨Nat.le_refl _,Lib.tabBelow_of_tabIs ?_⟩;have i:=h.filter (λx=>x.1 == "internal/strconv.uint64pow10");exact Lib.tabIs_of_head (rest:=[]) gPow gPowT Tryz.underlying307 Tryz.underlying45 (by kernel_rfl) (by kernel_rfl) i
def layOn(d:DataW Unit): Obj->Obj
 | .cells _ t z=>.cells (match d with
  | .agg ps=>(ps.map fun
   | .lit (.int k z)=>Value.int k z
   | _=>Value.bool false).toArray
  | _=>#[]) t z
 | o=>o
open Go.RowKit Pl Go.Wk
attribute [local irreducible] WC WL QX WD WDB WP WN WG WH WM
theorem wiL_len(L:List Row)(y:Row): (wiL L y).length<=L.length:=List.length_filter_le _ _
open Go.RowKit Pl Go.Wk
theorem tmod_is{k:Int}{n:Nat}(hk:0<=k)(hn:0<n): ∃ r:Nat,k.tmod (n:Int)=(r:Int)/\r<n:=by
 refine ⟨(k.tmod (n:Int)).toNat,?_,?_⟩
 ·have:=Int.tmod_nonneg (a:=k) (n:Int) hk;omega
 ·have j:=Int.tmod_nonneg (a:=k) (n:Int) hk;have i:=Int.tmod_lt_of_pos k (show (0:Int)<(n:Int) by omega);omega
end Go.Proofs.YtefpailelagbkaaGreatDoor
