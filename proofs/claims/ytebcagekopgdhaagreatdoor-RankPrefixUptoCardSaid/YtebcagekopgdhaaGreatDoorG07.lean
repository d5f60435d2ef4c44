/- Part 7. -/
import Derived.Test.YtebcagekopgdhaaGreatDoorG06
import Derived.Maps.RangeWalk
set_option linter.unusedVariables false
set_option maxRecDepth 100000
set_option maxHeartbeats 40000000
namespace Go.Proofs.YtebcagekopgdhaaGreatDoor
open Go.RowKit Pl Go.Wk
attribute [local irreducible] WC WL QX WD WDB WP WN
variable {qi:Int}{j k q:Nat}
theorem Ur: Qp Tryz.prog 47=some V0.val:=kr
section
variable {w:World} {g:Nat} {A:Option Addr} {d L p e:Nat} {f h:Nat->Nat} {st:Int} {rs:List Row}
theorem Qjp(hB:ItB w g A d L p e f h st)(hT:TriA w A d rs)(hL:0<L)(hLd:L<=d)(hd:d<=32)(hq:q<(lvl rs (L-1)).length)(hqi:qi=(q:Int)): Ret Tryz.prog 229 [.pointer (some ⟨g,0,none⟩),.int .i64 qi] w λu w'=>u=((lvl rs (L-1)).getD q V0).val/\Ext w w':=by
 subst hqi;obtain ⟨vv,fv,fs,hR,hv,hf,hc⟩:=hT;have O:L-1<d:=om
 obtain ⟨B,c,a1,a3⟩:=hv (L-1) O;refine Jz Tryz.func229 Tryz.ntmps229 rfl kr rfl ?_;refine ρ ?_;refine alc (cs:=V0.cells) Ur ?_;intro w1 b Z hb a4;refine ρ ?_;refine drN (λ_=>False) 4 [(0,0),(0,1),(0,2),(0,3),(0,4),(0,5),(0,6),(0,7),(0,8),(0,9),(0,10),(0,11),(0,12),(0,13),(0,14),(0,15),(2,16)] kr ?_;have o:=Z.drew;have J:=hB.ext o;have G:=hR.ext o;have C:RdR _ B (lvl rs (L-1)):=Rd.ext a3 o;have a2:w1.drew.cell? ((adr A ((L-1)*2)).add 0)=some (vv (L-1)):=by rw [add_zero];exact G.cell (Gu d vv fv O).1
 refine ρn ?_;refine nld (Jp (J.at (i:=0) rfl) (λe=>e)) ?_;refine ρn ?_;refine nld (Jp (J.at (i:=1) rfl) (λe=>e)) ?_;refine ρn ?_;refine Yk 2 (L-1) G O ?_;refine ρn ?_;refine nld (Jp a2 (λe=>e)) ?_;rw [a1];refine ρn ?_;refine Yk 3 q C hq ?_;refine ρn ?_;refine Qe (cs:=((lvl rs (L-1)).getD q V0).cells) (λw' hg j u hu=>RdR.cell (Rd.ext C hg.toExt) hq hu) ?_;refine ρn ?_;refine Xy ?_;refine stb (cs':=((lvl rs (L-1)).getD q V0).cells) (a4.ext (Ext.refl w1).drew) ?_ (V.one _);intro w2 a5 a6 U;refine ρ ?_;exact Iq a5 ⟨rfl,U w o hb⟩
theorem Jgp{v:V}(hB:ItB w g A d L p e f h st)(hT:Off (λk=>k=g) w (λu=>TriA u A d rs))(hL:0<L)(hLd:L<=d)(hd:d<=32)(hq:q<(lvl rs (L-1)).length)(hqi:qi=(q:Int)): Ret Tryz.prog 234 [.pointer (some ⟨g,0,none⟩),.int .i64 qi,v.val] w λu w'=>u=.bool (decide (cmpV ((lvl rs (L-1)).getD q V0) v<0))/\GrN (λk=>k=g) w w'/\∃ st',ItB w' g A d L p e f h st':=by
 refine Jz Tryz.func234 Tryz.ntmps234 rfl kr rfl ?_;refine ρ ?_;refine bx (cs:=v.cells) ?_;intro w1 b Z hb a4;have C:=hB.ext Z;refine ρ ?_;refine ld (C.at (i:=68) (Jgr _ _ _ _ _ _ _ _)) ?_;refine ρ ?_;have a5:w1.cell? ⟨g,0+68,none⟩=some (.int .i64 st):=by rw [C.cell];exact Jgr _ _ _ _ _ _ _ _
 refine sto a5 (C.frozen _) ?_;obtain ⟨st',a1⟩:∃ st':Int,st'=IntKind.i64.wrap (st+1):=⟨_,rfl⟩;rw [<-a1];have J:=C.set (0+68) (.int .i64 st');rw [show (0:Nat)+68=68 from rfl,Qmf]at J;have a2:GrN (λk=>k=g) w (w1.setCell ⟨g,68,none⟩ (.int .i64 st')):=(GrN.ext Z).trans (GrN.set _ rfl);have a3:Blk (w1.setCell ⟨g,68,none⟩ (.int .i64 st')) b 47 v.cells:=a4.far (by simp only;have:=hB.lt;omega) _;refine ρ ?_;generalize hw2:w1.setCell ⟨g,68,none⟩ (.int .i64 st')=w2 at *
 refine dr [(0,0),(0,1),(0,3),(1,2),(1,4),(0,5),(0,6)] kr ?_;have o:Ext w2 w2.drew:=(Ext.refl w2).drew;refine ρd ?_;refine Qw (cs:=v.cells) (λj u hu=>(a3.ext o).at hu) ?_;refine ρd ?_;refine dcl (Qjp (J.ext o) (hT _ (a2.trans (GrN.ext o))) hL hLd hd hq hqi) ?_;rintro u w3 ⟨rfl,U⟩;refine ⟨U,?_⟩;refine ρd ?_;refine dcl (Jqg _ v _) ?_;rintro u w4 ⟨rfl,O⟩;refine ⟨O,?_⟩;refine ρd ?_;refine ρ ?_;have G:=(o.trans U).trans O;exact Jq ⟨rfl,a2.trans (GrN.ext G),st',J.ext G⟩
theorem Jgq(hB:ItB w g A d L p e f h st)(hT:TriA w A d rs)(hLd:L<=d)(hd:d<=32)(he:0<L->e<=(lvl rs (L-1)).length): Ret Tryz.prog 219 [.pointer (some ⟨g,0,none⟩)] w λu w'=>Ext w w'/\∃ v:V,u=.tuple #[v.val,.bool (decide (0<L/\p<e))]/\(0<L/\p<e->v=(lvl rs (L-1)).getD p V0):=by
 refine Jz Tryz.func219 Tryz.ntmps219 rfl kr rfl ?_;refine ρ ?_;refine alc (cs:=V0.cells) Ur ?_;intro w1 b O hb Z;refine ρ ?_;refine cl (Jxd (hB.ext O)) ?_;rintro u w2 ⟨rfl,J⟩;have o:=O.trans J;refine ρ ?_;refine ci (λh1=>?_) (λh1=>?_)
 .have U:¬ (0<L/\p<e):=oF (by rw [Bool.not_eq_true']at h1;exact h1);refine ρ ?_;refine bld (v:=V0.val) kr ?_;refine ρ ?_;refine stb (cs':=V0.cells) (Z.ext J) ?_ (V.one _);intro w3 a4 a6 G;refine ρ ?_;refine Zp a4 ⟨G w o hb,V0,?_,λh'=>absurd h' U⟩;rw [decide_eq_false U];rfl
 .have C:0<L/\p<e:=oT (by rw [Bool.not_eq_false']at h1;exact h1);have a1:=hB.ext o;refine ρ ?_;refine ld (a1.at (i:=2) rfl) ?_;refine ρ ?_;refine cl (Qjp (q:=p) (qi:=(p:Int)) a1 (hT.ext o) C.1 hLd hd (by have:=he C.1;omega) rfl) ?_;rintro u w3 ⟨rfl,G⟩;refine ρ ?_;refine stb (cs':=((lvl rs (L-1)).getD p V0).cells) ((Z.ext J).ext G) ?_ (V.one _);intro w4 a3 a5 a2;refine ρ ?_;refine Zp a3 ⟨a2 w (o.trans G) hb,_,?_,λ_=>rfl⟩;rw [decide_eq_true C];rfl
theorem Qmd(hB:ItB w g A d L p e f h st)(hL:0<L)(hp:p<e)(hpe:e<=1000000): Ret Tryz.prog 218 [.pointer (some ⟨g,0,none⟩)] w λu w'=>u=.bool (decide (p+1<e))/\GrN (λk=>k=g) w w'/\ItB w' g A d L (p+1) e f h st:=by
 refine Jz Tryz.func218 Tryz.ntmps218 rfl kr rfl ?_;refine ρ ?_;refine cl (Jxd hB) ?_;rintro u Z ⟨rfl,G⟩;refine ρ ?_;refine cf ?_ ?_
 .simp [hL,hp]
 have o:=hB.ext G;refine ρ ?_;refine ld (o.at (i:=2) rfl) ?_;refine ρ ?_;refine sto (p:=⟨g,2,none⟩) (o.cell 2) (o.frozen _) ?_;have J:ItB (Z.setCell ⟨g,2,none⟩ (.int .i64 ((p:Int)+1))) g A d L (p+1) e f h st:=by
  have:=o.set 2 (.int .i64 ((p:Int)+1));exact this
 have O:GrN (λk=>k=g) w (Z.setCell ⟨g,2,none⟩ (.int .i64 ((p:Int)+1))):=(GrN.ext G).trans (GrN.set _ rfl);refine ρ ?_;refine cl (Jxd J) ?_;rintro u w3 ⟨rfl,C⟩;refine ρ ?_;refine Jq ⟨?_,O.trans (GrN.ext C),J.ext C⟩;congr 1
 exact decide_eq_decide.2 ⟨λU=>U.2,λU=>⟨hL,U⟩⟩
theorem Xjp(hB:ItB w g A d L p e f h st)(hk:k<32){u:Value}(hu:[Value.int .i64 (f k:Int),.int .i64 (h k:Int)][j]?=some u): w.cell? (((⟨g,0+4,none⟩:Addr).add (k*2)).add j)=some u:=by
 have o:=Qmh A d L p e f h st hk;rw [Vo,Vo,hB.cell];match j,hu with
 | 0,hu=>rw [<-hu];exact o.1
 | 1,hu=>rw [<-hu];exact o.2
 | j+2,hu=>simp at hu
theorem Qlx(hB:ItB w g A d (L+1) p e f h st)(hL:L<32): Ret Tryz.prog 220 [.pointer (some ⟨g,0,none⟩)] w λu w'=>GrN (λk=>k=g) w w'/\ItB w' g A d L (f L) (h L) f h st:=by
 refine Jz Tryz.func220 Tryz.ntmps220 rfl kr rfl ?_;refine ρ ?_;refine pnl ?_;refine ρ ?_;refine ld (hB.at (i:=1) rfl) ?_;refine ρ ?_;refine ld (hB.at (i:=1) rfl) ?_;refine ρ ?_;refine sto (p:=⟨g,1,none⟩) (hB.cell 1) (hB.frozen _) ?_;have eL:((L+1:Nat):Int)-1=(L:Int):=om
 rw [eL];have a1:ItB (w.setCell ⟨g,1,none⟩ (.int .i64 (L:Int))) g A d L p e f h st:=hB.set 1 (.int .i64 (L:Int));have U:GrN (λk=>k=g) w (w.setCell ⟨g,1,none⟩ (.int .i64 (L:Int))):=GrN.set _ rfl;refine ρ ?_;generalize w.setCell ⟨g,1,none⟩ (.int .i64 (L:Int))=w2 at *
 refine drN (λ_=>False) 4 [(0,0),(0,1),(0,2),(0,3),(0,4),(0,5),(0,6),(0,7),(0,8),(0,9),(0,10),(0,11),(2,12)] kr ?_;have G:Ext w2 w2.drew:=(Ext.refl w2).drew;have C:=a1.ext G;refine ρn ?_;refine nld (Jp (C.at (i:=1) rfl) (λe=>e)) ?_;refine ρn ?_;refine nixa L hL ?_;refine ρn ?_;refine Qe (cs:=[.int .i64 (f L:Int),.int .i64 (h L:Int)]) (λw' hg j u J=>Xjp (Jv C hg (λe=>e)) hL J) ?_;refine ρn ?_;refine Xy ?_;refine stB (o:=2) (us:=[.int .i64 (f L:Int),.int .i64 (h L:Int)]) C (by rw [Jyt];simp) (λu J=>by simp at J;rcases J with rfl|rfl<;>rfl) ?_;intro w4 Z O;refine ρ ?_;exact Jq ⟨U.trans ((GrN.ext G).trans (GrN.by O λk e=>by injection e with e;exact e.symm)),Z⟩
theorem Qlz(hB:ItB w g A d L p e f h st): Ret Tryz.prog 206 [.pointer (some ⟨g,0,none⟩)] w λu w'=>u=.int .i64 st/\w'=w:=by
 refine Jz Tryz.func206 Tryz.ntmps206 rfl kr rfl ?_;refine ρ ?_;refine pnl ?_;refine ρ ?_;refine ld (hB.at (i:=68) (Jgr _ _ _ _ _ _ _ _)) ?_;refine ρ ?_;exact Jq ⟨rfl,rfl⟩
theorem Qss(A:Option Addr)(d:Nat)(w:World): (Instr.build 303 #[(0,.agg #[.slice A d d])]).run Tryz.prog w=.ok (.agg (itC A d 0 0 0 (λ_=>0) (λ_=>0) 0).toArray) w:=kr
theorem Qyt(w:World): Ret Tryz.prog 204 [.agg #[.slice A d d]] w λu w'=>Ext w w'/\∃ g,u=.pointer (some ⟨g,0,none⟩)/\w.heap.size<=g/\ItB w' g A d 0 0 0 (λ_=>0) (λ_=>0) 0:=by
 refine Jz Tryz.func204 Tryz.ntmps204 rfl kr rfl ?_;refine ρ ?_;refine bx ?_;intro w1 b o hb O;refine ρ ?_;refine ldW O ?_;refine ρ ?_;refine bld (Qss A d _) ?_;refine ρ ?_;refine bx (cs:=itC A d 0 0 0 (λ_=>0) (λ_=>0) 0) ?_;intro Z U C G J;refine ρ ?_;exact Jq ⟨o.trans C,U,rfl,Nat.le_trans o.size G,J⟩
end
open Go.RowKit Pl Go.Wk
section
variable {w:World} {g:Nat} {A:Option Addr} {d L p e:Nat} {f h:Nat->Nat} {st:Int} {rs:List Row}
theorem Qmb{v:V}(hB:ItB w g A d L p e f h st)(hT:Off (λk=>k=g) w (λu=>TriA u A d rs))(hL:0<L)(hLd:L<=d)(hd:d<=32)(hpe:p<e)(he:e<=(lvl rs (L-1)).length)(hm:e<=1000000)(hs:∀ i j,p<=i->i<j->j<e->cmpV ((lvl rs (L-1)).getD i V0) ((lvl rs (L-1)).getD j V0)<0):
  Ret Tryz.prog 228 [.pointer (some ⟨g,0,none⟩),v.val] w λu w'=>GrN (λk=>k=g) w w'/\∃ q st',u=.bool (decide (q<e))/\p<=q/\q<=e/\(∀ i,p<=i->i<q->cmpV ((lvl rs (L-1)).getD i V0) v<0)/\(q<e->¬ cmpV ((lvl rs (L-1)).getD q V0) v<0)/\ItB w' g A d L q e f h st':=by
 obtain ⟨val,b2⟩:∃ val:Nat->V,val=λi=>(lvl rs (L-1)).getD i V0:=⟨_,rfl⟩;have ab:∀ i,(lvl rs (L-1)).getD i V0=val i:=λi=>by rw [b2]
 simp only [ab]at hs ⊢;have below:∀ {o i:Nat},p<=i->i<=o->o<e->cmpV (val o) v<0->cmpV (val i) v<0:=fun {o i} J h2 h3 h4=>by
  by_cases e':i=o
  .subst e';exact h4
  .exact cmp_V.lt_trans (hs i o J om h3) h4
 refine Jz Tryz.func228 Tryz.ntmps228 rfl kr rfl ?_;refine ρ ?_;refine bx (cs:=v.cells) ?_;intro w1 b b1 hb bc;have ba:b≠g:=by have:=hB.lt;omega
 have ac:¬ (λk=>k=g) b:=ba;refine ρ ?_;refine cl (Jxd (hB.ext b1)) ?_;rintro u w2 ⟨rfl,ay⟩;have aj:=b1.trans ay;have bd:=hB.ext aj;have bb:GrN (λk=>k=g) w w2:=GrN.ext aj;refine ρ ?_;refine cf ?_ ?_
 .simp [hL,hpe]
 refine ρ ?_;refine drN (λ_=>False) 10 [(0,0),(0,1),(0,2),(0,3),(0,4),(0,5),(0,6),(2,7),(2,8)] kr ?_;have am:Ext w2 w2.drew:=(Ext.refl w2).drew;have aq:=bd.ext am;have a8:=(bc.ext ay).ext am;have ap:=bb.trans (GrN.ext am);refine ρn ?_;refine nld (Jp (aq.at (i:=2) rfl) (λe=>e)) ?_;refine ρn ?_;refine Qe (cs:=v.cells) (λw' hg j u hu=>(Jv a8 hg (λe=>e)).at hu) ?_;refine ρn ?_;refine Xy ?_;refine cl (Jgp (q:=p) (qi:=(p:Int)) aq (hT.gr ap) hL hLd hd om rfl) ?_;rintro u w4 ⟨rfl,ao,aw,ai⟩;have ak:=Jv a8 ao ac;have a5:=ap.trans ao;refine ρ ?_;refine Uv ?_;refine Xy ?_;refine ρ ?_;rw [ab];refine ci (λJ=>?_) (λJ=>?_)
 .have h2:¬ cmpV (val p) v<0:=by simpa using J
  refine ρ ?_;refine Jq ⟨a5,p,aw,by rw [decide_eq_true hpe],Nat.le_refl _,om,λi J h2=>om,λ_=>h2,ai⟩
 have h2:cmpV (val p) v<0:=by simpa using J
 clear J;refine ρ ?_;refine ld (ai.at (i:=2) rfl) ?_;refine ρ ?_;refine Xm (fun (o step:Nat) (st:Int)=>[(0,.pointer (some ⟨g,0,none⟩)),(3,.pointer (some ⟨b,0,none⟩)),(5,.int .i64 (o:Int)),(6,.int .i64 (step:Int))])
  (λo step st w'=>GrN (λk=>k=g) w w'/\ItB w' g A d L p e f h st/\Blk w' b 47 v.cells/\p<=o/\o<e/\cmpV (val o) v<0/\1<=step/\step<=2000000) (λo _ _=>e-o) p 1 aw sB
  ⟨a5,ai,ak,Nat.le_refl _,hpe,h2,Nat.le_refl _,om⟩ ?_
 clear ai ak a5 ao aq a8 ap;rintro o step b6 w5 ⟨af,ah,O,ad,b5,a2,b8,b7⟩;refine ρ ?_;refine ld (ah.at (i:=3) rfl) ?_;refine ρ ?_;refine Jmn (fun (t:Bool) (st:Int)=>[(0,.pointer (some ⟨g,0,none⟩)),(3,.pointer (some ⟨b,0,none⟩)),(5,.int .i64 (o:Int)),(6,.int .i64 (step:Int)),(42,.bool t)])
  (λt st w'=>GrN (λk=>k=g) w w'/\ItB w' g A d L p e f h st/\Blk w' b 47 v.cells/\(t=true->o+step<e/\cmpV (val (o+step)) v<0)/\(t=false->e<=o+step∨¬ cmpV (val (o+step)) v<0)) ?_ ?_
 .refine ki 35 (λJ=>?_) (λJ=>?_)
  .have h3:o+step<e:=by have:=oT J;omega
   refine ρ ?_;refine lds (cs:=v.cells) (λj u hu=>O.at hu) ?_;refine ρ ?_;refine cl (Jgp (q:=o+step) (qi:=(o:Int)+(step:Int)) ah (hT.gr af) hL hLd hd om om) ?_;rintro u w6 ⟨rfl,Z,aa,a1⟩;refine ρ ?_;rw [ab];refine Zt _ aa sB ⟨af.trans Z,a1,Jv O Z ac,λh'=>⟨h3,of_decide_eq_true h'⟩,λh'=>.inr (oF h')⟩
  .refine ρ ?_;exact Zt false b6 sB ⟨af,ah,O,λh'=>(by cases h'),λ_=>.inl (by have:=oF J;omega)⟩
 clear af ah O;rintro t aa w6 ⟨Z,a1,a7,b4,b3⟩;refine ci (λJ=>?_) (λJ=>?_)
 .obtain ⟨h3,h4⟩:=b4 J;refine ρ ?_;exact Qt (o+step) (step*2) aa sO ⟨Z,a1,a7,om,om,h4,om,om⟩ om
 have h3:=b3 J;clear b4 b3 J;refine ρ ?_;refine ld (a1.at (i:=3) rfl) ?_;refine ρ ?_;have b9:∃ hi:Nat,(if (e:Int)<(o:Int)+(step:Int) then (e:Int) else (o:Int)+(step:Int))=(hi:Int)/\o<hi/\hi<=e/\(hi<e->¬ cmpV (val hi) v<0):=by
  by_cases h4:e<o+step
  .exact ⟨e,by rw [if_pos om],b5,Nat.le_refl _,λh'=>om⟩
  .refine ⟨o+step,by rw [if_neg om];omega,om,om,λh'=>?_⟩;rcases h3 with h5|h5
   .omega
   .exact h5
 obtain ⟨hi,ar,an,a4,a3⟩:=b9;rw [ar];refine Xm (fun (o hi:Nat) (st:Int)=>[(0,.pointer (some ⟨g,0,none⟩)),(3,.pointer (some ⟨b,0,none⟩)),(5,.int .i64 (o:Int)),(7,.int .i64 (hi:Int))])
  (λo hi st w'=>GrN (λk=>k=g) w w'/\ItB w' g A d L p e f h st/\Blk w' b 47 v.cells/\p<=o/\cmpV (val o) v<0/\o<hi/\hi<=e/\(hi<e->¬ cmpV (val hi) v<0)) (λo hi _=>hi-o) o hi aa sB
  ⟨Z,a1,a7,ad,a2,an,a4,a3⟩ ?_
 clear Z a1 a7 ad b5 a2 b8 b7 h3 an a4 a3 ar;rintro C G av w7 ⟨ae,ag,a6,ad,a2,an,a4,a3⟩;refine ρ ?_;refine ci (λJ=>?_) (λJ=>?_)
 .have bf:C+1<G:=by have:=oT J;omega
  refine ρ ?_;refine qn (G-C) 2 ?_;refine ρ ?_;have be:C<C+(G-C) / 2/\C+(G-C) / 2<G:=om
  generalize hmm:(G-C) / 2=m at *
  refine lds (cs:=v.cells) (λj u hu=>a6.at hu) ?_;refine ρ ?_;refine cl (Jgp (q:=C+m) (qi:=(C:Int)+(m:Int)) ag (hT.gr ae) hL hLd hd om om) ?_;rintro u w8 ⟨rfl,U,au,a9⟩;refine ρ ?_;rw [ab];refine ci (λh2=>?_) (λh2=>?_)
  .refine ρ ?_;exact Qt (C+m) G au sO ⟨ae.trans U,a9,Jv a6 U ac,om,of_decide_eq_true h2,om,a4,a3⟩ om
  .refine ρ ?_;exact Qt C (C+m) au sO ⟨ae.trans U,a9,Jv a6 U ac,ad,a2,om,om,λ_=>oF h2⟩ om
 .have ar:G=C+1:=by have:=oF J;omega
  refine ρ ?_;refine sto (p:=⟨g,2,none⟩) (ag.cell 2) (ag.frozen _) ?_;have a9:ItB (w7.setCell ⟨g,2,none⟩ (.int .i64 (G:Int))) g A d L G e f h av:=ag.set 2 (.int .i64 (G:Int));have U:GrN (λk=>k=g) w (w7.setCell ⟨g,2,none⟩ (.int .i64 (G:Int))):=ae.trans (GrN.set _ rfl);refine ρ ?_;refine cl (Jxd a9) ?_;rintro u w9 ⟨rfl,ax⟩;refine ρ ?_;refine Jq ⟨U.trans (GrN.ext ax),G,av,?_,om,a4,λi J h2=>below J (show i<=C by omega) om a2,a3,a9.ext ax⟩;congr 1
  exact decide_eq_decide.2 ⟨λh'=>h'.2,λh'=>⟨hL,h'⟩⟩
end
open Go.RowKit Pl Go.Wk
variable {j:Nat}{u:Value}
theorem Qwz: Qp Tryz.prog 300=some (.agg #[.int .i64 0,.int .i64 0]):=kr
theorem Qzz(x y:Int)(w:World): (Instr.build 300 #[(0,.int .i64 x),(1,.int .i64 y)]).run Tryz.prog w=.ok (.agg #[.int .i64 x,.int .i64 y]) w:=kr
theorem Jyd{x y:Int}: ∀ u∈[Value.int .i64 x,.int .i64 y],u.oneCell'=true:=by intro u o;simp at o;rcases o with rfl|rfl<;>rfl
section
variable {w:World} {g:Nat} {A:Option Addr} {d L p e:Nat} {f h:Nat->Nat} {st:Int} {rs:List Row}
theorem Jnk(w:World): Ret Tryz.prog 227 [.agg #[.slice A d d]] w λu w'=>u=.int .i64 (d:Int)/\Ext w w':=by
 refine Jz Tryz.func227 Tryz.ntmps227 rfl kr rfl ?_;refine ρ ?_;refine bx ?_;intro G b o J C;refine ρ ?_;refine ld (C.at (i:=0) rfl) ?_;refine ρ ?_;exact Jq ⟨rfl,o⟩
def Yy(rs:List Row)(L p:Nat): Row:=if L=0 then [] else (pfx rs L).getD p []
theorem Jgn(hB:ItB w g A d L p e f h st)(hu:[Value.slice A d d][j]?=some u): w.cell? (((⟨g,0,none⟩:Addr).add 0).add j)=some u:=by
 match j,hu with
 | 0,hu=>rw [add_zero,add_zero,hB.cell];exact hu
 | j+1,hu=>simp at hu
theorem it_at(hB:ItB w g A d L p e f h st)(hu:[Value.int .i64 (p:Int),.int .i64 (e:Int)][j]?=some u): w.cell? (((⟨g,0,none⟩:Addr).add 2).add j)=some u:=by
 match j,hu with
 | 0,hu=>rw [add_zero,Vo,hB.cell];exact hu
 | 1,hu=>rw [Vo,Vo,hB.cell];exact hu
 | j+2,hu=>simp at hu
theorem Qmc(hB:ItB w g A d L p e f h st)(hT:Off (λk=>k=g) w (λu=>TriA u A d rs))(hLd:L<d)(hd:d<=32)(hpe:0<L->p<e/\e<=(pfx rs L).length)(hrs:rs≠[])(hsrt:Srt [] rs)(hm:rs.length<=1000000)(hlen:∀ r∈rs,r.length=d):
  Ret Tryz.prog 216 [.pointer (some ⟨g,0,none⟩)] w λu w'=>u=.bool true/\GrN (λk=>k=g) w w'/\∃ lo hi,lo<hi/\hi<=(pfx rs (L+1)).length/\(∀ i,i<(pfx rs (L+1)).length->(((pfx rs (L+1)).getD i []).take L=Yy rs L p↔lo<=i/\i<hi))/\ItB w' g A d (L+1) lo hi (upd f L p) (upd h L e) st:=by
 refine Jz Tryz.func216 Tryz.ntmps216 rfl kr rfl ?_;refine ρ ?_;refine Qvl [(0,.pointer (some ⟨g,0,none⟩)),(30,.bool false)] (λw'=>Ext w w') ?_ ?_
 .refine dr [(0,0),(0,1),(0,2),(0,3),(0,4),(0,5),(0,6),(0,7),(0,8),(0,9),(1,10),(0,11),(0,12),(0,13),(0,14),(0,15),(0,16),(0,17),(0,18),(0,19),(0,20),(0,21),(0,22),(1,23),(0,24),(0,25)] kr ?_;have O:Ext w w.drew:=(Ext.refl w).drew;have G:=hB.ext O;refine ρd ?_;refine dpnl ?_;refine ρd ?_;refine dld (G.at (i:=1) rfl) ?_;refine ρd ?_;have rest:∀ (al:AL) (w2:World),True:=λ_ _=>trivial;refine dki 13 (λh1=>?_) (λh1=>?_)
  .have C:0<L:=by have:=oT h1;omega
   refine ρd ?_;refine dcl (Jxd G) ?_;rintro u w2 ⟨rfl,Z⟩;refine ⟨Z,?_⟩;have av:=G.ext Z;refine ρd ?_;refine dkf 19 ?_ ?_
   .have:=hpe C;simp [C,this.1]
   refine ρd ?_;refine dld (av.at (i:=1) rfl) ?_;refine ρd ?_;refine Qw (cs:=[.slice A d d]) (λj u hu=>Jgn av hu) ?_;refine ρd ?_;refine dcl (Jnk _) ?_;rintro u w3 ⟨rfl,U⟩;refine ⟨U,?_⟩;refine ρd ?_;refine ρ ?_;refine Jsc (Sub.cons rfl (Sub.cons ?_ Sub.nil)) ((O.trans Z).trans U);exact congrArg (λz=>some (Value.bool z)) (dF om)
  .have C:L=0:=by have:=oF h1;omega
   refine ρd ?_;refine dld (G.at (i:=1) rfl) ?_;refine ρd ?_;refine Qw (cs:=[.slice A d d]) (λj u hu=>Jgn G hu) ?_;refine ρd ?_;refine dcl (Jnk _) ?_;rintro u w3 ⟨rfl,U⟩;refine ⟨U,?_⟩;refine ρd ?_;refine ρ ?_;refine Jsc (Sub.cons rfl (Sub.cons ?_ Sub.nil)) (O.trans U);exact congrArg (λz=>some (Value.bool z)) (dF om)
 intro w1 ab;have a3:=hB.ext ab;obtain ⟨vv,fv,fs,hR,hv,hf,hc⟩:=(hT.ext ab).here;have be:(pfx rs (L+1)).length<=1000000:=by
  have:=Jwg (rs.map (List.take (L+1)));rw [List.length_map]at this;exact nL this hm
 refine ρ ?_;refine lds (cs:=[.slice A d d]) (λj u hu=>Jgn a3 hu) ?_;refine ρ ?_;refine cl (Jcr (l:=0) (vs:=lvl rs) hR (λl hl=>by obtain ⟨B,c,e,_⟩:=hv l hl;exact ⟨B,c,e⟩) rfl hd) ?_;rintro u w2 ⟨rfl,Z⟩;rw [if_pos (show 0<d by omega),Jxl];refine ρ ?_;refine bld (Qzz _ _ _) ?_;refine ρ ?_;refine alc Qwz ?_;intro w3 b U hb b7;refine ρ ?_;refine stb b7 ?_ (Jyd (x:=0) (y:=((pfx rs (0+1)).length:Int)));intro w4 a6 b2 ae;have a1:Ext w1 w4:=(Z.trans (ae w2 U hb));have au:=a3.ext a1;have ay:b≠g:=by have:=a3.lt;have:=Z.size;omega
 refine ρ ?_;refine ld (au.at (i:=1) rfl) ?_;refine ρ ?_;refine Ib (fun (lo hi:Nat)=>[(0,.pointer (some ⟨g,0,none⟩)),(3,.pointer (some ⟨b,0,none⟩))])
  (λlo hi w'=>Ext w1 w'/\Blk w' b 300 [.int .i64 (lo:Int),.int .i64 (hi:Int)]/\hi<=(pfx rs (L+1)).length/\∀ i,i<(pfx rs (L+1)).length->(((pfx rs (L+1)).getD i []).take L=Yy rs L p↔lo<=i/\i<hi)) ?_ ?_
 .refine ci (λh1=>?_) (λh1=>?_)
  .have C:0<L:=by have:=oT h1;omega
   obtain ⟨k,rfl⟩:∃ k,L=k+1:=⟨L-1,om⟩;have lk:k<d:=om
   obtain ⟨bc,bb⟩:=hpe C;obtain ⟨F,fc,b3,b6⟩:=hf k lk;have a8:=hc k om;obtain ⟨c1,c2,c3⟩:=a8;have bd:p<=1000000:=by
    have:=Jwg (rs.map (List.take (k+1)));rw [List.length_map]at this;have h4:(pfx rs (k+1)).length<=rs.length:=this;omega
   have lp:p<(fs k).length:=om
   have a7:p+1<(fs k).length:=om
   refine ρ ?_;refine drN (λ_=>False) 10 [(0,0),(0,1),(0,2),(0,3),(0,4),(0,5),(0,6),(0,7),(0,8),(0,9),(0,10),(0,11),(0,12),(0,13)] kr ?_;have a5:=a1.drew;have G:=a3.ext a5;have ak:=hR.ext a5;have b5:w4.drew.cell? ((adr A (k*2)).add 1)=some (fv k):=by rw [Xh];exact ak.cell (Gu d vv fv lk).2
   refine ρn ?_;refine nld (Jp (G.at (i:=0) rfl) (λe=>e)) ?_;refine ρn ?_;refine nld (Jp (G.at (i:=1) rfl) (λe=>e)) ?_;refine ρn ?_;refine Yk 2 k ak lk ?_;refine ρn ?_;refine nld (Jp b5 (λe=>e)) ?_;rw [b3];refine ρn ?_;refine ρ ?_;refine drN (λ_=>False) 10 [(0,0),(0,1),(0,2),(0,3),(0,4),(0,5),(0,6),(0,7),(0,8),(0,9),(0,10),(0,11),(0,12),(0,13),(0,14),(0,15),(0,16),(1,17),(2,18)] kr ?_;have a4:=a5.drew;have am:=a3.ext a4;have a9:=b6.ext a4;have an:=(a6.ext (Ext.refl w4).drew).ext (Ext.refl w4.drew).drew;refine ρn ?_;refine nld (Jp (am.at (i:=2) rfl) (λe=>e)) ?_;refine ρn ?_;refine nix p a9 lp ?_;refine ρn ?_;refine nld (Jp (a9.cell (Xn lp)) (λe=>e)) ?_;refine ρn ?_;refine nld (Jp (am.at (i:=2) rfl) (λe=>e)) ?_;refine ρn ?_;refine nix (p+1) a9 a7 ?_;refine ρn ?_;refine nld (Jp (a9.cell (Xn a7)) (λe=>e)) ?_;refine ρn ?_;refine nop ?_
   refine bld (Qzz _ _ _) ?_;refine ρ ?_;refine Jb (GrN.refl _ _) ?_;refine ρn ?_;refine Xy ?_;refine stb an ?_ (Jyd (x:=(((fs k).getD p 0:Nat):Int)) (y:=(((fs k).getD (p+1) 0:Nat):Int)));intro w5 J bf aw;refine ρ ?_;refine Zt ((fs k).getD p 0) ((fs k).getD (p+1) 0) sB ⟨aw w1 a4 (nL Z.size hb),J,c2 _ a7,λi hi=>?_⟩;rw [c3 p i a7 hi |>.symm,Yy,if_neg om]
  .have C:L=0:=by have:=oF h1;omega
   subst C;refine ρ ?_;refine Zt 0 (pfx rs (0+1)).length sB ⟨a1,a6,Nat.le_refl _,λi hi=>?_⟩;rw [Yy,if_pos rfl,List.take_zero];exact ⟨λ_=>⟨Nat.zero_le _,hi⟩,λ_=>rfl⟩
 clear b2 ae au a1 a6;rintro lo hi w5 ⟨aa,J,ax,a8⟩;have ac:lo<hi:=by
  have b4:∃ i,i<(pfx rs (L+1)).length/\((pfx rs (L+1)).getD i []).take L=Yy rs L p:=by
   have hr:∃ r∈rs,r.take L=Yy rs L p:=by
    by_cases C:L=0
    .subst C;obtain ⟨r,hr⟩:=List.exists_mem_of_ne_nil rs hrs;exact ⟨r,hr,by rw [Yy,if_pos rfl,List.take_zero]⟩
    .have:=hpe om;rw [Yy,if_neg C];exact (Jqw hsrt).1 (getD_mem' [] _ om)
   obtain ⟨r,hr,er⟩:=hr;obtain ⟨i,hi,ei⟩:=List.getElem_of_mem ((Jqw hsrt (l:=L+1)).2 ⟨r,hr,rfl⟩);refine ⟨i,hi,?_⟩;rw [Jr [] _ hi,ei,List.take_take,Nat.min_eq_left om,er]
  obtain ⟨i,hi,ei⟩:=b4;have:=(a8 i hi).1 ei;omega
 have ba:=a3.ext aa;refine ρ ?_;refine ld (J.at (i:=0) rfl) ?_;refine ρ ?_;refine ld (J.at (i:=1) rfl) ?_;refine ρ ?_;refine cf ?_ ?_
 .exact Jzl om
 refine ρ ?_;refine drN (λ_=>False) 10 [(0,0),(0,1),(0,2),(0,3),(0,4),(0,5),(0,6),(0,7),(0,8),(0,9),(0,10),(0,11),(2,12)] kr ?_;have O:Ext w5 w5.drew:=(Ext.refl w5).drew;have ad:=ba.ext O;have ap:=J.ext O;refine ρn ?_;refine nld (Jp (ad.at (i:=1) rfl) (λe=>e)) ?_;refine ρn ?_;refine Qe (cs:=[.int .i64 (p:Int),.int .i64 (e:Int)]) (λw' hg j u hu=>it_at (Jv ad hg (λe=>e)) hu) ?_;refine ρn ?_;refine nixa L (show L<32 by omega) ?_;refine ρn ?_;refine Xy ?_;have af:=seg2 (cs:=itC A d L p e f h st) (o:=4+L*2) (u:=.int .i64 (p:Int)) (v:=.int .i64 (e:Int)) (by rw [Jyt];omega);refine stB (o:=4+L*2) (us:=[.int .i64 (p:Int),.int .i64 (e:Int)]) ad (by rw [Jyt];simp only [List.length_cons,List.length_nil];omega) Jyd ?_ (hp:=(Vo g (0+4) (L*2)).trans (by rw [Nat.zero_add]));intro w7 ar aj;have aq:ItB w7 g A d L p e (upd f L p) (upd h L e) st:=by
  have e1:(itC A d L p e f h st).take (4+L*2)++[Value.int .i64 (p:Int),.int .i64 (e:Int)]++(itC A d L p e f h st).drop (4+L*2+[Value.int .i64 (p:Int),.int .i64 (e:Int)].length)=itC A d L p e (upd f L p) (upd h L e) st:=by
   rw [<-Qmg A d L p e f h st (show L<32 by omega) p e];exact af
  rw [e1]at ar;exact ar
 have ao:=ap.grown aj (λe=>ay (by injection e));have ai:GrN (λk=>k=g) w w7:=(GrN.ext ((ab.trans aa).trans O)).trans (GrN.by aj λk e=>by injection e with e;exact e.symm);refine ρ ?_;refine ldW ao ?_;refine ρ ?_;refine stB (o:=2) (us:=[.int .i64 (lo:Int),.int .i64 (hi:Int)]) aq (by rw [Jyt];simp) Jyd ?_;intro w8 b9 b1;have a2:ItB w8 g A d L lo hi (upd f L p) (upd h L e) st:=b9;have ah:=ai.trans (GrN.by b1 λk e=>by injection e with e;exact e.symm);refine ρ ?_;refine ld (a2.at (i:=1) rfl) ?_;refine ρ ?_;refine sto (p:=⟨g,1,none⟩) (a2.cell 1) (a2.frozen _) ?_;have b8:ItB (w8.setCell ⟨g,1,none⟩ (.int .i64 ((L:Int)+1))) g A d (L+1) lo hi (upd f L p) (upd h L e) st:=a2.set 1 (.int .i64 ((L:Int)+1));have ag:GrN (λk=>k=g) w (w8.setCell ⟨g,1,none⟩ (.int .i64 ((L:Int)+1))):=ah.trans (GrN.set _ rfl);refine ρ ?_;exact Jq ⟨rfl,ag,lo,hi,ac,ax,a8,b8⟩
end
open Go.RowKit Pl Go.Wk
variable {I:List Nat}{a i k:Nat}
def gtN(U:List V)(key:V): Nat:=(U.filter λy=>decide (cmpV key y<0)).length
theorem Qnb(U:List V)(key:V): gtN U key<=U.length:=List.length_filter_le _ _
theorem Qqj: ∀ {U:List V} {key key':V},key'∈U->cmpV key key'<0->gtN U key'<gtN U key
 | [],_,_,h,_=>by cases h
 | x::U,key,key',h,hlt=>by
  have mono:∀ U:List V,gtN U key'<=gtN U key:=λU=>by
   induction U with
   | nil=>exact Nat.le_refl _
   | cons y U ih=>
    unfold gtN at *;by_cases e:cmpV key' y<0
    .have:=cmp_V.lt_trans hlt e;rw [List.filter_cons_of_pos (by simpa using e),List.filter_cons_of_pos (by simpa using this)];simp only [List.length_cons];omega
    .rw [List.filter_cons_of_neg (by simpa using e)];by_cases e2:cmpV key y<0
     .rw [List.filter_cons_of_pos (by simpa using e2)];simp only [List.length_cons];omega
     .rw [List.filter_cons_of_neg (by simpa using e2)];exact ih
  rcases List.mem_cons.1 h with rfl|h'
  .have:=mono U;unfold gtN at *;rw [List.filter_cons_of_neg (by rw [Xe];simp),List.filter_cons_of_pos (by simpa using hlt)];simp only [List.length_cons];omega
  .have ih:=Qqj h' hlt;unfold gtN at *;by_cases e:cmpV key' x<0
   .have:=cmp_V.lt_trans hlt e;rw [List.filter_cons_of_pos (by simpa using e),List.filter_cons_of_pos (by simpa using this)];simp only [List.length_cons];omega
   .rw [List.filter_cons_of_neg (by simpa using e)];by_cases e2:cmpV key x<0
    .rw [List.filter_cons_of_pos (by simpa using e2)];simp only [List.length_cons];omega
    .rw [List.filter_cons_of_neg (by simpa using e2)];exact ih
structure Fix where
 G: Nat->Nat
 A:Nat->Option Addr
 d:Nat->Nat
 rs:Nat->List Row
structure Lev where
 L: Nat->Nat
 lo:Nat->Nat
 e:Nat->Nat
 f:Nat->Nat->Nat
 h:Nat->Nat->Nat
def Fix.val(F:Fix)(V':Lev)(i a:Nat): V:=(lvl (F.rs i) (V'.L i-1)).getD a V0
def Jqt(F:Fix)(I:List Nat): List Value:=I.map λi=>.pointer (some ⟨F.G i,0,none⟩)
theorem Jqs{F:Fix}(h:k<I.length): (Jqt F I)[k]?=some (.pointer (some ⟨F.G (I.getD k 0),0,none⟩)):=by simp [Jqt,List.getD,List.getElem?_eq_getElem h]
structure OnS(F:Fix)(V':Lev)(I:List Nat): Prop where
 lev:∀ i∈I,0<V'.L i/\V'.L i<=F.d i/\F.d i<=32
 rng:∀ i∈I,V'.e i<=(lvl (F.rs i) (V'.L i-1)).length/\V'.e i<=1000000
 srt:∀ i∈I,∀ a b,V'.lo i<=a->a<b->b<V'.e i->cmpV (F.val V' i a) (F.val V' i b)<0
 inj:∀ i∈I,∀ j∈I,F.G i=F.G j->i=j
 len:I.length<=32
def NG(F:Fix)(I:List Nat)(J:Nat)(k:Nat): Prop:=k=J∨∃ i∈I,k=F.G i
def Its(F:Fix)(V':Lev)(I:List Nat)(w:World)(p:Nat->Nat): Prop:=∀ i∈I,∃ st,ItB w (F.G i) (F.A i) (F.d i) (V'.L i) (p i) (V'.e i) (V'.f i) (V'.h i) st
def Cmn(F:Fix)(V':Lev)(I:List Nat)(y:V): Prop:=∀ i∈I,∃ a,V'.lo i<=a/\a<V'.e i/\F.val V' i a=y
def JB(w:World)(J:Nat)(jr ja yv:Value): Prop:=∃ st:Int,Blk w J 281 [jr,ja,.int .i64 st,yv]
def Jjx(F:Fix)(V':Lev)(I:List Nat): List V:=I.flatMap λi=>(List.range (V'.e i-V'.lo i)).map λa=>F.val V' i (V'.lo i+a)
theorem Xjh{F:Fix}{V':Lev}(hi:i∈I)(h1:V'.lo i<=a)(h2:a<V'.e i): F.val V' i a∈Jjx F V' I:=by
 refine List.mem_flatMap.2 ⟨i,hi,List.mem_map.2 ⟨a-V'.lo i,List.mem_range.2 om,?_⟩⟩;congr 1;omega
theorem Qwd{F:Fix}{V':Lev}: ∀ {I:List Nat},(∀ i∈I,V'.e i<=1000000)->(Jjx F V' I).length<=I.length*1000000
 | [],_=>Nat.le_refl _
 | i::I,h=>by
  have ih:=Qwd (F:=F) (V':=V') (I:=I) (λj hj=>h j (List.mem_cons_of_mem _ hj));have h1:=h i (mC ..);simp only [Jjx,List.flatMap_cons,List.length_append,List.length_map,List.length_range,List.length_cons]at ih ⊢;omega
theorem Qrm{a b c:V}(h1:cmpV a b<=0)(h2:cmpV b c<=0): cmpV a c<=0:=cmp_V.trans a b c h1 h2
theorem Qbf(k n:Nat): (k:Int).tmod (n:Int)=((k % n:Nat):Int):=by rw [Int.tmod_eq_emod_of_nonneg om];rfl
open Go.RowKit Pl Go.Wk
variable {J b c i j k n r s:Nat}{w w' w'':World}
theorem _root_.Go.Wk.GrN.newBy{N:Nat->Prop}(h:GrN N w w')(hg:w'.grownBy w'' (some b))(hb:w.heap.size<=b): GrN N w w'' :=
 ⟨hg.os.trans h.os,hg.tape.trans h.tape,hg.output.trans h.output,Nat.le_trans h.size hg.size,λk o hn=>(hg.block k (nM o h.size) (λe=>by injection e with e;omega)).trans (h.block k o hn)⟩
theorem Jtb{α:Type}{l:List α}(h:l.Nodup)(hi:i<l.length)(hj:j<l.length)(e:l[i]=l[j]): i=j:=by
 have o:=List.pairwise_iff_getElem.1 h;rcases Nat.lt_trichotomy i j with h1|h1|h1
 .exact absurd e (o i j hi hj h1)
 .exact h1
 .exact absurd e.symm (o j i hj hi h1)
theorem Qhr(h1:1<=s)(h2:s<n)(h3:s<=k): (k-s) % n≠k % n:=by
 intro e;have C:(k-s+s) % n=(k-s) % n:=by rw [Nat.sub_add_cancel h3];exact e.symm
 have o:((k-s) % n+s) % n=(k-s) % n:=by rw [Nat.mod_add_mod];exact C
 generalize hx:(k-s) % n=x at *
 have u:x<n:=by rw [<-hx];exact Nat.mod_lt _ om
 rcases Nat.lt_or_ge (x+s) n with h6|h6
 .rw [Nat.mod_eq_of_lt h6]at o;omega
 .rw [Nat.mod_eq_sub_mod h6,Nat.mod_eq_of_lt om]at o;omega
theorem Qhs(hr:r<n)(hk:n<=k): ∃ s,1<=s/\s<=n/\(k-s) % n=r:=by
 have G:k % n<n:=Nat.mod_lt _ om;have u:=Nat.div_add_mod k n;by_cases h:r<k % n
 .refine ⟨k % n-r,om,om,?_⟩;have:k-(k % n-r)=n*(k / n)+r:=om
  rw [this,Nat.mul_add_mod,Nat.mod_eq_of_lt hr]
 .refine ⟨k % n+n-r,om,om,?_⟩;have C:1<=k / n:=(Nat.one_le_div_iff om).2 hk;obtain ⟨q,o⟩:∃ q,k / n=q+1:=⟨k / n-1,om⟩;rw [o,Nat.mul_succ]at u;have:k-(k % n+n-r)=n*q+r:=om
  rw [this,Nat.mul_add_mod,Nat.mod_eq_of_lt hr]
theorem Jtp{F:Fix}{V':Lev}{I:List Nat}{p:Nat->Nat}{jr ja yv:Value}{B:Option Addr}(hO:OnS F V' I)(hne:0<I.length)(hnd:I.Nodup)(hIts:Its F V' I w p)(hJ:JB w J jr ja yv)(hJG:∀ i∈I,F.G i≠J)(hT:∀ i∈I,Off (NG F I J) w (λu=>TriA u (F.A i) (F.d i) (F.rs i)))(hB:Off (NG F I J) w (λu=>Rd u 1 B I.length (Jqt F I)))(hp:∀ i∈I,V'.lo i<=p i/\p i<V'.e i)(hK:∀ i∈I,∀ a,V'.lo i<=a->a<p i->cmpV (F.val V' i a) (F.val V' (I.getD 0 0) (p (I.getD 0 0)))<0):
  Ret Tryz.prog 217 [.pointer (some ⟨J,0,none⟩),.slice B I.length c] w λu w'=>GrN (NG F I J) w w'/\JB w' J jr ja yv/\∃ p' t,u=.bool t/\Its F V' I w' p'/\(∀ i∈I,V'.lo i<=p' i/\p' i<=V'.e i) /\
   (t=true->∃ x,(∀ i∈I,p' i<V'.e i/\F.val V' i (p' i)=x)/\cmpV (F.val V' (I.getD 0 0) (p (I.getD 0 0))) x<=0/\∀ y,Cmn F V' I y->cmpV (F.val V' (I.getD 0 0) (p (I.getD 0 0))) y<=0->cmpV x y<=0) /\
   (t=false->∀ y,Cmn F V' I y->¬ cmpV (F.val V' (I.getD 0 0) (p (I.getD 0 0))) y<=0):=by
 have ab:I.getD 0 0∈I:=getD_mem' 0 I hne;obtain ⟨K0,b4⟩:∃ K0,K0=F.val V' (I.getD 0 0) (p (I.getD 0 0)):=⟨_,rfl⟩;rw [<-b4]at hK ⊢;have cn:=hO.len;have aq:∀ i∈I,F.G i<w.heap.size:=λi hi=>by obtain ⟨st,C⟩:=hIts i hi;exact C.lt
 have bp:J<w.heap.size:=by obtain ⟨st,C⟩:=hJ;exact C.lt
 refine Jz Tryz.func217 Tryz.ntmps217 rfl kr rfl ?_;refine ρ ?_;refine ix 0 hB.here hne ?_;refine ρ ?_;refine ld (hB.here.cell (Jqs hne)) ?_;refine ρ ?_;obtain ⟨cv,bt⟩:=hIts _ ab;have aj:=hO.lev _ ab;have b1:=hp _ ab;have c5:=hO.rng _ ab;refine cl (Jgq bt (hT _ ab).here aj.2.1 aj.2.2 (λ_=>c5.1)) ?_;rintro u w1 ⟨be,v,rfl,hv⟩;have c4:=hv ⟨aj.1,b1.2⟩;have c3:v=K0:=by rw [c4,b4];rfl
 subst c3;rw [decide_eq_true (show 0<V'.L (I.getD 0 0)/\p (I.getD 0 0)<V'.e (I.getD 0 0) from ⟨aj.1,b1.2⟩)];refine ρ ?_;refine alc (cs:=V0.cells) Ur ?_;intro w2 bk bd b2 bv;refine ρ ?_;refine stb (cs':=v.cells) bv ?_ (V.one _);intro w3 au ce bc;have am:Ext w1 w3:=bc w1 bd b2;have a6:=be.trans am;have bj:w.heap.size<=bk:=nL be.size b2;refine ρ ?_;refine Jqf (fun (same k:Nat) (key:V) (p:Nat->Nat)=>[(0,.pointer (some ⟨J,0,none⟩)),(1,.slice B I.length c),(5,.pointer (some ⟨bk,0,none⟩)),(7,.int .i64 (same:Int)),(8,.int .i64 (k:Int))])
  (λsame k key p w'=>GrN (NG F I J) w w'/\JB w' J jr ja yv/\Its F V' I w' p/\Blk w' bk 47 key.cells/\(∀ i∈I,V'.lo i<=p i/\p i<V'.e i)/\(∀ i∈I,∀ a,V'.lo i<=a->a<p i->cmpV (F.val V' i a) key<0)/\cmpV v key<=0/\(∀ y,Cmn F V' I y->cmpV v y<=0->cmpV key y<=0) /\
   1<=same/\same<=I.length/\same<=k/\k+(gtN (Jjx F V' I) key*33+(I.length-same))<=2000000000/\(∀ s,1<=s->s<=same->F.val V' (I.getD ((k-s) % I.length) 0) (p (I.getD ((k-s) % I.length) 0))=key)) (λsame k key p=>gtN (Jjx F V' I) key*33+(I.length-same)) 1 1 v p sB
  ⟨GrN.ext a6,?_,λi hi=>?_,au,hp,hK,by rw [Xe];omega,λy _ h'=>h',Nat.le_refl _,hne,Nat.le_refl _,?_,λs C h2=>?_⟩ ?_
 .obtain ⟨st,hJ⟩:=hJ;exact ⟨st,hJ.ext a6⟩
 .obtain ⟨st,hI⟩:=hIts i hi;exact ⟨st,hI.ext a6⟩
 .have C:=Qnb (Jjx F V' I) v;have h2:=Qwd (F:=F) (V':=V') (I:=I) (λi hi=>(hO.rng i hi).2);omega
 .have:s=1:=om
  subst this;rw [Nat.sub_self,Nat.zero_mod];exact b4.symm
 clear au ce bc bv am a6 bd b2 hJ hIts hp hK bt b1;rintro same k key p w4 ⟨ak,⟨sj,br⟩,a4,ar,a2,b3,ax,a8,cy,cx,cw,d4,bf⟩;refine ρ ?_;refine ci (λC=>?_) (λC=>?_)
 .have d1:same<I.length:=by have:=oT C;omega
  clear C;have c1:=hB w4 ak;refine ρ ?_;refine rem (show ((I.length:Nat):Int)≠0 by omega) ?_;rw [Qbf];have lr:k % I.length<I.length:=Nat.mod_lt _ hne;refine ρ ?_;refine ix (k % I.length) c1 lr ?_;refine ρ ?_;refine ld (c1.cell (Jqs lr)) ?_;refine ρ ?_;obtain ⟨i,hi⟩:∃ i,i=I.getD (k % I.length) 0:=⟨_,rfl⟩;rw [<-hi];have o:i∈I:=by rw [hi];exact getD_mem' 0 I lr
  refine lds (cs:=key.cells) (λj u hu=>ar.at hu) ?_;refine ρ ?_;obtain ⟨cr,ch⟩:=a4 i o;have a3:=hO.lev i o;have ay:=hO.rng i o;have c9:=a2 i o;have bo:Off (λk=>k=F.G i) w4 (λu=>TriA u (F.A i) (F.d i) (F.rs i)):=((hT i o).gr ak).mono λj _ ej=>.inr ⟨i,o,ej⟩;refine cl (Qmb (v:=key) ch bo a3.1 a3.2.1 a3.2.2 c9.2 ay.1 ay.2 (λa b C h2 h3=>hO.srt i o a b om h2 h3)) ?_;rintro u w5 ⟨ae,q,c2,rfl,d0,cz,c8,c7,bs⟩;have cj:∀ j∈I,j≠i->¬ (λk=>k=F.G i) (F.G j):=λj hj cb e=>cb (hO.inj j hj i o e);have bh:GrN (NG F I J) w4 w5:=ae.mono λj _ ej=>.inr ⟨i,o,ej⟩;have ah:Its F V' I w5 (upd p i q):=λj hj=>by
   by_cases e:j=i
   .subst e;rw [Jh];exact ⟨c2,bs⟩
   .rw [Jc _ _ e];obtain ⟨st,a5⟩:=a4 j hj;exact ⟨st,Jv a5 ae (cj j hj e)⟩
  have bq:=Jv br ae (λe=>hJG i o e.symm);have bm:¬ (λk=>k=F.G i) bk:=λe=>by have C:=aq i o;omega
  have bu:=Jv ar ae bm;have ad:=ak.trans bh;have O:∀ a,V'.lo i<=a->a<q->cmpV (F.val V' i a) key<0:=λa C h2=>by
   by_cases h3:a<p i
   .exact b3 i o a C h3
   .exact c8 a om h2
  refine ρ ?_;refine ci (λC=>?_) (λC=>?_)
  .have aa:¬ q<V'.e i:=by simpa using C
   refine ρ ?_;refine Jq ⟨ad,⟨sj,bq⟩,upd p i q,false,rfl,ah,λj hj=>?_,λe=>(by cases e),λ_ y hy aw=>?_⟩
   .by_cases e:j=i
    .subst e;rw [Jh];omega
    .rw [Jc _ _ e];have:=a2 j hj;omega
   .obtain ⟨a,h2,h3,h4⟩:=hy i o;have h5:=a8 y hy aw;have h6:=O a h2 om;rw [h4]at h6;have:=cmp_V.anti key y;omega
  have aa:q<V'.e i:=by simpa using C
  have c6:=c7 aa;clear C;refine ρ ?_;refine cl (Jgq bs (bo w5 ae) a3.2.1 a3.2.2 (λ_=>ay.1)) ?_;rintro u w6 ⟨av,nx,rfl,ca⟩;have a1:nx=F.val V' i q:=ca ⟨a3.1,aa⟩;rw [decide_eq_true (show 0<V'.L i/\q<V'.e i from ⟨a3.1,aa⟩)];refine ρ ?_;refine alc (cs:=V0.cells) Ur ?_;intro w7 b7 bb bn c0;refine ρ ?_;refine stb (cs':=nx.cells) c0 ?_ (V.one _);intro w8 bz cd ba;have a7:Ext w5 w8:=av.trans (ba w6 bb bn);have ag:=bq.ext a7;refine ρ ?_;refine ld (ag.at (i:=2) rfl) ?_;refine ρ ?_;refine sto (p:=⟨J,2,none⟩) (ag.cell 2) (ag.frozen _) ?_;have cg:=ag.set 2 (.int .i64 (IntKind.i64.wrap (sj+1)));have cc:GrN (NG F I J) w8 (w8.setCell ⟨J,2,none⟩ (.int .i64 (IntKind.i64.wrap (sj+1)))):=GrN.set _ (.inl rfl);have co:w.heap.size<=b7:=nL ad.size (nL av.size bn);have bw:Blk (w8.setCell ⟨J,2,none⟩ (.int .i64 (IntKind.i64.wrap (sj+1)))) b7 47 nx.cells:=bz.far (by simp only;omega) _;have ai:Blk (w8.setCell ⟨J,2,none⟩ (.int .i64 (IntKind.i64.wrap (sj+1)))) bk 47 key.cells:=(bu.ext a7).far (by simp only;omega) _
  have b5:Its F V' I (w8.setCell ⟨J,2,none⟩ (.int .i64 (IntKind.i64.wrap (sj+1)))) (upd p i q):=λj hj=>by
   obtain ⟨st,a5⟩:=ah j hj;exact ⟨st,(a5.ext a7).far (hJG j hj) _⟩
  have ao:=(ad.trans (GrN.ext a7)).trans cc;clear cd ba bz c0 bb av ag;generalize w8.setCell ⟨J,2,none⟩ (.int .i64 (IntKind.i64.wrap (sj+1)))=w9 at *
  have bg:∀ j∈I,V'.lo j<=upd p i q j/\upd p i q j<V'.e j:=λj hj=>by
   by_cases e:j=i
   .subst e;rw [Jh];have:=a2 j hj;omega
   .rw [Jc _ _ e];exact a2 j hj
  refine ρ ?_;refine lds (cs:=nx.cells) (λj u hu=>bw.at hu) ?_;refine ρ ?_;refine lds (cs:=key.cells) (λj u hu=>ai.at hu) ?_;refine ρ ?_;refine cl (Jqg nx key _) ?_;rintro u b9 ⟨rfl,Z⟩;refine ρ ?_;have ap:JB b9 J jr ja yv:=⟨_,cg.ext Z⟩;have a9:Its F V' I b9 (upd p i q):=λj hj=>by
   obtain ⟨st,a5⟩:=b5 j hj;exact ⟨st,a5.ext Z⟩
  refine ci (λC=>?_) (λC=>?_)
  .have bi:nx=key:=cmp_V.zero _ _ (Xd C);refine ρ ?_;refine Gg (same+1) (k+1) key (upd p i q) sO ⟨ao.trans (GrN.ext Z),ap,a9,ai.ext Z,bg,λj hj a h2 h3=>?_,ax,a8,om,om,om,om,λs h2 h3=>?_⟩ om
   .by_cases e:j=i
    .subst e;rw [Jh]at h3;exact O a h2 h3
    .rw [Jc _ _ e]at h3;exact b3 j hj a h2 h3
   .by_cases e:s=1
    .subst e;rw [Nat.add_sub_cancel,<-hi,Jh,<-a1,bi]
    .have h4:k+1-s=k-(s-1):=om
     rw [h4];have h5:(k-(s-1)) % I.length<I.length:=Nat.mod_lt _ hne;have h6:I.getD ((k-(s-1)) % I.length) 0≠i:=λe2=>by
      rw [hi,Jr 0 I h5,Jr 0 I lr]at e2;have e3:=Jtb hnd h5 lr e2;exact Qhr (n:=I.length) (k:=k) (s:=s-1) om om om e3
     rw [Jc _ _ h6];exact bf (s-1) om om
  .have cm:=Xf C;have ac:cmpV key nx<0:=by
    have h2:=cmp_V.anti nx key;have h3:¬ cmpV nx key<0:=by rw [a1];exact c6
    omega
   have d2:=Qqj (U:=Jjx F V' I) (by rw [a1];exact Xjh o om aa) ac;have b8:=ai.ext Z;refine ρ ?_;refine lds (cs:=nx.cells) (λj u hu=>(bw.ext Z).at hu) ?_;refine ρ ?_;refine stb (cs':=nx.cells) b8 ?_ (V.one _);intro cq b6 af ck;have an:∀ {g:Nat},g<w.heap.size->some g≠some bk:=fun {g} hg e=>by injection e with e;omega
   refine ρ ?_;refine Gg 1 (k+1) nx (upd p i q) sO ⟨(ao.trans (GrN.ext Z)).newBy af bj,?_,λj hj=>?_,b6,bg,λj hj a h2 h3=>?_,?_,λy hy aw=>?_,Nat.le_refl _,hne,om,om,λs h2 h3=>?_⟩ om
   .obtain ⟨st,hJ⟩:=ap;exact ⟨st,hJ.grown af (an bp)⟩
   .obtain ⟨st,a5⟩:=a9 j hj;exact ⟨st,a5.grown af (an (aq j hj))⟩
   .by_cases e:j=i
    .subst e;rw [Jh]at h3;exact cmp_V.lt_trans (O a h2 h3) ac
    .rw [Jc _ _ e]at h3;exact cmp_V.lt_trans (b3 j hj a h2 h3) ac
   .exact Qrm ax om
   .obtain ⟨a,h2,h3,h4⟩:=hy i o;have h5:=a8 y hy aw;have h6:q<=a:=by
     rcases Nat.lt_or_ge a q with h7|h7
     .have h8:=O a h2 h7;rw [h4]at h8;have:=cmp_V.anti key y;omega
     .exact h7
    rw [a1,<-h4];by_cases e:a=q
    .subst e;rw [Xe];omega
    .have:=hO.srt i o q a om om h3;omega
   .have:s=1:=om
    subst this;rw [Nat.add_sub_cancel,<-hi,Jh];exact a1.symm
 .have d3:same=I.length:=by have:=oF C;omega
  refine ρ ?_;refine Jq ⟨ak,⟨sj,br⟩,p,true,rfl,a4,λi hi=>⟨(a2 i hi).1,Nat.le_of_lt (a2 i hi).2⟩,λ_=>⟨key,λi hi=>⟨(a2 i hi).2,?_⟩,ax,a8⟩,λe=>by cases e⟩;obtain ⟨r,hr,er⟩:=List.getElem_of_mem hi;obtain ⟨s,C,h2,h3⟩:=Qhs hr (show I.length<=k by omega);have:=bf s C om;rw [h3,Jr 0 I hr,er]at this;exact this
end Go.Proofs.YtebcagekopgdhaaGreatDoor
namespace Go.Proofs.YtebcagekopgdhaaGreatDoor
open Pl
variable {vs:List Nat}{d k l n u v:Nat}{q y z z':Row}
def Xx(vs:List Nat): Prop:=vs.Pairwise (· < ·)
def lv(vs:List Nat)(v:Nat): Nat:=(vs.filter λu=>decide (u<v)).length
theorem Jtt(vs:List Nat)(v:Nat): lv vs v<=vs.length:=List.length_filter_le _ _
theorem Jkk(vs:List Nat): lv vs 0=0:=by simp [lv]
theorem Jtw(h:∀ u∈vs,u<n): lv vs n=vs.length:=by
 unfold lv;rw [List.filter_eq_self.2 (λu o=>by simpa using h u o)]
theorem Jkl(u:Nat)(vs:List Nat)(v:Nat): lv (u::vs) v=(if u<v then 1 else 0)+lv vs v:=by
 unfold lv;by_cases h:u<v
 .rw [List.filter_cons_of_pos (by simpa using h),if_pos h,List.length_cons];omega
 .rw [List.filter_cons_of_neg (by simpa using h),if_neg h];omega
theorem Jfs(h:∀ u∈vs,v<=u): lv vs v=0:=by
 unfold lv;rw [List.filter_eq_nil_iff.2 (λu o=>by have:=h u o;simp;omega)];rfl
theorem Jjl(h:v ∉ vs): lv vs (v+1)=lv vs v:=by
 induction vs with
 | nil=>rfl
 | cons u vs ih=>
  rw [Jkl,Jkl,ih (λo=>h (List.mem_cons_of_mem _ o))];have:u≠v:=λe=>h (by rw [e];exact mC ..);by_cases h1:u<v
  .rw [if_pos h1,if_pos om]
  .rw [if_neg h1,if_neg om]
theorem Vs(ha:Xx vs)(h:v∈vs): lv vs (v+1)=lv vs v+1/\lv vs v<vs.length/\vs.getD (lv vs v) 0=v:=by
 induction vs with
 | nil=>cases h
 | cons u vs ih=>
  obtain ⟨C,U⟩:=List.pairwise_cons.1 ha;rw [Jkl,Jkl];rcases List.mem_cons.1 h with rfl|h'
  .have e1:lv vs v=0:=Jfs λx o=>Nat.le_of_lt (C x o);have Z:lv vs (v+1)=0:=Jfs λx o=>C x o;rw [if_pos (show v<v+1 by omega),if_neg (show ¬ v<v by omega),e1,Z];exact ⟨rfl,by rw [List.length_cons];omega,rfl⟩
  .have O:=C v h';obtain ⟨J,i2,G⟩:=ih U h';rw [if_pos (show u<v+1 by omega),if_pos O,J];refine ⟨om,by rw [List.length_cons];omega,?_⟩;rw [Nat.add_comm 1,List.getD_cons_succ];exact G
theorem Qlf(ha:Xx vs): vs.take (lv vs v)=vs.filter λu=>decide (u<v):=by
 induction vs with
 | nil=>rfl
 | cons u vs ih=>
  obtain ⟨C,G⟩:=List.pairwise_cons.1 ha;by_cases h:u<v
  .rw [Jkl,if_pos h,Nat.add_comm 1,List.take_succ_cons,ih G,List.filter_cons_of_pos (by simpa using h)]
  .have e:lv (u::vs) v=0:=Jfs λx o=>by
    rcases List.mem_cons.1 o with rfl|h'
    .omega
    .have:=C x h';omega
   rw [e,List.take_zero,List.filter_eq_nil_iff.2];intro x o;have:v<=x:=by
    rcases List.mem_cons.1 o with rfl|h'
    .omega
    .have:=C x h';omega
   simp;omega
theorem Jnq(h:z.take v=z'.take v)(hu:u<v): z.getD u V0=z'.getD u V0:=by
 have:=congrArg (λl=>l.getD u V0) h;simp only [List.getD,List.getElem?_take,if_pos hu]at this;exact this
theorem Jff(ha:Xx vs)(h:z.take v=z'.take v): (pmR vs z).take (lv vs v)=(pmR vs z').take (lv vs v):=by
 unfold pmR;rw [<-List.map_take,<-List.map_take,Qlf ha];exact List.map_congr_left λu o=>Jnq h (by simpa using (List.mem_filter.1 o).2)
theorem Jsn(h:k<vs.length): (pmR vs z).getD k V0=z.getD (vs.getD k 0) V0:=Jvx h
theorem Jsl(ha:Xx vs)(h:v∈vs): (pmR vs z).take (lv vs v+1)=(pmR vs z).take (lv vs v)++[z.getD v V0]:=by
 obtain ⟨_,o,u⟩:=Vs ha h;rw [Qb V0 (by rw [Qr];exact o),Jsn o,u]
theorem Qzb: ∀ (v:Nat) (z z':Row),z.take v=z'.take v->v<z.length->v<z'.length->cmpV (z.getD v V0) (z'.getD v V0)<0->Jw z z' []<0
 | 0,a::z,b::z',_,_,_,h=>by
  simp only [List.getD_cons_zero]at h;simp only [Jw];rw [if_neg om];exact h
 | v+1,a::z,b::z',h,h1,h2,h3=>by
  simp only [List.take_succ_cons,List.cons.injEq]at h;simp only [Jw];rw [if_pos (by rw [h.1];exact Xe b)];exact Qzb v z z' h.2 (by simpa using h1) (by simpa using h2) (by simpa using h3)
 | _,[],_,_,h,_,_=>by simp at h
 | _,_::_,[],_,_,h,_=>by simp at h
def Ze(n m:Nat)(vars:Nat->List Nat)(rs:Nat->List Row)(z:Row): Prop:=z.length=n/\∀ i,i<m->pmR (vars i) z∈rs i
theorem Qbj(h1:q.length=l+1)(h2:q.take l=y): q=y++[q.getD l V0]:=by
 have:=Qb V0 (l:=q) (k:=l) om;rw [List.take_of_length_le om,h2]at this;exact this
theorem Qfv{rs:List Row}(h:Srt [] rs)(hl:∀ r∈rs,r.length=d)(hld:l<=d)(hq:q∈pfx rs l): q.length=l:=by
 obtain ⟨r,o,e⟩:=(Jqw h).1 hq;rw [<-e,List.length_take,hl r o];omega
theorem Qcj(x:V): (z.set v x).take v=z.take v:=List.take_set_of_le (Nat.le_refl _)
theorem Qcl(x:V)(h:v<z.length): (z.set v x).getD v V0=x:=by rw [Jxv V0 _ _ _ _ h,if_pos rfl]
theorem Jnp(h:z.take v=z'.take v)(hu:u<=v): z.take u=z'.take u:=by
 have:=congrArg (List.take u) h;rwa [List.take_take,List.take_take,Nat.min_eq_left hu]at this
theorem Qbh(h:z.take v=z'.take v)(h1:v<z.length)(h2:v<z'.length)(h3:z.getD v V0=z'.getD v V0): z.take (v+1)=z'.take (v+1):=by
 rw [Qb V0 h1,Qb V0 h2,h,h3]
open Go.RowKit Pl Go.Wk
attribute [local irreducible] WC WL QX WD WDB WP WN
variable {L' e' i k v:Nat}{f' h' p':Nat->Nat}
structure JC where
 F: Fix
 n:Nat
 m:Nat
 vars:Nat->List Nat
 J:Nat
 Ra:Option Addr
 base:Nat
 ja:Value
 yv:Value
 vat:Nat->Value
 N:Nat->Prop
def JC.I(c:JC)(v:Nat): List Nat:=(List.range c.m).filter λi=>decide (v∈c.vars i)
theorem JC.mem_I{c:JC}: i∈c.I v↔i<c.m/\v∈c.vars i:=by simp [JC.I]
theorem JC.nodup_I(c:JC)(v:Nat): (c.I v).Nodup:=List.Nodup.sublist List.filter_sublist List.nodup_range
theorem JC.len_I(c:JC)(v:Nat): (c.I v).length<=c.m:=by have:=List.length_filter_le (λi=>decide (v∈c.vars i)) (List.range c.m);rw [List.length_range]at this;exact this
def JC.rowv(c:JC): Value:=.slice c.Ra c.n c.n
abbrev JC.Ans(c:JC)(z:Row): Prop:=Ze c.n c.m c.vars c.F.rs z
def JC.NI(c:JC)(k:Nat): Prop:=k=c.J∨(∃ i,i<c.m/\k=c.F.G i)∨c.rowv.ownBlock=some k
structure JOk(c:JC): Prop where
 n32:c.n<=32
 m32:c.m<=32
 asc:∀ i,i<c.m->Xx (c.vars i)
 lt:∀ i,i<c.m->∀ u∈c.vars i,u<c.n
 d:∀ i,i<c.m->c.F.d i=(c.vars i).length
 d32:∀ i,i<c.m->c.F.d i<=32
 ne:∀ i,i<c.m->c.F.rs i≠[]
 srt:∀ i,i<c.m->Lt [] (c.F.rs i)
 len:∀ i,i<c.m->∀ r∈c.F.rs i,r.length=c.F.d i
 big:∀ i,i<c.m->(c.F.rs i).length<=65536
 inj:∀ i j,i<c.m->j<c.m->c.F.G i=c.F.G j->i=j
 gj:∀ i,i<c.m->c.F.G i≠c.J
 cov:∀ v,v<c.n->∃ i,i<c.m/\v∈c.vars i
 sub:∀ k,c.NI k->c.N k
structure JEnv(c:JC)(w:World): Prop where
 tri:∀ i,i<c.m->Off c.N w (λu=>TriA u (c.F.A i) (c.F.d i) (c.F.rs i))
 at_:∃ B cc,c.ja=.slice B c.n cc/\Off c.N w (λu=>Rd u 1 B c.n ((List.range c.n).map c.vat))
 lists:∀ v,v<c.n->∃ B cc,c.vat v=.slice B (c.I v).length cc/\Off c.N w (λu=>Rd u 1 B (c.I v).length (Jqt c.F (c.I v)))
theorem JEnv.gr{c:JC}{w w':World}(h:JEnv c w)(hg:GrN c.N w w'): JEnv c w':=by
 refine ⟨λi hi=>(h.tri i hi).gr hg,?_,λv C=>?_⟩
 .obtain ⟨B,u,e,o⟩:=h.at_;exact ⟨B,u,e,o.gr hg⟩
 .obtain ⟨B,u,e,o⟩:=h.lists v C;exact ⟨B,u,e,o.gr hg⟩
def AllIt(c:JC)(w:World)(L p e:Nat->Nat)(f h:Nat->Nat->Nat): Prop:=∀ i,i<c.m->∃ st,ItB w (c.F.G i) (c.F.A i) (c.F.d i) (L i) (p i) (e i) (f i) (h i) st
structure YC(c:JC)(Y:List Row->World->Prop)(NY:Nat->Prop): Prop where
 sub:∀ k,NY k->c.N k
 off:∀ k,NY k->¬ c.NI k
 keep:∀ l w w',Y l w->GrN c.NI w w'->Y l w'
 call:∃ fid first cap,c.yv=.func (.func fid) first cap/\∀ l w vr z,Y l w->RowV w vr z->l.length<65536->Ret Tryz.prog fid (first.toList++[vr]++cap.toList) w λr w'=>r=.bool true/\Y (l++[z]) w'/\GrN NY w w'
structure Cfg(c:JC)(Y:List Row->World->Prop)(w:World)(z:Row)(L p e:Nat->Nat)(f h:Nat->Nat->Nat)(l:List Row): Prop where
 env:JEnv c w
 its:AllIt c w L p e f h
 row:Zs w c.base c.rowv z
 zl:z.length=c.n
 jb:JB w c.J c.rowv c.ja c.yv
 y:Y l w
section
variable {c:JC} {Y:List Row->World->Prop} {NY:Nat->Prop} {w w':World} {z:Row} {L p e:Nat->Nat} {f h:Nat->Nat->Nat} {l:List Row}
theorem Cfg.ext(H:Cfg c Y w z L p e f h l)(hY:YC c Y NY)(hx:Ext w w'): Cfg c Y w' z L p e f h l :=
 ⟨H.env.gr (GrN.ext hx),λi hi=>by obtain ⟨st,o⟩:=H.its i hi;exact ⟨st,o.ext hx⟩,Jk H.row hx,H.zl,by obtain ⟨st,o⟩:=H.jb;exact ⟨st,o.ext hx⟩,hY.keep _ _ _ H.y (GrN.ext hx)⟩
theorem Cfg.rowG(H:Cfg c Y w z L p e f h l)(hi:i<c.m)(hk:c.rowv.ownBlock=some k): k≠c.F.G i:=λu=>by
 obtain ⟨st,o⟩:=H.its i hi;exact o.ne_own H.row rfl (by rw [hk,u])
theorem Cfg.rowJ(H:Cfg c Y w z L p e f h l)(hk:c.rowv.ownBlock=some k): k≠c.J:=λu=>by
 obtain ⟨st,o⟩:=H.jb;exact o.ne_own H.row rfl (by rw [hk,u])
theorem Cfg.it(H:Cfg c Y w z L p e f h l)(hok:JOk c)(hY:YC c Y NY)(hi:i<c.m)(hg:GrN (λk=>k=c.F.G i) w w'){p':Nat}{st:Int}(hI:ItB w' (c.F.G i) (c.F.A i) (c.F.d i) L' p' e' f' h' st):
  Cfg c Y w' z (upd L i L') (upd p i p') (upd e i e') (upd f i f') (upd h i h') l:=by
 have o:GrN c.NI w w':=hg.mono λk _ u=>.inr (.inl ⟨i,hi,u⟩);refine ⟨H.env.gr (o.mono λk _ O=>hok.sub k O),λj J=>?_,Js H.row hg (λg U=>H.rowG hi U),H.zl,?_,hY.keep _ _ _ H.y o⟩
 .by_cases ej:j=i
  .subst ej;rw [Jh,Jh,Jh,Jh,Jh];exact ⟨st,hI⟩
  .rw [Jc _ _ ej,Jc _ _ ej,Jc _ _ ej,Jc _ _ ej,Jc _ _ ej];obtain ⟨st,C⟩:=H.its j J;exact ⟨st,Jv C hg (λu=>ej (hok.inj j i J hi u))⟩
 .obtain ⟨st,C⟩:=H.jb;exact ⟨st,Jv C hg (λu=>hok.gj i hi u.symm)⟩
theorem Cfg.mt(H:Cfg c Y w z L p e f h l)(hok:JOk c)(hY:YC c Y NY)(hg:GrN (NG c.F (c.I v) c.J) w w')(hJ:JB w' c.J c.rowv c.ja c.yv)(hI:Its c.F ⟨L,λ_=>0,e,f,h⟩ (c.I v) w' p'):
  Cfg c Y w' z L (λi=>if i∈c.I v then p' i else p i) e f h l:=by
 have u:GrN c.NI w w':=hg.mono λk _ o=>by
  rcases o with o|⟨i,hi,o⟩
  .exact .inl o
  .exact .inr (.inl ⟨i,(JC.mem_I.1 hi).1,o⟩)
 refine ⟨H.env.gr (u.mono λk _ O=>hok.sub k O),λj C=>?_,Js H.row hg (λg G=>?_),H.zl,hJ,hY.keep _ _ _ H.y u⟩
 .by_cases ej:j∈c.I v
  .simp only [if_pos ej];exact hI j ej
  .simp only [if_neg ej];obtain ⟨st,U⟩:=H.its j C;refine ⟨st,Jv U hg ?_⟩;rintro (o|⟨i,hi,o⟩)
   .exact hok.gj j C o
   .have:=hok.inj j i C (JC.mem_I.1 hi).1 o;subst this;exact ej hi
 .rintro (o|⟨i,hi,o⟩)
  .exact H.rowJ G o
  .exact H.rowG (JC.mem_I.1 hi).1 G o
end
end Go.Proofs.YtebcagekopgdhaaGreatDoor
namespace Go.Wk
open Go.RowKit
open Go.Maps (Keyed)
variable {kl:Lit}{f:Lit->Option Value}{b k m:Nat}{x y:Operand}{kd:TK}{e t:TypeId}{key u v z:Value}
abbrev DV:= DataW Value
def RT(v:Value): Option (DV×List MemPlace):=some (.held v,[])
theorem Qwq{ps:List MemPlace}(h:RT v=some (.held u,ps)): v=u:=by
 simp only [RT,Option.some.injEq,Prod.mk.injEq,DataW.held.injEq]at h;exact h.1
def MapS(P:Program)(k:TypeId)(w:World)(b n:Nat)(f:Lit->Option Value): Prop :=
 ∃ D:DV,w.ownsMap P k RT b n D/\(∀ kl,Maps.has D kl=(f kl).isSome)/\∀ kl zd,D.atKey kl zd=(match f kl with|some v=>.held v|none=>zd)
def upL(f:Lit->Option Value)(kl:Lit)(x:Option Value): Lit->Option Value:=λz=>if z.sameKey kl=true then x else f z
section
variable {P:Program} {k:TypeId} {w w':World} {b n:Nat} {f:Lit->Option Value}
theorem MapS.lt(h:MapS P k w b n f): b<w.heap.size:=by obtain ⟨D,o,_⟩:=h;exact o.lt
theorem MapS.kept{row:Option Nat}(h:MapS P k w b n f)(hg:w.grownBy w' row)(hne:some b≠row): MapS P k w' b n f:=by
 obtain ⟨D,u,o⟩:=h;exact ⟨D,u.kept hg hne,o⟩
theorem MapS.gr{N:Nat->Prop}(h:MapS P k w b n f)(hg:GrN N w w')(hn:¬ N b): MapS P k w' b n f:=by
 obtain ⟨D,⟨es,o,C,J⟩,G⟩:=h;have u:b<w.heap.size:=by
  rcases Nat.lt_or_ge b w.heap.size with h'|h'
  .exact h'
  .rw [Array.getElem?_eq_none h']at C;cases C
 exact ⟨D,⟨es,o,(hg.block b u hn).trans C,J⟩,G⟩
theorem MapS.ext(h:MapS P k w b n f)(hx:Ext w w'): MapS P k w' b n f:=h.gr (N:=λ_=>False) (GrN.ext hx) (λe=>e)
theorem MapS.made(w:World)(P:Program)(k:TypeId): MapS P k (w.alloc (.map #[] 0)) w.heap.size 0 (λ_=>none) :=
 ⟨.map [],World.ownsMap_made w P k RT,λo=>rfl,λo u=>rfl⟩
theorem Gy(hk:WideAt.IsKeyLit kl)(x:Option Value): upL f kl x kl=x:=by unfold upL;rw [if_pos (WideAt.sameKey_self hk)]
theorem Yg{z:Lit}(h:z≠kl)(x:Option Value): upL f kl x z=f z:=by
 unfold upL;rw [if_neg (by rw [Maps.sameKey_ne h];simp)]
theorem MapS.look(h:MapS P k w b n f)(K:Keyed P k)(ht:P.underlying t=some (.map k e))(hz:(zeroValue e).run P w=.ok z w)(hkey:keyOf P k key=some kl):
  (Instr.lookup t (.map (some b)) key true).run P w=.ok (.tuple #[(f kl).getD z,.bool (f kl).isSome]) w/\(Instr.lookup t (.map (some b)) key false).run P w=.ok ((f kl).getD z) w:=by
 obtain ⟨D,C,O,J⟩:=h;have G:D.atKey kl (.held z)=.held ((f kl).getD z):=by rw [J];cases f kl<;>rfl
 constructor
 .obtain ⟨v,ps,u,o⟩:=C.look_ok K ht hz (zd:=.held z) (zp:=[]) rfl hkey;rw [G]at o;rw [u,Qwq o,O]
 .obtain ⟨v,ps,u,o⟩:=C.lookup K ht hz (zd:=.held z) (zp:=[]) rfl hkey;rw [G]at o;rw [u,Qwq o]
theorem MapS.put(h:MapS P k w b n f)(K:Keyed P k)(ht:P.underlying t=some (.map k e))(hn:n<maxLen)(hkey:keyOf P k key=some kl)(v:Value):
  ∃ w',(Instr.mapUpdate t (.map (some b)) key v).run P w=.ok () w'/\MapS P k w' b (n+1) (upL f kl (some v))/\w.grownBy w' (some b):=by
 obtain ⟨D,u,U,O⟩:=h;obtain ⟨w',C,G,J⟩:=u.update K ht hn hkey (val:=v) (d:=.held v) (ps:=[]) rfl;have o:=K.key hkey;refine ⟨w',C,⟨_,G,λx=>?_,λx Z=>?_⟩,J⟩
 .by_cases e:x=kl
  .subst e;rw [Gy o,Maps.has_put_same u.isMap o];rfl
  .rw [Yg e,Maps.has_put_other e,U]
 .by_cases e:x=kl
  .subst e;rw [Gy o,Maps.atKey_put_same u.isMap o]
  .rw [Yg e,Maps.atKey_put_other e,O]
theorem MapS.drop(h:MapS P k w b n f)(K:Keyed P k){t e:TypeId}(ht:P.underlying t=some (.map k e)){key:Value}{kl:Lit}(hkey:keyOf P k key=some kl)(ty:TypeId):
  ∃ w',(Builtin.delete_ #[t,k] ty #[.map (some b),key]).run P w=.ok (.tuple #[]) w'/\MapS P k w' b n (upL f kl none)/\w.grownBy w' (some b):=by
 obtain ⟨D,U,O,J⟩:=h;obtain ⟨w',u,C,G⟩:=U.drop K ht hkey ty;have o:=K.key hkey;refine ⟨w',u,⟨_,C,λx=>?_,λx Z=>?_⟩,G.grown⟩
 .by_cases e:x=kl
  .subst e;rw [Gy o,Maps.has_del_same];rfl
  .rw [Yg e,Maps.has_del_other e,O]
 .by_cases e:x=kl
  .subst e;rw [Gy o,Maps.atKey_del_same]
  .rw [Yg e,Maps.atKey_del_other e,J]
theorem MapS.len0(h:MapS P k w b n f)(ht:P.underlying t=some (.map k e))(K:Keyed P k)(ty:TypeId): ∃ m:Nat,(Builtin.len_ #[t] ty #[.map (some b)]).run P w=.ok (.int .i64 (m:Int)) w/\(m=0↔∀ kl,f kl=none):=by
 obtain ⟨D,C,u,G⟩:=h;refine ⟨Maps.size D,C.len ht ty,?_⟩;obtain ⟨es,rfl,_,o⟩:=C.entries K;constructor
 .intro h0 kl;have:es=[]:=List.eq_nil_of_length_eq_zero h0;subst this;have:=u kl;cases hf:f kl with
  | none=>rfl
  | some v=>rw [hf]at this;cases this
 .intro hn;cases es with
  | nil=>rfl
  | cons p es=>
   have:=u p.1;rw [hn p.1,Maps.has_eq,List.any_cons,WideAt.sameKey_self (o p (mC ..))]at this;cases this
theorem Jdm(hz:Qp P t=some z)(w:World): (zeroValue t).run P w=.ok z w:=by
 unfold Qp at hz;obtain ⟨i,u,o⟩:=Option.bind_eq_some_iff.1 hz;simp [zeroValue,typeInfo,u,o]
end
section
variable {N:Nat->Prop} {P:Program} {n:Nat} {al:AL} {w:World} {Q:Exit->Act->World->Prop} {ops:Array Oper} {rest:List Oper} {drest:List (Nat×Oper)}
variable {d ty:Nat} {pos:String} {aft:Array Edge} {tt:TT}
theorem mkm{t:Nat}(k:TypeId)(kk:∀ w1 b,Ext w w1->w.heap.size<=b->MapS P k w1 b 0 (λ_=>none)->WL P n ops Q rest ((d,.map (some b))::al) w1)(hd:Nat.blt d n=true:=by rfl):
  WL P n ops Q (⟨some d,.makeMap t none,ty,pos,aft,none⟩::rest) al w :=
 wop hd (λa o=>by
  show _=Result.ok (Next.value (.map (some w.heap.size))) (w.alloc (.map #[] 0));simp [execOp,run_makeMap]) (kk _ _ ((Ext.refl w).alloc _) (Nat.le_refl _) (MapS.made w P k))
theorem mlk[hT:Tab P tt]{t e:Nat}(K:Keyed P k)(hM:MapS P k w b m f)(hz:Qp P e=some z)(hkey:keyOf P k key=some kl)(kk:WL P n ops Q rest ((d,(f kl).getD z)::al) w)(ht:tk tt t=some kd:=by rfl)(hk:kd.desc=.map k e:=by rfl)(hx:ev al x=some (.map (some b)):=by rfl)(hy:ev al y=some key:=by rfl)(hd:Nat.blt d n=true:=by rfl):
  WL P n ops Q (⟨some d,.lookup t x y false,ty,pos,aft,none⟩::rest) al w :=
 wop hd (λa o=>by
  have:=(hM.look K (Vh hT.ok ht hk rfl) (Jdm hz w) hkey).2;simp [execOp,o.ev hx,o.ev hy,this]) kk
theorem mup[hT:Tab P tt]{t e:Nat}{z:Operand}(K:Keyed P k)(hM:MapS P k w b m f)(hm:m<maxLen)(hkey:keyOf P k key=some kl)(kk:∀ w1,MapS P k w1 b (m+1) (upL f kl (some v))->w.grownBy w1 (some b)->WL P n ops Q rest al w1)(ht:tk tt t=some kd:=by rfl)(hk:kd.desc=.map k e:=by rfl)(hx:ev al x=some (.map (some b)):=by rfl)(hy:ev al y=some key:=by rfl)(hv:ev al z=some v:=by rfl):
  WL P n ops Q (⟨none,.mapUpdate t x y z,ty,pos,aft,none⟩::rest) al w:=by
 obtain ⟨w',u,G,C⟩:=hM.put K (Vh hT.ok ht hk rfl) hm hkey v;exact Iy (λa o=>by simp [execOp,o.ev hx,o.ev hy,o.ev hv,u]) (kk w' G C)
theorem mln[hT:Tab P tt]{t e:Nat}(K:Keyed P k)(hM:MapS P k w b m f)(kk:∀ q:Nat,(q=0↔∀ kl,f kl=none)->WL P n ops Q rest ((d,.int .i64 (q:Int))::al) w)(ht:tk tt t=some kd:=by rfl)(hk:kd.desc=.map k e:=by rfl)(hx:ev al x=some (.map (some b)):=by rfl)(hd:Nat.blt d n=true:=by rfl):
  WL P n ops Q (⟨some d,.call { callee:=.builtin .len,args:=#[x],argTypes:=#[t] },ty,pos,aft,none⟩::rest) al w:=by
 obtain ⟨q,o,u⟩:=hM.len0 (Vh hT.ok ht hk rfl) K ty;exact wop hd (λa C=>by simp [execOp,resolve,invoke,builtin,C.ev hx,o]) (kk q u)
end
end Go.Wk
namespace Go.Wk
open Go.RowKit
variable {cs:List Value}{b d n ty:Nat}{α:Type}{v v' z:Value}
def Qa(base:Nat)(v:Value)(k:Nat): Prop:=k<base∨v.ownBlock=some k
def Qj(ps:List (List Value×α)): List Value:=ps.flatMap (·.1)
theorem Jgw{α:Type}{sz:Nat}: ∀ {ps:List (List Value×α)},(∀ p∈ps,p.1.length=sz)->(Qj ps).length=ps.length*sz
 | [],_=>by simp [Qj]
 | p::ps,h=>by
  have:=Jgw (ps:=ps) λq hq=>h q (List.mem_cons_of_mem _ hq);simp only [Qj,List.flatMap_cons,List.length_append,List.length_cons,h p (mC ..),Nat.succ_mul]at this ⊢;omega
theorem Ku{α:Type}{sz:Nat}: ∀ {ps:List (List Value×α)} {i j:Nat} {p:List Value×α},(∀ p∈ps,p.1.length=sz)->ps[i]?=some p->j<sz->(Qj ps)[i*sz+j]?=p.1[j]?
 | [],_,_,_,_,h,_=>by cases h
 | q::ps,0,j,p,hl,h,hj=>by
  simp only [List.getElem?_cons_zero,Option.some.injEq]at h;subst h;simp only [Qj,List.flatMap_cons,Nat.zero_mul,Nat.zero_add];rw [List.getElem?_append_left (by rw [hl q (mC ..)];exact hj)]
 | q::ps,i+1,j,p,hl,h,hj=>by
  simp only [List.getElem?_cons_succ]at h;have ih:=Ku (i:=i) (j:=j) (λp hp=>hl p (List.mem_cons_of_mem _ hp)) h hj;simp only [Qj,List.flatMap_cons]at ih ⊢;rw [List.getElem?_append_right (by rw [hl q (mC ..),Nat.succ_mul];omega),<-ih,hl q (mC ..)];congr 1
  rw [Nat.succ_mul];omega
section
variable {α:Type} {E:TypeId} {sz:Nat} {Φ:World->List Value->α->Prop} {w w':World} {base:Nat} {v:Value} {ls:List α}
def OwnG(E:TypeId)(sz:Nat)(Φ:World->List Value->α->Prop)(w:World)(base:Nat)(v:Value)(ls:List α): Prop :=
 ∃ ps:List (List Value×α),ls=ps.map (·.2)/\w.ownsRow base E sz v ps.length (Qj ps)/\∀ p∈ps,p.1.length=sz/\Off (Qa base v) w (λu=>Φ u p.1 p.2)
def GV(sz:Nat)(Φ:World->List Value->α->Prop)(w:World)(v:Value)(ls:List α): Prop :=
 ∃ (ps:List (List Value×α)) (A:Option Addr) (c:Nat),ls=ps.map (·.2)/\v=.slice A ps.length c/\ps.length<=c/\ps.length<=1100000/\Rd w sz A ps.length (Qj ps)/\∀ p∈ps,p.1.length=sz/\Φ w p.1 p.2
theorem OwnG.nil(w:World)(base:Nat): OwnG E sz Φ w base (.slice none 0 0) []:=⟨[],rfl,Xa _ _ _ _,λp o=>by cases o⟩
theorem OwnG.gr{N:Nat->Prop}(h:OwnG E sz Φ w base v ls)(hg:GrN N w w')(hN:∀ k,N k->k<base): OwnG E sz Φ w' base v ls:=by
 obtain ⟨ps,e,u,o⟩:=h;refine ⟨ps,e,Js u hg (λg O hn=>?_),λp C=>⟨(o p C).1,(o p C).2.gr (hg.mono λk _ G=>.inl (hN k G))⟩⟩;obtain ⟨_,_,_,_,J⟩:=Jy u;have:=(J g O).1;have:=hN g hn;omega
theorem OwnG.ext(h:OwnG E sz Φ w base v ls)(hx:Ext w w'): OwnG E sz Φ w' base v ls:=h.gr (N:=λ_=>False) (GrN.ext hx) (λk e=>e.elim)
theorem OwnG.form(h:OwnG E sz Φ w base v ls): ∃ A c,v=.slice A ls.length c/\ls.length<=c/\∀ g,v.ownBlock=some g->base<=g/\g<w.heap.size:=by
 obtain ⟨ps,e,o,J⟩:=h;obtain ⟨A,c,G,C,u⟩:=Jy o;rw [e,List.length_map];exact ⟨A,c,G,C,u⟩
theorem OwnG.gv(h:OwnG E sz Φ w base v ls)(hm:ls.length<=1100000): GV sz Φ w v ls:=by
 obtain ⟨ps,e,u,o⟩:=h;obtain ⟨A,c,G,C,J⟩:=Jy u;subst G;exact ⟨ps,A,c,e,rfl,C,by rw [e,List.length_map]at hm;exact hm,Rd.own u,λp hm=>⟨(o p hm).1,(o p hm).2.here⟩⟩
theorem OwnG.off(h:OwnG E sz Φ w base v ls)(hm:ls.length<=1100000): Off (λk=>k<base) w (λu=>GV sz Φ u v ls):=λw' C=>(h.gr C λk o=>o).gv hm
theorem GV.ext(h:GV sz Φ w v ls)(hx:Ext w w')(hΦ:∀ cs a,Φ w cs a->Φ w' cs a): GV sz Φ w' v ls:=by
 obtain ⟨ps,A,c,e,O,J,G,C,o⟩:=h;exact ⟨ps,A,c,e,O,J,G,C.ext hx,λp u=>⟨(o p u).1,hΦ _ _ (o p u).2⟩⟩
theorem GV.parts(h:GV sz Φ w v ls): ∃ A c cs,v=.slice A ls.length c/\ls.length<=c/\ls.length<=1100000/\Rd w sz A ls.length cs/\∀ i (hi:i<ls.length),∃ ce,ce.length=sz/\Φ w ce ls[i]/\∀ j u,ce[j]?=some u->w.cell? ((adr A (i*sz)).add j)=some u:=by
 obtain ⟨ps,A,c,e,e1,e2,Z,J,O⟩:=h;subst e;refine ⟨A,c,Qj ps,by rw [List.length_map];exact e1,by rw [List.length_map];exact e2,by rw [List.length_map];exact Z,by rw [List.length_map];exact J,λi hi=>?_⟩;rw [List.length_map]at hi;have G:=O ps[i] (List.getElem_mem hi);refine ⟨ps[i].1,G.1,by rw [List.getElem_map];exact G.2,λj u o=>?_⟩;have U:j<sz:=by
  rcases Nat.lt_or_ge j sz with h'|h'
  .exact h'
  .rw [List.getElem?_eq_none (by rw [G.1];exact h')]at o;cases o
 rw [Xh];exact J.cell ((Ku (λp C=>(O p C).1) (List.getElem?_eq_getElem hi) U).trans o)
theorem OwnG.after{ps:List (List Value×α)}(e:ls=ps.map (·.2))(hp:∀ p∈ps,p.1.length=sz/\Off (Qa base v) w (λu=>Φ u p.1 p.2)){w':World}{x:α}(hl:cs.length=sz)(hx:Off (Qa base v) w (λu=>Φ u cs x))(ho:w'.ownsRow base E sz v' (ps.length+1) (Qj ps++cs))(hg:w.grownBy w' v.ownBlock)(hn:∀ g,v'.ownBlock=some g->v.ownBlock=some g∨w.heap.size<=g): OwnG E sz Φ w' base v' (ls++[x]):=by
 have o:∀ (cs:List Value) (x:α),Off (Qa base v) w (λu=>Φ u cs x)->Off (Qa base v') w' (λu=>Φ u cs x):=λcs x G=>by
  have Z:Off (Qa base v) w' (λu=>Φ u cs x):=G.gr (GrN.by hg λk C=>.inr C);have O:Off (λk=>Qa base v k∨Qa base v' k) w (λu=>Φ u cs x):=G.mono λk C h=>by
   rcases h with h|h|h
   .exact h
   .exact .inl h
   .rcases hn k h with h4|h4
    .exact .inr h4
    .omega
  exact (O.gr (GrN.by hg λk C=>.inl (.inr C))).mono λk _ h=>.inr h
 refine ⟨ps++[(cs,x)],by rw [e];simp,?_,λp J=>?_⟩
 .have U:Qj (ps++[(cs,x)])=Qj ps++cs:=by simp [Qj]
  rw [List.length_append,U];exact ho
 .rcases List.mem_append.1 J with h'|h'
  .exact ⟨(hp p h').1,o _ _ (hp p h').2⟩
  .rw [List.mem_singleton.1 h'];exact ⟨hl,o _ _ hx⟩
end
theorem apG{P:Program}{al:AL}{w:World}{Q:Exit->Act->World->Prop}{ops:Array Oper}{rest:List Oper}{pos:String}{aft:Array Edge}{t E sz bytes base:Nat}(hE:ElT P t E sz bytes z){Φ:World->List Value->α->Prop}{x y:Operand}{ls:List α}{a:α}(ho:OwnG E sz Φ w base v ls)(hb:Blk w b E cs)(hl:cs.length=sz)(h1:∀ u∈cs,u.oneCell'=true)(hΦ:Off (Qa base v) w (λu=>Φ u cs a))(hm:ls.length<=1100000)(hby:bytes<=64)(hbase:base<=w.heap.size)(kk:∀ v' w',OwnG E sz Φ w' base v' (ls++[a])->w.grownBy w' v.ownBlock->(∀ g,v'.ownBlock=some g->v.ownBlock=some g∨w.heap.size<=g)->WL P n ops Q rest ((d,v')::al) w')(hx:ev al x=some v:=by rfl)(hy:ev al y=some (.slice (some ⟨b,0,none⟩) 1 1):=by rfl)(hd:Nat.blt d n=true:=by rfl):
  WL P n ops Q (⟨some d,.call { callee:=.builtin .append,args:=#[x,y],argTypes:=#[t,t] },ty,pos,aft,none⟩::rest) al w:=by
 obtain ⟨ps,e,O,U⟩:=ho;have J:ps.length<=1100000:=by rw [e,List.length_map]at hm;exact hm
 have Z:(ps.length+1)*bytes<=1100001*64:=Nat.mul_le_mul om hby;refine apb hE O (hb.rd (n:=1) om) h1 (by unfold maxLen;omega) om hbase ?_ hx hy hd;intro v' w' G C o;exact kk v' w' (OwnG.after e U hl hΦ G C o) C o
end Go.Wk
