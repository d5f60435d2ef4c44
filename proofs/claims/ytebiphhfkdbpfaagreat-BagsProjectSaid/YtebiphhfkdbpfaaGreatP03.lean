/- Part 3. -/
import Derived.Test.YtebiphhfkdbpfaaGreatP02
import Derived.Maps.RangeWalk
import Derived.Laws.BitsAllLaws
set_option linter.unusedVariables false
set_option maxRecDepth 100000
set_option maxHeartbeats 40000000
namespace Go.Proofs.YtebiphhfkdbpfaaGreat
open Go.RowKit Pl Go.Wk
attribute [local irreducible] WC WL QX WD WDB WP WN
variable {qi:Int}{j k q:Nat}
theorem Jjq: Qu Tryz.prog 75=some V0.val:=kr
section
variable {w:World} {g:Nat} {A:Option Addr} {d L p e:Nat} {f h:Nat->Nat} {st:Int} {rs:List Row}
theorem Jnl(hB:ItB w g A d L p e f h st)(hT:TriA w A d rs)(hL:0<L)(hLd:L<=d)(hd:d<=32)(hq:q<(lvl rs (L-1)).length)(hqi:qi=(q:Int)): Ret Tryz.prog 171 [.pointer (some ⟨g,0,none⟩),.int .i64 qi] w λu w'=>u=((lvl rs (L-1)).getD q V0).val/\Ext w w':=by
 subst hqi;obtain⟨vv,fv,fs,hR,hv,hf,hc⟩:=hT;have J:L-1<d:=om
 obtain⟨B,c,Z,a2⟩:=hv (L-1) J;refine Jz Tryz.func171 Tryz.ntmps171 rfl kr rfl ?_;refine ρ ?_;refine alc (cs:=V0.cells) Jjq ?_;intro w1 b U hb a3;refine ρ ?_;refine drN (λ_=>False) 4 [(0,0),(0,1),(0,2),(0,3),(0,4),(0,5),(0,6),(0,7),(0,8),(0,9),(0,10),(0,11),(0,12),(0,13),(0,14),(0,15),(2,16)] kr ?_;have y:=U.drew;have G:=hB.ext y;have F:=hR.ext y;have D:RdR _ B (lvl rs (L-1)):=Rd.ext a2 y;have a1:w1.drew.cell? ((adr A ((L-1)*2)).add 0)=some (vv (L-1)):=by rw[add_zero];exact F.cell (Ye d vv fv J).1
 refine ρn ?_;refine nld (Qf (G.at (i:=0) rfl) (λe=>e)) ?_;refine ρn ?_;refine nld (Qf (G.at (i:=1) rfl) (λe=>e)) ?_;refine ρn ?_;refine Vt 2 (L-1) F J ?_;refine ρn ?_;refine nld (Qf a1 (λe=>e)) ?_;rw[Z];refine ρn ?_;refine Vt 3 q D hq ?_;refine ρn ?_;refine Yw (cs:=((lvl rs (L-1)).getD q V0).cells) (λw' hg j u hu=>RdR.cell (Rd.ext D hg.toExt) hq hu) ?_;refine ρn ?_;refine Xm ?_;refine stb (cs':=((lvl rs (L-1)).getD q V0).cells) (a3.ext (Ext.refl w1).drew) ?_ (V.one _);intro w2 a4 a5 O;refine ρ ?_;exact Zb a4 ⟨rfl,O w y hb⟩
theorem Jbd{v:V}(hB:ItB w g A d L p e f h st)(hT:Off (λk=>k=g) w (λu=>TriA u A d rs))(hL:0<L)(hLd:L<=d)(hd:d<=32)(hq:q<(lvl rs (L-1)).length)(hqi:qi=(q:Int)): Ret Tryz.prog 180 [.pointer (some ⟨g,0,none⟩),.int .i64 qi,v.val] w λu w'=>u=.bool (decide (cmpV ((lvl rs (L-1)).getD q V0) v<0))/\GrN (λk=>k=g) w w'/\∃ st',ItB w' g A d L p e f h st':=by
 refine Jz Tryz.func180 Tryz.ntmps180 rfl kr rfl ?_;refine ρ ?_;refine bx (cs:=v.cells) ?_;intro w1 b U hb a3;have D:=hB.ext U;refine ρ ?_;refine ld (D.at (i:=68) (Jbg _ _ _ _ _ _ _ _)) ?_;refine ρ ?_;have a4:w1.cell? ⟨g,0+68,none⟩=some (.int .i64 st):=by rw[D.cell];exact Jbg _ _ _ _ _ _ _ _
 refine sto a4 (D.frozen _) ?_;obtain⟨st',Z⟩:∃ st':Int,st'=IntKind.i64.wrap (st+1):=⟨_,rfl⟩;rw[<-Z];have G:=D.set (0+68) (.int .i64 st');rw[show(0:Nat)+68=68 from rfl,Qfn]at G;have a1:GrN (λk=>k=g) w (w1.setCell ⟨g,68,none⟩ (.int .i64 st')):=(GrN.ext U).trans (GrN.set _ rfl);have a2:Blk (w1.setCell ⟨g,68,none⟩ (.int .i64 st')) b 75 v.cells:=a3.far (by simp only;have:=hB.lt;omega) _;refine ρ ?_;generalize hw2:w1.setCell ⟨g,68,none⟩ (.int .i64 st')=w2 at *
 refine dr [(0,0),(0,1),(0,3),(1,2),(1,4),(0,5),(0,6)] kr ?_;have y:Ext w2 w2.drew:=(Ext.refl w2).drew;refine ρd ?_;refine Qj (cs:=v.cells) (λj u hu=>(a2.ext y).at hu) ?_;refine ρd ?_;refine dcl (Jnl (G.ext y) (hT _ (a1.trans (GrN.ext y))) hL hLd hd hq hqi) ?_;rintro u w3 ⟨rfl,O⟩;refine⟨O,?_⟩;refine ρd ?_;refine dcl (Jxv _ v _) ?_;rintro u w4 ⟨rfl,J⟩;refine⟨J,?_⟩;refine ρd ?_;refine ρ ?_;have F:=(y.trans O).trans J;exact Jq ⟨rfl,a1.trans (GrN.ext F),st',G.ext F⟩
theorem Jbf(hB:ItB w g A d L p e f h st)(hT:TriA w A d rs)(hLd:L<=d)(hd:d<=32)(he:0<L->e<=(lvl rs (L-1)).length): Ret Tryz.prog 143 [.pointer (some ⟨g,0,none⟩)] w λu w'=>Ext w w'/\∃ v:V,u=.tuple #[v.val,.bool (decide (0<L/\p<e))]/\(0<L/\p<e->v=(lvl rs (L-1)).getD p V0):=by
 refine Jz Tryz.func143 Tryz.ntmps143 rfl kr rfl ?_;refine ρ ?_;refine alc (cs:=V0.cells) Jjq ?_;intro w1 b J hb U;refine ρ ?_;refine cl (Ic (hB.ext J)) ?_;rintro u w2 ⟨rfl,G⟩;have y:=J.trans G;refine ρ ?_;refine ci (λh1=>?_) (λh1=>?_)
 .have O:¬ (0<L/\p<e):=by grind
  refine ρ ?_;refine bld (v:=V0.val) kr ?_;refine ρ ?_;refine stb (cs':=V0.cells) (U.ext G) ?_ (V.one _);intro w3 a3 a5 F;refine ρ ?_;refine Zz a3 ⟨F w y hb,V0,?_,λh'=>absurd h' O⟩;rw[decide_eq_false O];rfl
 have D:0<L/\p<e:=by grind
 have Z:=hB.ext y;refine ρ ?_;refine ld (Z.at (i:=2) rfl) ?_;refine ρ ?_;refine cl (Jnl (q:=p) (qi:=(p:Int)) Z (hT.ext y) D.1 hLd hd (by have:=he D.1;omega) rfl) ?_;rintro u w3 ⟨rfl,F⟩;refine ρ ?_;refine stb (cs':=((lvl rs (L-1)).getD p V0).cells) ((U.ext G).ext F) ?_ (V.one _);intro w4 a2 a4 a1;refine ρ ?_;refine Zz a2 ⟨a1 w (y.trans F) hb,_,?_,λ_=>rfl⟩;rw[decide_eq_true D];rfl
theorem Qfm(hB:ItB w g A d L p e f h st)(hL:0<L)(hp:p<e)(hpe:e<=1000000): Ret Tryz.prog 142 [.pointer (some ⟨g,0,none⟩)] w λu w'=>u=.bool (decide (p+1<e))/\GrN (λk=>k=g) w w'/\ItB w' g A d L (p+1) e f h st:=by
 refine Jz Tryz.func142 Tryz.ntmps142 rfl kr rfl ?_;refine ρ ?_;refine cl (Ic hB) ?_;rintro u w1 ⟨rfl,F⟩;refine ρ ?_;refine cf ?_ ?_
 .simp[hL,hp]
 have y:=hB.ext F;refine ρ ?_;refine ld (y.at (i:=2) rfl) ?_;refine ρ ?_;refine sto (p:=⟨g,2,none⟩) (y.cell 2) (y.frozen _) ?_;have G:ItB (w1.setCell ⟨g,2,none⟩ (.int .i64 ((p:Int)+1))) g A d L (p+1) e f h st:=by
  have:=y.set 2 (.int .i64 ((p:Int)+1));exact this
 have J:GrN (λk=>k=g) w (w1.setCell ⟨g,2,none⟩ (.int .i64 ((p:Int)+1))):=(GrN.ext F).trans (GrN.set _ rfl);refine ρ ?_;refine cl (Ic G) ?_;rintro u O ⟨rfl,D⟩;refine ρ ?_;refine Jq ⟨?_,J.trans (GrN.ext D),G.ext D⟩;grind
theorem Qpm(hB:ItB w g A d L p e f h st)(hk:k<32){u:Value}(hu:[Value.int .i64 (f k:Int),.int .i64 (h k:Int)][j]?=some u): w.cell? (((⟨g,0+4,none⟩:Addr).add (k*2)).add j)=some u:=by
 have y:=Qfq A d L p e f h st hk;rw[Za,Za,hB.cell];grind
theorem Qfh(hB:ItB w g A d (L+1) p e f h st)(hL:L<32): Ret Tryz.prog 144 [.pointer (some ⟨g,0,none⟩)] w λu w'=>GrN (λk=>k=g) w w'/\ItB w' g A d L (f L) (h L) f h st:=by
 refine Jz Tryz.func144 Tryz.ntmps144 rfl kr rfl ?_;refine ρ ?_;refine pnl ?_;refine ρ ?_;refine ld (hB.at (i:=1) rfl) ?_;refine ρ ?_;refine ld (hB.at (i:=1) rfl) ?_;refine ρ ?_;refine sto (p:=⟨g,1,none⟩) (hB.cell 1) (hB.frozen _) ?_;have eL:((L+1:Nat):Int)-1=(L:Int):=om
 rw[eL];have U:ItB (w.setCell ⟨g,1,none⟩ (.int .i64 (L:Int))) g A d L p e f h st:=hB.set 1 (.int .i64 (L:Int));have J:GrN (λk=>k=g) w (w.setCell ⟨g,1,none⟩ (.int .i64 (L:Int))):=GrN.set _ rfl;refine ρ ?_;generalize w.setCell ⟨g,1,none⟩ (.int .i64 (L:Int))=w2 at *
 refine drN (λ_=>False) 4 [(0,0),(0,1),(0,2),(0,3),(0,4),(0,5),(0,6),(0,7),(0,8),(0,9),(0,10),(0,11),(2,12)] kr ?_;have D:Ext w2 w2.drew:=(Ext.refl w2).drew;have y:=U.ext D;refine ρn ?_;refine nld (Qf (y.at (i:=1) rfl) (λe=>e)) ?_;refine ρn ?_;refine nixa L hL ?_;refine ρn ?_;refine Yw (cs:=[.int .i64 (f L:Int),.int .i64 (h L:Int)]) (λw' Z j u F=>Qpm (Ja y Z (λe=>e)) hL F) ?_;refine ρn ?_;refine Xm ?_;refine stB (o:=2) (us:=[.int .i64 (f L:Int),.int .i64 (h L:Int)]) y (by rw[Jkk];simp) (λu F=>by simp at F;rcases F with rfl|rfl<;>rfl) ?_;intro w4 O G;refine ρ ?_;exact Jq ⟨J.trans ((GrN.ext D).trans (GrN.by G λk e=>by injection e with e;exact e.symm)),O⟩
theorem Qfj(hB:ItB w g A d L p e f h st): Ret Tryz.prog 115 [.pointer (some ⟨g,0,none⟩)] w λu w'=>u=.int .i64 st/\w'=w:=by
 refine Jz Tryz.func115 Tryz.ntmps115 rfl kr rfl ?_;refine ρ ?_;refine pnl ?_;refine ρ ?_;refine ld (hB.at (i:=68) (Jbg _ _ _ _ _ _ _ _)) ?_;refine ρ ?_;exact Jq ⟨rfl,rfl⟩
theorem Qnf(A:Option Addr)(d:Nat)(w:World): (Instr.build 224 #[(0,.agg #[.slice A d d])]).run Tryz.prog w=.ok (.agg (itC A d 0 0 0 (λ_=>0) (λ_=>0) 0).toArray) w:=kr
theorem Qxh(w:World): Ret Tryz.prog 113 [.agg #[.slice A d d]] w λu w'=>Ext w w'/\∃ g,u=.pointer (some ⟨g,0,none⟩)/\w.heap.size<=g/\ItB w' g A d 0 0 0 (λ_=>0) (λ_=>0) 0:=by
 refine Jz Tryz.func113 Tryz.ntmps113 rfl kr rfl ?_;refine ρ ?_;refine bx ?_;intro w1 b y U J;refine ρ ?_;refine ldW J ?_;refine ρ ?_;refine bld (Qnf A d _) ?_;refine ρ ?_;refine bx (cs:=itC A d 0 0 0 (λ_=>0) (λ_=>0) 0) ?_;intro w2 O D F G;refine ρ ?_;exact Jq ⟨y.trans D,O,rfl,Nat.le_trans y.size F,G⟩
end
open Go.RowKit Pl Go.Wk
section
variable {w:World} {g:Nat} {A:Option Addr} {d L p e:Nat} {f h:Nat->Nat} {st:Int} {rs:List Row}
theorem Qfk{v:V}(hB:ItB w g A d L p e f h st)(hT:Off (λk=>k=g) w (λu=>TriA u A d rs))(hL:0<L)(hLd:L<=d)(hd:d<=32)(hpe:p<e)(he:e<=(lvl rs (L-1)).length)(hm:e<=1000000)(hs:∀ i j,p<=i->i<j->j<e->cmpV ((lvl rs (L-1)).getD i V0) ((lvl rs (L-1)).getD j V0)<0):
  Ret Tryz.prog 170 [.pointer (some ⟨g,0,none⟩),v.val] w λu w'=>GrN (λk=>k=g) w w'/\∃ q st',u=.bool (decide (q<e))/\p<=q/\q<=e/\(∀ i,p<=i->i<q->cmpV ((lvl rs (L-1)).getD i V0) v<0)/\(q<e->¬ cmpV ((lvl rs (L-1)).getD q V0) v<0)/\ItB w' g A d L q e f h st':=by
 obtain⟨val,b5⟩:∃ val:Nat->V,val=λi=>(lvl rs (L-1)).getD i V0:=⟨_,rfl⟩;have aa:∀ i,(lvl rs (L-1)).getD i V0=val i:=λi=>by rw[b5]
 simp only[aa]at hs ⊢;have av:∀ {y i:Nat},p<=i->i<=y->y<e->cmpV (val y) v<0->cmpV (val i) v<0:=fun {y i} G h2 h3 h4=>by
  by_cases e':i=y
  .subst e';exact h4
  exact cmp_V.lt_trans (hs i y G om h3) h4
 refine Jz Tryz.func170 Tryz.ntmps170 rfl kr rfl ?_;refine ρ ?_;refine bx (cs:=v.cells) ?_;intro w1 b b4 hb bf;have bd:b≠g:=by have:=hB.lt;omega
 have ac:¬ (λk=>k=g) b:=bd;refine ρ ?_;refine cl (Ic (hB.ext b4)) ?_;rintro u w2 ⟨rfl,b3⟩;have ak:=b4.trans b3;have bg:=hB.ext ak;have be:GrN (λk=>k=g) w w2:=GrN.ext ak;refine ρ ?_;refine cf ?_ ?_
 .simp[hL,hpe]
 refine ρ ?_;refine drN (λ_=>False) 10 [(0,0),(0,1),(0,2),(0,3),(0,4),(0,5),(0,6),(2,7),(2,8)] kr ?_;have an:Ext w2 w2.drew:=(Ext.refl w2).drew;have ar:=bg.ext an;have a7:=(bf.ext b3).ext an;have aq:=be.trans (GrN.ext an);refine ρn ?_;refine nld (Qf (ar.at (i:=2) rfl) (λe=>e)) ?_;refine ρn ?_;refine Yw (cs:=v.cells) (λw' hg j u hu=>(Ja a7 hg (λe=>e)).at hu) ?_;refine ρn ?_;refine Xm ?_;refine cl (Jbd (q:=p) (qi:=(p:Int)) ar (hT.gr aq) hL hLd hd om rfl) ?_;rintro u w4 ⟨rfl,ap,ay,aj⟩;have am:=Ja a7 ap ac;have a4:=aq.trans ap;refine ρ ?_;refine Uf ?_;refine Xm ?_;refine ρ ?_;rw[aa];refine ci (λG=>?_) (λG=>?_)
 .have h2:¬ cmpV (val p) v<0:=by simpa using G
  refine ρ ?_;refine Jq ⟨a4,p,ay,by rw[decide_eq_true hpe],Nat.le_refl _,om,λi G h2=>om,λ_=>h2,aj⟩
 have h2:cmpV (val p) v<0:=by simpa using G
 clear G;refine ρ ?_;refine ld (aj.at (i:=2) rfl) ?_;refine ρ ?_;refine Zk (fun (y step:Nat) (st:Int)=>[(0,.pointer (some ⟨g,0,none⟩)),(3,.pointer (some ⟨b,0,none⟩)),(5,.int .i64 (y:Int)),(6,.int .i64 (step:Int))])
  (λy step st w'=>GrN (λk=>k=g) w w'/\ItB w' g A d L p e f h st/\Blk w' b 75 v.cells/\p<=y/\y<e/\cmpV (val y) v<0/\1<=step/\step<=2000000) (λy _ _=>e-y) p 1 ay sB
  ⟨a4,aj,am,Nat.le_refl _,hpe,h2,Nat.le_refl _,om⟩ ?_
 clear aj am a4 ap ar a7 aq;rintro y step b8 w5 ⟨af,ai,J,ad,bb,a1,ba,b9⟩;refine ρ ?_;refine ld (ai.at (i:=3) rfl) ?_;refine ρ ?_;refine Qjp (fun (t:Bool) (st:Int)=>[(0,.pointer (some ⟨g,0,none⟩)),(3,.pointer (some ⟨b,0,none⟩)),(5,.int .i64 (y:Int)),(6,.int .i64 (step:Int)),(42,.bool t)])
  (λt st w'=>GrN (λk=>k=g) w w'/\ItB w' g A d L p e f h st/\Blk w' b 75 v.cells/\(t=true->y+step<e/\cmpV (val (y+step)) v<0)/\(t=false->e<=y+step∨¬ cmpV (val (y+step)) v<0)) ?_ ?_
 .refine ki 35 (λG=>?_) (λG=>?_)
  .have h3:y+step<e:=by have:=oT G;omega
   refine ρ ?_;refine lds (cs:=v.cells) (λj u hu=>J.at hu) ?_;refine ρ ?_;refine cl (Jbd (q:=y+step) (qi:=(y:Int)+(step:Int)) ai (hT.gr af) hL hLd hd om om) ?_;rintro u w6 ⟨rfl,U,a9,Z⟩;refine ρ ?_;rw[aa];refine Xl _ a9 sB ⟨af.trans U,Z,Ja J U ac,λh'=>⟨h3,of_decide_eq_true h'⟩,λh'=>.inr (oF h')⟩
  refine ρ ?_;exact Xl false b8 sB ⟨af,ai,J,λh'=>(by cases h'),λ_=>.inl (by grind)⟩
 clear af ai J;rintro t a9 w6 ⟨U,Z,a6,b7,b6⟩;refine ci (λG=>?_) (λG=>?_)
 .obtain⟨h3,h4⟩:=b7 G;refine ρ ?_;exact Qa (y+step) (step*2) a9 sO ⟨U,Z,a6,om,om,h4,om,om⟩ om
 have h3:=b6 G;clear b7 b6 G;refine ρ ?_;refine ld (Z.at (i:=3) rfl) ?_;refine ρ ?_;have bc:∃ hi:Nat,(if(e:Int)<(y:Int)+(step:Int) then(e:Int) else(y:Int)+(step:Int))=(hi:Int)/\y<hi/\hi<=e/\(hi<e->¬ cmpV (val hi) v<0):=by
  by_cases h4:e<y+step
  repeat grind
 obtain⟨hi,au,ao,a3,a2⟩:=bc;rw[au];refine Zk (fun (y hi:Nat) (st:Int)=>[(0,.pointer (some ⟨g,0,none⟩)),(3,.pointer (some ⟨b,0,none⟩)),(5,.int .i64 (y:Int)),(7,.int .i64 (hi:Int))])
  (λy hi st w'=>GrN (λk=>k=g) w w'/\ItB w' g A d L p e f h st/\Blk w' b 75 v.cells/\p<=y/\cmpV (val y) v<0/\y<hi/\hi<=e/\(hi<e->¬ cmpV (val hi) v<0)) (λy hi _=>hi-y) y hi a9 sB
  ⟨U,Z,a6,ad,a1,ao,a3,a2⟩ ?_
 clear U Z a6 ad bb a1 ba b9 h3 ao a3 a2 au;rintro D F ax w7 ⟨ae,ah,a5,ad,a1,ao,a3,a2⟩;refine ρ ?_;refine ci (λG=>?_) (λG=>?_)
 .have bi:D+1<F:=by have:=oT G;omega
  refine ρ ?_;refine qn (F-D) 2 ?_;refine ρ ?_;have bh:D<D+(F-D) / 2/\D+(F-D) / 2<F:=om
  generalize hmm:(F-D) / 2=m at *
  refine lds (cs:=v.cells) (λj u hu=>a5.at hu) ?_;refine ρ ?_;refine cl (Jbd (q:=D+m) (qi:=(D:Int)+(m:Int)) ah (hT.gr ae) hL hLd hd om om) ?_;rintro u w8 ⟨rfl,O,aw,a8⟩;refine ρ ?_;rw[aa];refine ci (λh2=>?_) (λh2=>?_)
  .refine ρ ?_;exact Qa (D+m) F aw sO ⟨ae.trans O,a8,Ja a5 O ac,om,of_decide_eq_true h2,om,a3,a2⟩ om
  refine ρ ?_;exact Qa D (D+m) aw sO ⟨ae.trans O,a8,Ja a5 O ac,ad,a1,om,om,λ_=>oF h2⟩ om
 have au:F=D+1:=by have:=oF G;omega
 refine ρ ?_;refine sto (p:=⟨g,2,none⟩) (ah.cell 2) (ah.frozen _) ?_;have a8:ItB (w7.setCell ⟨g,2,none⟩ (.int .i64 (F:Int))) g A d L F e f h ax:=ah.set 2 (.int .i64 (F:Int));have O:GrN (λk=>k=g) w (w7.setCell ⟨g,2,none⟩ (.int .i64 (F:Int))):=ae.trans (GrN.set _ rfl);refine ρ ?_;refine cl (Ic a8) ?_;rintro u w9 ⟨rfl,b2⟩;refine ρ ?_;refine Jq ⟨O.trans (GrN.ext b2),F,ax,?_,om,a3,λi G h2=>av G (show i<=D by omega) om a1,a2,a8.ext b2⟩;grind
end
open Go.RowKit Pl Go.Wk
variable {j:Nat}{u:Value}
theorem Qjd: Qu Tryz.prog 221=some (.agg #[.int .i64 0,.int .i64 0]):=kr
theorem Jsw(x y:Int)(w:World): (Instr.build 221 #[(0,.int .i64 x),(1,.int .i64 y)]).run Tryz.prog w=.ok (.agg #[.int .i64 x,.int .i64 y]) w:=kr
theorem Jzq{x y:Int}: ∀ u∈[Value.int .i64 x,.int .i64 y],u.oneCell'=true:=by intro u D;simp at D;rcases D with rfl|rfl<;>rfl
section
variable {w:World} {g:Nat} {A:Option Addr} {d L p e:Nat} {f h:Nat->Nat} {st:Int} {rs:List Row}
theorem Jfp(w:World): Ret Tryz.prog 169 [.agg #[.slice A d d]] w λu w'=>u=.int .i64 (d:Int)/\Ext w w':=by
 refine Jz Tryz.func169 Tryz.ntmps169 rfl kr rfl ?_;refine ρ ?_;refine bx ?_;intro w1 b y F D;refine ρ ?_;refine ld (D.at (i:=0) rfl) ?_;refine ρ ?_;exact Jq ⟨rfl,y⟩
def Vv(rs:List Row)(L p:Nat): Row:=if L=0 then[] else(pfx rs L).getD p []
theorem Jbc(hB:ItB w g A d L p e f h st)(hu:[Value.slice A d d][j]?=some u): w.cell? (((⟨g,0,none⟩:Addr).add 0).add j)=some u:=by
 match j,hu with
 | 0,hu=>rw[add_zero,add_zero,hB.cell];exact hu
 | j+1,hu=>simp at hu
theorem it_at(hB:ItB w g A d L p e f h st)(hu:[Value.int .i64 (p:Int),.int .i64 (e:Int)][j]?=some u): w.cell? (((⟨g,0,none⟩:Addr).add 2).add j)=some u:=by
 match j,hu with
 | 0,hu=>rw[add_zero,Za,hB.cell];exact hu
 | 1,hu=>rw[Za,Za,hB.cell];exact hu
 | j+2,hu=>simp at hu
theorem Qfl(hB:ItB w g A d L p e f h st)(hT:Off (λk=>k=g) w (λu=>TriA u A d rs))(hLd:L<d)(hd:d<=32)(hpe:0<L->p<e/\e<=(pfx rs L).length)(hrs:rs≠[])(hsrt:Srt [] rs)(hm:rs.length<=1000000)(hlen:∀ r∈rs,r.length=d):
  Ret Tryz.prog 140 [.pointer (some ⟨g,0,none⟩)] w λu w'=>u=.bool true/\GrN (λk=>k=g) w w'/\∃ lo hi,lo<hi/\hi<=(pfx rs (L+1)).length/\(∀ i,i<(pfx rs (L+1)).length->(((pfx rs (L+1)).getD i []).take L=Vv rs L p↔lo<=i/\i<hi))/\ItB w' g A d (L+1) lo hi (upd f L p) (upd h L e) st:=by
 refine Jz Tryz.func140 Tryz.ntmps140 rfl kr rfl ?_;refine ρ ?_;refine Qjr [(0,.pointer (some ⟨g,0,none⟩)),(30,.bool false)] (λw'=>Ext w w') ?_ ?_
 .refine dr [(0,0),(0,1),(0,2),(0,3),(0,4),(0,5),(0,6),(0,7),(0,8),(0,9),(1,10),(0,11),(0,12),(0,13),(0,14),(0,15),(0,16),(0,17),(0,18),(0,19),(0,20),(0,21),(0,22),(1,23),(0,24),(0,25)] kr ?_;have O:Ext w w.drew:=(Ext.refl w).drew;have G:=hB.ext O;refine ρd ?_;refine dpnl ?_;refine ρd ?_;refine dld (G.at (i:=1) rfl) ?_;refine ρd ?_;have rest:∀(al:AL) (w2:World),True:=λ_ _=>trivial;refine dki 13 (λh1=>?_) (λh1=>?_)
  .have D:0<L:=by have:=oT h1;omega
   refine ρd ?_;refine dcl (Ic G) ?_;rintro u w2 ⟨rfl,Z⟩;refine⟨Z,?_⟩;have ax:=G.ext Z;refine ρd ?_;refine dkf 19 ?_ ?_
   .have:=hpe D;simp[D,this.1]
   refine ρd ?_;refine dld (ax.at (i:=1) rfl) ?_;refine ρd ?_;refine Qj (cs:=[.slice A d d]) (λj u hu=>Jbc ax hu) ?_;refine ρd ?_;refine dcl (Jfp _) ?_;rintro u w3 ⟨rfl,U⟩;refine⟨U,?_⟩;refine ρd ?_;refine ρ ?_;refine Jhs (Sub.cons rfl (Sub.cons ?_ Sub.nil)) ((O.trans Z).trans U);exact congrArg (λz=>some (Value.bool z)) (dF om)
  have D:L=0:=by have:=oF h1;omega
  refine ρd ?_;refine dld (G.at (i:=1) rfl) ?_;refine ρd ?_;refine Qj (cs:=[.slice A d d]) (λj u hu=>Jbc G hu) ?_;refine ρd ?_;refine dcl (Jfp _) ?_;rintro u w3 ⟨rfl,U⟩;refine⟨U,?_⟩;refine ρd ?_;refine ρ ?_;refine Jhs (Sub.cons rfl (Sub.cons ?_ Sub.nil)) (O.trans U);exact congrArg (λz=>some (Value.bool z)) (dF om)
 intro w1 ac;have a3:=hB.ext ac;obtain⟨vv,fv,fs,hR,hv,hf,hc⟩:=(hT.ext ac).here;have bh:(pfx rs (L+1)).length<=1000000:=by
  have:=Jxf (rs.map (List.take (L+1)));rw[List.length_map]at this;exact nL this hm
 refine ρ ?_;refine lds (cs:=[.slice A d d]) (λj u hu=>Jbc a3 hu) ?_;refine ρ ?_;refine cl (Jvd (l:=0) (vs:=lvl rs) hR (λl hl=>by obtain⟨B,c,e,_⟩:=hv l hl;exact⟨B,c,e⟩) rfl hd) ?_;rintro u w2 ⟨rfl,Z⟩;rw[if_pos (show 0<d by omega),Ia];refine ρ ?_;refine bld (Jsw _ _ _) ?_;refine ρ ?_;refine alc Qjd ?_;intro w3 b U hb ba;refine ρ ?_;refine stb ba ?_ (Jzq (x:=0) (y:=((pfx rs (0+1)).length:Int)));intro w4 a6 b5 af;have a1:Ext w1 w4:=(Z.trans (af w2 U hb));have aw:=a3.ext a1;have b3:b≠g:=by have:=a3.lt;have:=Z.size;omega
 refine ρ ?_;refine ld (aw.at (i:=1) rfl) ?_;refine ρ ?_;refine Ur (fun (lo hi:Nat)=>[(0,.pointer (some ⟨g,0,none⟩)),(3,.pointer (some ⟨b,0,none⟩))])
  (λlo hi w'=>Ext w1 w'/\Blk w' b 221 [.int .i64 (lo:Int),.int .i64 (hi:Int)]/\hi<=(pfx rs (L+1)).length/\∀ i,i<(pfx rs (L+1)).length->(((pfx rs (L+1)).getD i []).take L=Vv rs L p↔lo<=i/\i<hi)) ?_ ?_
 .refine ci (λh1=>?_) (λh1=>?_)
  .have D:0<L:=by have:=oT h1;omega
   obtain⟨k,rfl⟩:∃ k,L=k+1:=⟨L-1,om⟩;have lk:k<d:=om
   obtain⟨bf,be⟩:=hpe D;obtain⟨F,fc,b6,b9⟩:=hf k lk;have a8:=hc k om;obtain⟨c1,c2,c3⟩:=a8;have bg:p<=1000000:=by
    have:=Jxf (rs.map (List.take (k+1)));rw[List.length_map]at this;have h4:(pfx rs (k+1)).length<=rs.length:=this;omega
   have lp:p<(fs k).length:=om
   have a7:p+1<(fs k).length:=om
   refine ρ ?_;refine drN (λ_=>False) 10 [(0,0),(0,1),(0,2),(0,3),(0,4),(0,5),(0,6),(0,7),(0,8),(0,9),(0,10),(0,11),(0,12),(0,13)] kr ?_;have a5:=a1.drew;have G:=a3.ext a5;have an:=hR.ext a5;have b8:w4.drew.cell? ((adr A (k*2)).add 1)=some (fv k):=by rw[Gv];exact an.cell (Ye d vv fv lk).2
   refine ρn ?_;refine nld (Qf (G.at (i:=0) rfl) (λe=>e)) ?_;refine ρn ?_;refine nld (Qf (G.at (i:=1) rfl) (λe=>e)) ?_;refine ρn ?_;refine Vt 2 k an lk ?_;refine ρn ?_;refine nld (Qf b8 (λe=>e)) ?_;rw[b6];refine ρn ?_;refine ρ ?_;refine drN (λ_=>False) 10 [(0,0),(0,1),(0,2),(0,3),(0,4),(0,5),(0,6),(0,7),(0,8),(0,9),(0,10),(0,11),(0,12),(0,13),(0,14),(0,15),(0,16),(1,17),(2,18)] kr ?_;have a4:=a5.drew;have ao:=a3.ext a4;have a9:=b9.ext a4;have ap:=(a6.ext (Ext.refl w4).drew).ext (Ext.refl w4.drew).drew;refine ρn ?_;refine nld (Qf (ao.at (i:=2) rfl) (λe=>e)) ?_;refine ρn ?_;refine nix p a9 lp ?_;refine ρn ?_;refine nld (Qf (a9.cell (Qn lp)) (λe=>e)) ?_;refine ρn ?_;refine nld (Qf (ao.at (i:=2) rfl) (λe=>e)) ?_;refine ρn ?_;refine nix (p+1) a9 a7 ?_;refine ρn ?_;refine nld (Qf (a9.cell (Qn a7)) (λe=>e)) ?_;refine ρn ?_;refine nop ?_
   refine bld (Jsw _ _ _) ?_;refine ρ ?_;refine Qg (GrN.refl _ _) ?_;refine ρn ?_;refine Xm ?_;refine stb ap ?_ (Jzq (x:=(((fs k).getD p 0:Nat):Int)) (y:=(((fs k).getD (p+1) 0:Nat):Int)));intro w5 J bi ay;refine ρ ?_;refine Xl ((fs k).getD p 0) ((fs k).getD (p+1) 0) sB ⟨ay w1 a4 (nL Z.size hb),J,c2 _ a7,λi hi=>?_⟩;rw[c3 p i a7 hi |>.symm,Vv,if_neg om]
  have D:L=0:=by have:=oF h1;omega
  subst D;refine ρ ?_;refine Xl 0 (pfx rs (0+1)).length sB ⟨a1,a6,Nat.le_refl _,λi hi=>?_⟩;rw[Vv,if_pos rfl,List.take_zero];exact⟨λ_=>⟨Nat.zero_le _,hi⟩,λ_=>rfl⟩
 clear b5 af aw a1 a6;rintro lo hi w5 ⟨aa,J,b2,a8⟩;have ad:lo<hi:=by
  have b7:∃ i,i<(pfx rs (L+1)).length/\((pfx rs (L+1)).getD i []).take L=Vv rs L p:=by
   have hr:∃ r∈rs,r.take L=Vv rs L p:=by
    by_cases D:L=0
    .subst D;obtain⟨r,hr⟩:=List.exists_mem_of_ne_nil rs hrs;exact⟨r,hr,by rw[Vv,if_pos rfl,List.take_zero]⟩
    have:=hpe om;rw[Vv,if_neg D];exact(Jqj hsrt).1 (getD_mem' [] _ om)
   obtain⟨r,hr,er⟩:=hr;obtain⟨i,hi,ei⟩:=List.getElem_of_mem ((Jqj hsrt (l:=L+1)).2 ⟨r,hr,rfl⟩);refine⟨i,hi,?_⟩;rw[Ql [] _ hi,ei,List.take_take,Nat.min_eq_left om,er]
  obtain⟨i,hi,ei⟩:=b7;have:=(a8 i hi).1 ei;omega
 have bd:=a3.ext aa;refine ρ ?_;refine ld (J.at (i:=0) rfl) ?_;refine ρ ?_;refine ld (J.at (i:=1) rfl) ?_;refine ρ ?_;refine cf ?_ ?_
 .exact Jtb om
 refine ρ ?_;refine drN (λ_=>False) 10 [(0,0),(0,1),(0,2),(0,3),(0,4),(0,5),(0,6),(0,7),(0,8),(0,9),(0,10),(0,11),(2,12)] kr ?_;have O:Ext w5 w5.drew:=(Ext.refl w5).drew;have ae:=bd.ext O;have ar:=J.ext O;refine ρn ?_;refine nld (Qf (ae.at (i:=1) rfl) (λe=>e)) ?_;refine ρn ?_;refine Yw (cs:=[.int .i64 (p:Int),.int .i64 (e:Int)]) (λw' hg j u hu=>it_at (Ja ae hg (λe=>e)) hu) ?_;refine ρn ?_;refine nixa L (show L<32 by omega) ?_;refine ρn ?_;refine Xm ?_;have ah:=seg2 (cs:=itC A d L p e f h st) (o:=4+L*2) (u:=.int .i64 (p:Int)) (v:=.int .i64 (e:Int)) (by rw[Jkk];omega);refine stB (o:=4+L*2) (us:=[.int .i64 (p:Int),.int .i64 (e:Int)]) ae (by rw[Jkk];simp only[List.length_cons,List.length_nil];omega) Jzq ?_ (hp:=(Za g (0+4) (L*2)).trans (by rw[Nat.zero_add]));intro w7 av am;have au:ItB w7 g A d L p e (upd f L p) (upd h L e) st:=by
  have e1:(itC A d L p e f h st).take (4+L*2)++[Value.int .i64 (p:Int),.int .i64 (e:Int)]++(itC A d L p e f h st).drop (4+L*2+[Value.int .i64 (p:Int),.int .i64 (e:Int)].length)=itC A d L p e (upd f L p) (upd h L e) st:=by
   rw[<-Qfp A d L p e f h st (show L<32 by omega) p e];exact ah
  rw[e1]at av;exact av
 have aq:=ar.grown am (λe=>b3 (by injection e));have ak:GrN (λk=>k=g) w w7:=(GrN.ext ((ac.trans aa).trans O)).trans (GrN.by am λk e=>by injection e with e;exact e.symm);refine ρ ?_;refine ldW aq ?_;refine ρ ?_;refine stB (o:=2) (us:=[.int .i64 (lo:Int),.int .i64 (hi:Int)]) au (by rw[Jkk];simp) Jzq ?_;intro w8 bc b4;have a2:ItB w8 g A d L lo hi (upd f L p) (upd h L e) st:=bc;have aj:=ak.trans (GrN.by b4 λk e=>by injection e with e;exact e.symm);refine ρ ?_;refine ld (a2.at (i:=1) rfl) ?_;refine ρ ?_;refine sto (p:=⟨g,1,none⟩) (a2.cell 1) (a2.frozen _) ?_;have bb:ItB (w8.setCell ⟨g,1,none⟩ (.int .i64 ((L:Int)+1))) g A d (L+1) lo hi (upd f L p) (upd h L e) st:=a2.set 1 (.int .i64 ((L:Int)+1));have ai:GrN (λk=>k=g) w (w8.setCell ⟨g,1,none⟩ (.int .i64 ((L:Int)+1))):=aj.trans (GrN.set _ rfl);refine ρ ?_;exact Jq ⟨rfl,ai,lo,hi,ad,b2,a8,bb⟩
end
open Go.RowKit Pl Go.Wk
variable {I:List Nat}{a i k:Nat}
def gtN(U:List V)(key:V): Nat:=(U.filter λy=>decide (cmpV key y<0)).length
theorem Qgh(U:List V)(key:V): gtN U key<=U.length:=List.length_filter_le _ _
theorem Jns: ∀ {U:List V} {key key':V},key'∈U->cmpV key key'<0->gtN U key'<gtN U key
 | [],_,_,h,_=>by cases h
 | x::U,key,key',h,hlt=>by
  have mono:∀ U:List V,gtN U key'<=gtN U key:=λU=>by
   induction U with
   | nil=>exact nR _
   | cons y U ih=>
    unfold gtN at *;by_cases e:cmpV key' y<0
    .have:=cmp_V.lt_trans hlt e;grind
    repeat grind
  rcases List.mem_cons.1 h with rfl|h'
  .have:=mono U;grind [gtN,List.filter_cons_of_neg,Zr,List.filter_cons_of_pos,List.length_cons]
  have ih:=Jns h' hlt;unfold gtN at *;by_cases e:cmpV key' x<0
  .have:=cmp_V.lt_trans hlt e;grind
  repeat grind
structure Fix where
 G: Nat->Nat
 A:Nat->Option Addr
 d:Nat->Nat
 rs:Nat->List Row
structure Lev where
 L: Nat->Nat
 lo:Nat->Nat
 e:Nat->Nat
 f:Nat->Nat->Nat
 h:Nat->Nat->Nat
def Fix.val(F:Fix)(V':Lev)(i a:Nat): V:=(lvl (F.rs i) (V'.L i-1)).getD a V0
def Ik(F:Fix)(I:List Nat): List Value:=I.map λi=>.pointer (some ⟨F.G i,0,none⟩)
theorem Iz{F:Fix}(h:k<I.length): (Ik F I)[k]?=some (.pointer (some ⟨F.G (I.getD k 0),0,none⟩)):=by simp[Ik,List.getD,List.getElem?_eq_getElem h]
structure OnS(F:Fix)(V':Lev)(I:List Nat): Prop where
 lev:∀ i∈I,0<V'.L i/\V'.L i<=F.d i/\F.d i<=32
 rng:∀ i∈I,V'.e i<=(lvl (F.rs i) (V'.L i-1)).length/\V'.e i<=1000000
 srt:∀ i∈I,∀ a b,V'.lo i<=a->a<b->b<V'.e i->cmpV (F.val V' i a) (F.val V' i b)<0
 inj:∀ i∈I,∀ j∈I,F.G i=F.G j->i=j
 len:I.length<=32
def NG(F:Fix)(I:List Nat)(J:Nat)(k:Nat): Prop:=k=J∨∃ i∈I,k=F.G i
def Its(F:Fix)(V':Lev)(I:List Nat)(w:World)(p:Nat->Nat): Prop:=∀ i∈I,∃ st,ItB w (F.G i) (F.A i) (F.d i) (V'.L i) (p i) (V'.e i) (V'.f i) (V'.h i) st
def Cmn(F:Fix)(V':Lev)(I:List Nat)(y:V): Prop:=∀ i∈I,∃ a,V'.lo i<=a/\a<V'.e i/\F.val V' i a=y
def JB(w:World)(J:Nat)(jr ja yv:Value): Prop:=∃ st:Int,Blk w J 191 [jr,ja,.int .i64 st,yv]
def Kc(F:Fix)(V':Lev)(I:List Nat): List V:=I.flatMap λi=>(List.range (V'.e i-V'.lo i)).map λa=>F.val V' i (V'.lo i+a)
theorem Qpf{F:Fix}{V':Lev}(hi:i∈I)(h1:V'.lo i<=a)(h2:a<V'.e i): F.val V' i a∈Kc F V' I:=by
 refine List.mem_flatMap.2 ⟨i,hi,List.mem_map.2 ⟨a-V'.lo i,List.mem_range.2 om,?_⟩⟩;congr 1;omega
theorem Jtr{F:Fix}{V':Lev}: ∀ {I:List Nat},(∀ i∈I,V'.e i<=1000000)->(Kc F V' I).length<=I.length*1000000
 | [],_=>nR _
 | i::I,h=>by
  have ih:=Jtr (F:=F) (V':=V') (I:=I) (λj hj=>h j (List.mem_cons_of_mem _ hj));grind [List.mem_cons_self,Kc,List.length_append,List.length_map,List.length_range,List.length_cons]
theorem Qmc{a b c:V}(h1:cmpV a b<=0)(h2:cmpV b c<=0): cmpV a c<=0:=cmp_V.trans a b c h1 h2
theorem Qxl(k n:Nat): (k:Int).tmod (n:Int)=((k % n:Nat):Int):=by grind
open Go.RowKit Pl Go.Wk
variable {J b c i j k n r s:Nat}{w w' w'':World}
theorem _root_.Go.Wk.GrN.newBy{N:Nat->Prop}(h:GrN N w w')(hg:w'.grownBy w'' (some b))(hb:w.heap.size<=b): GrN N w w'' :=
 ⟨hg.os.trans h.os,hg.tape.trans h.tape,hg.output.trans h.output,Nat.le_trans h.size hg.size,λk u hn=>(hg.block k (nM u h.size) (λe=>by grind)).trans (h.block k u hn)⟩
theorem Jlx{α:Type}{l:List α}(h:l.Nodup)(hi:i<l.length)(hj:j<l.length)(e:l[i]=l[j]): i=j:=by grind [List.pairwise_iff_getElem.1,Nat.lt_trichotomy]
theorem Qcn(h1:1<=s)(h2:s<n)(h3:s<=k): (k-s) % n≠k % n:=by
 intro e;have D:(k-s+s) % n=(k-s) % n:=by grind
 have y:((k-s) % n+s) % n=(k-s) % n:=by grind [Nat.mod_add_mod]
 generalize hx:(k-s) % n=x at *
 have u:x<n:=by rw[<-hx];exact Nat.mod_lt _ om
 rcases Nat.lt_or_ge (x+s) n with h6|h6
 .grind [Nat.mod_eq_of_lt]
 rw[Nat.mod_eq_sub_mod h6,Nat.mod_eq_of_lt om]at y;omega
theorem Qcp(hr:r<n)(hk:n<=k): ∃ s,1<=s/\s<=n/\(k-s) % n=r:=by
 have F:k % n<n:=Nat.mod_lt _ om;have y:=Nat.div_add_mod k n;by_cases h:r<k % n
 .refine⟨k % n-r,om,om,?_⟩;have:k-(k % n-r)=n*(k / n)+r:=om
  rw[this,Nat.mul_add_mod,Nat.mod_eq_of_lt hr]
 refine⟨k % n+n-r,om,om,?_⟩;have D:1<=k / n:=by grind
 obtain⟨q,u⟩:∃ q,k / n=q+1:=⟨k / n-1,om⟩;rw[u,Nat.mul_succ]at y;have:k-(k % n+n-r)=n*q+r:=om
 rw[this,Nat.mul_add_mod,Nat.mod_eq_of_lt hr]
theorem Jmj{F:Fix}{V':Lev}{I:List Nat}{p:Nat->Nat}{jr ja yv:Value}{B:Option Addr}(hO:OnS F V' I)(hne:0<I.length)(hnd:I.Nodup)(hIts:Its F V' I w p)(hJ:JB w J jr ja yv)(hJG:∀ i∈I,F.G i≠J)(hT:∀ i∈I,Off (NG F I J) w (λu=>TriA u (F.A i) (F.d i) (F.rs i)))(hB:Off (NG F I J) w (λu=>Rd u 1 B I.length (Ik F I)))(hp:∀ i∈I,V'.lo i<=p i/\p i<V'.e i)(hK:∀ i∈I,∀ a,V'.lo i<=a->a<p i->cmpV (F.val V' i a) (F.val V' (I.getD 0 0) (p (I.getD 0 0)))<0):
  Ret Tryz.prog 141 [.pointer (some ⟨J,0,none⟩),.slice B I.length c] w λu w'=>GrN (NG F I J) w w'/\JB w' J jr ja yv/\∃ p' t,u=.bool t/\Its F V' I w' p'/\(∀ i∈I,V'.lo i<=p' i/\p' i<=V'.e i) /\
   (t=true->∃ x,(∀ i∈I,p' i<V'.e i/\F.val V' i (p' i)=x)/\cmpV (F.val V' (I.getD 0 0) (p (I.getD 0 0))) x<=0/\∀ y,Cmn F V' I y->cmpV (F.val V' (I.getD 0 0) (p (I.getD 0 0))) y<=0->cmpV x y<=0) /\
   (t=false->∀ y,Cmn F V' I y->¬ cmpV (F.val V' (I.getD 0 0) (p (I.getD 0 0))) y<=0):=by
 have ad:I.getD 0 0∈I:=getD_mem' 0 I hne;obtain⟨K0,b9⟩:∃ K0,K0=F.val V' (I.getD 0 0) (p (I.getD 0 0)):=⟨_,rfl⟩;rw[<-b9]at hK ⊢;have cq:=hO.len;have av:∀ i∈I,F.G i<w.heap.size:=λi hi=>by obtain⟨st,O⟩:=hIts i hi;exact O.lt
 have bs:J<w.heap.size:=by obtain⟨st,O⟩:=hJ;exact O.lt
 refine Jz Tryz.func141 Tryz.ntmps141 rfl kr rfl ?_;refine ρ ?_;refine ix 0 hB.here hne ?_;refine ρ ?_;refine ld (hB.here.cell (Iz hne)) ?_;refine ρ ?_;obtain⟨cw,bw⟩:=hIts _ ad;have an:=hO.lev _ ad;have b5:=hp _ ad;have c8:=hO.rng _ ad;refine cl (Jbf bw (hT _ ad).here an.2.1 an.2.2 (λ_=>c8.1)) ?_;rintro u w1 ⟨bi,v,rfl,hv⟩;have c7:=hv ⟨an.1,b5.2⟩;have c6:v=K0:=by rw[c7,b9];rfl
 subst c6;rw[decide_eq_true (show 0<V'.L (I.getD 0 0)/\p (I.getD 0 0)<V'.e (I.getD 0 0) from⟨an.1,b5.2⟩)];refine ρ ?_;refine alc (cs:=V0.cells) Jjq ?_;intro w2 bk bh b6 c0;refine ρ ?_;refine stb (cs':=v.cells) c0 ?_ (V.one _);intro w3 ax cj bg;have ap:Ext w1 w3:=bg w1 bh b6;have a7:=bi.trans ap;have bo:w.heap.size<=bk:=nL bi.size b6;refine ρ ?_;refine Gb (fun (same k:Nat) (key:V) (p:Nat->Nat)=>[(0,.pointer (some ⟨J,0,none⟩)),(1,.slice B I.length c),(5,.pointer (some ⟨bk,0,none⟩)),(7,.int .i64 (same:Int)),(8,.int .i64 (k:Int))])
  (λsame k key p w'=>GrN (NG F I J) w w'/\JB w' J jr ja yv/\Its F V' I w' p/\Blk w' bk 75 key.cells/\(∀ i∈I,V'.lo i<=p i/\p i<V'.e i)/\(∀ i∈I,∀ a,V'.lo i<=a->a<p i->cmpV (F.val V' i a) key<0)/\cmpV v key<=0/\(∀ y,Cmn F V' I y->cmpV v y<=0->cmpV key y<=0) /\
   1<=same/\same<=I.length/\same<=k/\k+(gtN (Kc F V' I) key*33+(I.length-same))<=2000000000/\(∀ s,1<=s->s<=same->F.val V' (I.getD ((k-s) % I.length) 0) (p (I.getD ((k-s) % I.length) 0))=key)) (λsame k key p=>gtN (Kc F V' I) key*33+(I.length-same)) 1 1 v p sB
  ⟨GrN.ext a7,?_,λi hi=>?_,ax,hp,hK,by rw[Zr];omega,λy _ h'=>h',Nat.le_refl _,hne,Nat.le_refl _,?_,λs O h2=>?_⟩ ?_
 .obtain⟨st,hJ⟩:=hJ;exact⟨st,hJ.ext a7⟩
 .obtain⟨st,hI⟩:=hIts i hi;exact⟨st,hI.ext a7⟩
 .have O:=Qgh (Kc F V' I) v;have h2:=Jtr (F:=F) (V':=V') (I:=I) (λi hi=>(hO.rng i hi).2);omega
 .have:s=1:=om
  subst this;rw[Nat.sub_self,Nat.zero_mod];exact b9.symm
 clear ax cj bg c0 ap a7 bh b6 hJ hIts hp hK bw b5;rintro same k key p w4 ⟨ao,⟨sj,bu⟩,a5,aw,a3,b8,b3,a9,cz,cy,cx,d6,bj⟩;refine ρ ?_;refine ci (λO=>?_) (λO=>?_)
 .have d2:same<I.length:=by have:=oT O;omega
  clear O;have c4:=hB w4 ao;refine ρ ?_;refine rem (show((I.length:Nat):Int)≠0 by omega) ?_;rw[Qxl];have lr:k % I.length<I.length:=Nat.mod_lt _ hne;refine ρ ?_;refine ix (k % I.length) c4 lr ?_;refine ρ ?_;refine ld (c4.cell (Iz lr)) ?_;refine ρ ?_;obtain⟨i,hi⟩:∃ i,i=I.getD (k % I.length) 0:=⟨_,rfl⟩;rw[<-hi];have D:i∈I:=by rw[hi];exact getD_mem' 0 I lr
  refine lds (cs:=key.cells) (λj u hu=>aw.at hu) ?_;refine ρ ?_;obtain⟨cv,cm⟩:=a5 i D;have a4:=hO.lev i D;have b4:=hO.rng i D;have cc:=a3 i D;have br:Off (λk=>k=F.G i) w4 (λu=>TriA u (F.A i) (F.d i) (F.rs i)):=((hT i D).gr ao).mono λj _ ej=>.inr ⟨i,D,ej⟩;refine cl (Qfk (v:=key) cm br a4.1 a4.2.1 a4.2.2 cc.2 b4.1 b4.2 (λa b O h2 h3=>hO.srt i D a b om h2 h3)) ?_;rintro u w5 ⟨ah,q,c5,rfl,d1,d0,cb,ca,bv⟩;have cn:∀ j∈I,j≠i->¬ (λk=>k=F.G i) (F.G j):=λj hj ce e=>ce (hO.inj j hj i D e);have bm:GrN (NG F I J) w4 w5:=ah.mono λj _ ej=>.inr ⟨i,D,ej⟩;have ak:Its F V' I w5 (upd p i q):=λj hj=>by
   by_cases e:j=i
   .subst e;rw[Qw];exact⟨c5,bv⟩
   rw[Jm _ _ e];obtain⟨st,a6⟩:=a5 j hj;exact⟨st,Ja a6 ah (cn j hj e)⟩
  have bt:=Ja bu ah (λe=>hJG i D e.symm);have bp:¬ (λk=>k=F.G i) bk:=λe=>by have O:=av i D;omega
  have bz:=Ja aw ah bp;have af:=ao.trans bm;have Z:∀ a,V'.lo i<=a->a<q->cmpV (F.val V' i a) key<0:=λa O h2=>by
   by_cases h3:a<p i
   .exact b8 i D a O h3
   exact cb a om h2
  refine ρ ?_;refine ci (λO=>?_) (λO=>?_)
  .have ac:¬ q<V'.e i:=by simpa using O
   refine ρ ?_;refine Jq ⟨af,⟨sj,bt⟩,upd p i q,false,rfl,ak,λj hj=>?_,λe=>(by cases e),λ_ y hy b2=>?_⟩
   .by_cases e:j=i
    .subst e;rw[Qw];omega
    rw[Jm _ _ e];have:=a3 j hj;omega
   obtain⟨a,h2,h3,h4⟩:=hy i D;have h5:=a9 y hy b2;have h6:=Z a h2 om;rw[h4]at h6;have:=cmp_V.anti key y;omega
  have ac:q<V'.e i:=by simpa using O
  have c9:=ca ac;clear O;refine ρ ?_;refine cl (Jbf bv (br w5 ah) a4.2.1 a4.2.2 (λ_=>b4.1)) ?_;rintro u w6 ⟨ay,nx,rfl,cd⟩;have a2:nx=F.val V' i q:=cd ⟨a4.1,ac⟩;rw[decide_eq_true (show 0<V'.L i/\q<V'.e i from⟨a4.1,ac⟩)];refine ρ ?_;refine alc (cs:=V0.cells) Jjq ?_;intro w7 b7 bf bq c3;refine ρ ?_;refine stb (cs':=nx.cells) c3 ?_ (V.one _);intro w8 c2 ch be;have a8:Ext w5 w8:=ay.trans (be w6 bf bq);have aj:=bt.ext a8;refine ρ ?_;refine ld (aj.at (i:=2) rfl) ?_;refine ρ ?_;refine sto (p:=⟨J,2,none⟩) (aj.cell 2) (aj.frozen _) ?_;have ck:=aj.set 2 (.int .i64 (IntKind.i64.wrap (sj+1)));have cg:GrN (NG F I J) w8 (w8.setCell ⟨J,2,none⟩ (.int .i64 (IntKind.i64.wrap (sj+1)))):=GrN.set _ (.inl rfl);have cr:w.heap.size<=b7:=nL af.size (nL ay.size bq);have c1:Blk (w8.setCell ⟨J,2,none⟩ (.int .i64 (IntKind.i64.wrap (sj+1)))) b7 75 nx.cells:=c2.far (by simp only;omega) _;have am:Blk (w8.setCell ⟨J,2,none⟩ (.int .i64 (IntKind.i64.wrap (sj+1)))) bk 75 key.cells:=(bz.ext a8).far (by simp only;omega) _
  have ba:Its F V' I (w8.setCell ⟨J,2,none⟩ (.int .i64 (IntKind.i64.wrap (sj+1)))) (upd p i q):=λj hj=>by
   obtain⟨st,a6⟩:=ak j hj;exact⟨st,(a6.ext a8).far (hJG j hj) _⟩
  have ar:=(af.trans (GrN.ext a8)).trans cg;clear ch be c2 c3 bf ay aj;generalize w8.setCell ⟨J,2,none⟩ (.int .i64 (IntKind.i64.wrap (sj+1)))=w9 at *
  have bl:∀ j∈I,V'.lo j<=upd p i q j/\upd p i q j<V'.e j:=λj hj=>by
   by_cases e:j=i
   .subst e;rw[Qw];have:=a3 j hj;omega
   rw[Jm _ _ e];exact a3 j hj
  refine ρ ?_;refine lds (cs:=nx.cells) (λj u hu=>c1.at hu) ?_;refine ρ ?_;refine lds (cs:=key.cells) (λj u hu=>am.at hu) ?_;refine ρ ?_;refine cl (Jxv nx key _) ?_;rintro u bd ⟨rfl,a1⟩;refine ρ ?_;have au:JB bd J jr ja yv:=⟨_,ck.ext a1⟩;have aa:Its F V' I bd (upd p i q):=λj hj=>by
   obtain⟨st,a6⟩:=ba j hj;exact⟨st,a6.ext a1⟩
  refine ci (λO=>?_) (λO=>?_)
  .have bn:nx=key:=cmp_V.zero _ _ (Yp O);refine ρ ?_;refine Yk (same+1) (k+1) key (upd p i q) sO ⟨ar.trans (GrN.ext a1),au,aa,am.ext a1,bl,λj hj a h2 h3=>?_,b3,a9,om,om,om,om,λs h2 h3=>?_⟩ om
   .by_cases e:j=i
    .subst e;rw[Qw]at h3;exact Z a h2 h3
    rw[Jm _ _ e]at h3;exact b8 j hj a h2 h3
   by_cases e:s=1
   .subst e;rw[Nat.add_sub_cancel,<-hi,Qw,<-a2,bn]
   have h4:k+1-s=k-(s-1):=om
   rw[h4];have h5:(k-(s-1)) % I.length<I.length:=Nat.mod_lt _ hne;have h6:I.getD ((k-(s-1)) % I.length) 0≠i:=λe2=>by
    rw[hi,Ql 0 I h5,Ql 0 I lr]at e2;have e3:=Jlx hnd h5 lr e2;exact Qcn (n:=I.length) (k:=k) (s:=s-1) om om om e3
   rw[Jm _ _ h6];exact bj (s-1) om om
  have cp:=Vr O;have ae:cmpV key nx<0:=by
   have h2:=cmp_V.anti nx key;have h3:¬ cmpV nx key<0:=by rw[a2];exact c9
   omega
  have d3:=Jns (U:=Kc F V' I) (by rw[a2];exact Qpf D om ac) ae;have bc:=am.ext a1;refine ρ ?_;refine lds (cs:=nx.cells) (λj u hu=>(c1.ext a1).at hu) ?_;refine ρ ?_;refine stb (cs':=nx.cells) bc ?_ (V.one _);intro cu bb ai co;have aq:∀ {g:Nat},g<w.heap.size->some g≠some bk:=fun {g} hg e=>by injection e with e;omega
  refine ρ ?_;refine Yk 1 (k+1) nx (upd p i q) sO ⟨(ar.trans (GrN.ext a1)).newBy ai bo,?_,λj hj=>?_,bb,bl,λj hj a h2 h3=>?_,?_,λy hy b2=>?_,Nat.le_refl _,hne,om,om,λs h2 h3=>?_⟩ om
  .obtain⟨st,hJ⟩:=au;exact⟨st,hJ.grown ai (aq bs)⟩
  .obtain⟨st,a6⟩:=aa j hj;exact⟨st,a6.grown ai (aq (av j hj))⟩
  .by_cases e:j=i
   .subst e;rw[Qw]at h3;exact cmp_V.lt_trans (Z a h2 h3) ae
   rw[Jm _ _ e]at h3;exact cmp_V.lt_trans (b8 j hj a h2 h3) ae
  .exact Qmc b3 om
  .obtain⟨a,h2,h3,h4⟩:=hy i D;have h5:=a9 y hy b2;have h6:q<=a:=by
    rcases Nat.lt_or_ge a q with h7|h7
    .have h8:=Z a h2 h7;rw[h4]at h8;have:=cmp_V.anti key y;omega
    exact h7
   rw[a2,<-h4];by_cases e:a=q
   .subst e;rw[Zr];omega
   have:=hO.srt i D q a om om h3;omega
  have:s=1:=om
  subst this;rw[Nat.add_sub_cancel,<-hi,Qw];exact a2.symm
 have d5:same=I.length:=by have:=oF O;omega
 refine ρ ?_;refine Jq ⟨ao,⟨sj,bu⟩,p,true,rfl,a5,λi hi=>⟨(a3 i hi).1,Nat.le_of_lt (a3 i hi).2⟩,λ_=>⟨key,λi hi=>⟨(a3 i hi).2,?_⟩,b3,a9⟩,λe=>by cases e⟩;obtain⟨r,hr,er⟩:=List.getElem_of_mem hi;obtain⟨s,O,h2,h3⟩:=Qcp hr (show I.length<=k by omega);have:=bj s O om;rw[h3,Ql 0 I hr,er]at this;exact this
end Go.Proofs.YtebiphhfkdbpfaaGreat
namespace Go.Proofs.YtebiphhfkdbpfaaGreat
open Pl
variable {vs:List Nat}{d k l n u v:Nat}{q y z z':Row}
def Qo(vs:List Nat): Prop:=vs.Pairwise (· < ·)
def lv(vs:List Nat)(v:Nat): Nat:=(vs.filter λu=>decide (u<v)).length
theorem Jmr(vs:List Nat)(v:Nat): lv vs v<=vs.length:=List.length_filter_le _ _
theorem Jqr(vs:List Nat): lv vs 0=0:=by simp[lv]
theorem Jmt(h:∀ u∈vs,u<n): lv vs n=vs.length:=by grind [lv,List.filter_eq_self.2]
theorem Jkc(u:Nat)(vs:List Nat)(v:Nat): lv (u::vs) v=(if u<v then 1 else 0)+lv vs v:=by grind [lv,List.filter_cons_of_pos,List.length_cons,List.filter_cons_of_neg]
theorem Jmq(h:∀ u∈vs,v<=u): lv vs v=0:=by grind [lv,List.filter_eq_nil_iff.2]
theorem Kq(h:v ∉ vs): lv vs (v+1)=lv vs v:=by
 induction vs with
 | nil=>rfl
 | cons u vs ih=>
  grind [Jkc,List.mem_cons_of_mem,List.mem_cons_self]
theorem Vc(ha:Qo vs)(h:v∈vs): lv vs (v+1)=lv vs v+1/\lv vs v<vs.length/\vs.getD (lv vs v) 0=v:=by
 induction vs with
 | nil=>cases h
 | cons u vs ih=>
  obtain⟨D,y⟩:=List.pairwise_cons.1 ha;rw[Jkc,Jkc];rcases List.mem_cons.1 h with rfl|h'
  .grind [lv,Jmq,Nat.le_of_lt,List.length_cons]
  have O:=D v h';obtain⟨J,G,F⟩:=ih y h';grind
theorem Qdd(ha:Qo vs): vs.take (lv vs v)=vs.filter λu=>decide (u<v):=by
 induction vs with
 | nil=>rfl
 | cons u vs ih=>
  obtain⟨D,y⟩:=List.pairwise_cons.1 ha;by_cases h:u<v
  .rw[Jkc,if_pos h,Nat.add_comm 1,List.take_succ_cons,ih y,List.filter_cons_of_pos (by simpa using h)]
  repeat grind [lv,Jmq,List.mem_cons.1,List.filter_eq_nil_iff.2]
theorem Jfs(h:z.take v=z'.take v)(hu:u<v): z.getD u V0=z'.getD u V0:=by
 have:=congrArg (λl=>l.getD u V0) h;grind
theorem Jyk(ha:Qo vs)(h:z.take v=z'.take v): (pmR vs z).take (lv vs v)=(pmR vs z').take (lv vs v):=by
 unfold pmR;rw[<-List.map_take,<-List.map_take,Qdd ha];grind [List.map_congr_left,Jfs,List.mem_filter.1]
theorem Jlf(h:k<vs.length): (pmR vs z).getD k V0=z.getD (vs.getD k 0) V0:=Jlc h
theorem Jld(ha:Qo vs)(h:v∈vs): (pmR vs z).take (lv vs v+1)=(pmR vs z).take (lv vs v)++[z.getD v V0]:=by
 obtain⟨_,u,y⟩:=Vc ha h;rw[Xu V0 (by rw[Zj];exact u),Jlf u,y]
theorem Jrz: ∀(v:Nat) (z z':Row),z.take v=z'.take v->v<z.length->v<z'.length->cmpV (z.getD v V0) (z'.getD v V0)<0->Jk z z' []<0
 | 0,a::z,b::z',_,_,_,h=>by
  simp only[List.getD_cons_zero]at h;simp only[Jk];rw[if_neg om];exact h
 | v+1,a::z,b::z',h,h1,h2,h3=>by
  simp only[List.take_succ_cons,List.cons.injEq]at h;simp only[Jk];rw[if_pos (by grind [Zr])];exact Jrz v z z' h.2 (by simpa using h1) (by simpa using h2) (by simpa using h3)
 | _,[],_,_,h,_,_=>by simp at h
 | _,_::_,[],_,_,h,_=>by simp at h
def Gy(n m:Nat)(vars:Nat->List Nat)(rs:Nat->List Row)(z:Row): Prop:=z.length=n/\∀ i,i<m->pmR (vars i) z∈rs i
theorem Qxp(h1:q.length=l+1)(h2:q.take l=y): q=y++[q.getD l V0]:=by
 have:=Xu V0 (l:=q) (k:=l) om;grind
theorem Qyd{rs:List Row}(h:Srt [] rs)(hl:∀ r∈rs,r.length=d)(hld:l<=d)(hq:q∈pfx rs l): q.length=l:=by grind [Jqj,List.length_take]
theorem Qzv(x:V): (z.set v x).take v=z.take v:=List.take_set_of_le (nR _)
theorem Qzw(x:V)(h:v<z.length): (z.set v x).getD v V0=x:=by grind
theorem Jfr(h:z.take v=z'.take v)(hu:u<=v): z.take u=z'.take u:=by
 have:=congrArg (List.take u) h;grind
theorem Qxn(h:z.take v=z'.take v)(h1:v<z.length)(h2:v<z'.length)(h3:z.getD v V0=z'.getD v V0): z.take (v+1)=z'.take (v+1):=by grind [Xu,V0]
open Go.RowKit Pl Go.Wk
attribute [local irreducible] WC WL QX WD WDB WP WN
variable {L' e' i k v:Nat}{f' h' p':Nat->Nat}
structure JC where
 F: Fix
 n:Nat
 m:Nat
 vars:Nat->List Nat
 J:Nat
 Ra:Option Addr
 base:Nat
 ja:Value
 yv:Value
 vat:Nat->Value
 N:Nat->Prop
def JC.I(c:JC)(v:Nat): List Nat:=(List.range c.m).filter λi=>decide (v∈c.vars i)
theorem JC.mem_I{c:JC}: i∈c.I v↔i<c.m/\v∈c.vars i:=by simp[JC.I]
theorem JC.nodup_I(c:JC)(v:Nat): (c.I v).Nodup:=List.Nodup.sublist List.filter_sublist List.nodup_range
theorem JC.len_I(c:JC)(v:Nat): (c.I v).length<=c.m:=by have:=List.length_filter_le (λi=>decide (v∈c.vars i)) (List.range c.m);rw[List.length_range]at this;exact this
def JC.rowv(c:JC): Value:=.slice c.Ra c.n c.n
abbrev JC.Ans(c:JC)(z:Row): Prop:=Gy c.n c.m c.vars c.F.rs z
def JC.NI(c:JC)(k:Nat): Prop:=k=c.J∨(∃ i,i<c.m/\k=c.F.G i)∨c.rowv.ownBlock=some k
structure JOk(c:JC): Prop where
 n32:c.n<=32
 m32:c.m<=32
 asc:∀ i,i<c.m->Qo (c.vars i)
 lt:∀ i,i<c.m->∀ u∈c.vars i,u<c.n
 d:∀ i,i<c.m->c.F.d i=(c.vars i).length
 d32:∀ i,i<c.m->c.F.d i<=32
 ne:∀ i,i<c.m->c.F.rs i≠[]
 srt:∀ i,i<c.m->Lt [] (c.F.rs i)
 len:∀ i,i<c.m->∀ r∈c.F.rs i,r.length=c.F.d i
 big:∀ i,i<c.m->(c.F.rs i).length<=65536
 inj:∀ i j,i<c.m->j<c.m->c.F.G i=c.F.G j->i=j
 gj:∀ i,i<c.m->c.F.G i≠c.J
 cov:∀ v,v<c.n->∃ i,i<c.m/\v∈c.vars i
 sub:∀ k,c.NI k->c.N k
structure JEnv(c:JC)(w:World): Prop where
 tri:∀ i,i<c.m->Off c.N w (λu=>TriA u (c.F.A i) (c.F.d i) (c.F.rs i))
 at_:∃ B cc,c.ja=.slice B c.n cc/\Off c.N w (λu=>Rd u 1 B c.n ((List.range c.n).map c.vat))
 lists:∀ v,v<c.n->∃ B cc,c.vat v=.slice B (c.I v).length cc/\Off c.N w (λu=>Rd u 1 B (c.I v).length (Ik c.F (c.I v)))
theorem JEnv.gr{c:JC}{w w':World}(h:JEnv c w)(hg:GrN c.N w w'): JEnv c w':=by
 refine⟨λi hi=>(h.tri i hi).gr hg,?_,λv D=>?_⟩
 .obtain⟨B,y,e,u⟩:=h.at_;exact⟨B,y,e,u.gr hg⟩
 obtain⟨B,y,e,u⟩:=h.lists v D;exact⟨B,y,e,u.gr hg⟩
def AllIt(c:JC)(w:World)(L p e:Nat->Nat)(f h:Nat->Nat->Nat): Prop:=∀ i,i<c.m->∃ st,ItB w (c.F.G i) (c.F.A i) (c.F.d i) (L i) (p i) (e i) (f i) (h i) st
structure YC(c:JC)(Y:List Row->World->Prop)(NY:Nat->Prop): Prop where
 sub:∀ k,NY k->c.N k
 off:∀ k,NY k->¬ c.NI k
 keep:∀ l w w',Y l w->GrN c.NI w w'->Y l w'
 call:∃ fid first cap,c.yv=.func (.func fid) first cap/\∀ l w vr z,Y l w->RowV w vr z->l.length<65536->Ret Tryz.prog fid (first.toList++[vr]++cap.toList) w λr w'=>r=.bool true/\Y (l++[z]) w'/\GrN NY w w'
structure Cfg(c:JC)(Y:List Row->World->Prop)(w:World)(z:Row)(L p e:Nat->Nat)(f h:Nat->Nat->Nat)(l:List Row): Prop where
 env:JEnv c w
 its:AllIt c w L p e f h
 row:Yj w c.base c.rowv z
 zl:z.length=c.n
 jb:JB w c.J c.rowv c.ja c.yv
 y:Y l w
section
variable {c:JC} {Y:List Row->World->Prop} {NY:Nat->Prop} {w w':World} {z:Row} {L p e:Nat->Nat} {f h:Nat->Nat->Nat} {l:List Row}
theorem Cfg.ext(H:Cfg c Y w z L p e f h l)(hY:YC c Y NY)(hx:Ext w w'): Cfg c Y w' z L p e f h l :=
 ⟨H.env.gr (GrN.ext hx),λi hi=>by obtain⟨st,u⟩:=H.its i hi;exact⟨st,u.ext hx⟩,Jb H.row hx,H.zl,by obtain⟨st,u⟩:=H.jb;exact⟨st,u.ext hx⟩,hY.keep _ _ _ H.y (GrN.ext hx)⟩
theorem Cfg.rowG(H:Cfg c Y w z L p e f h l)(hi:i<c.m)(hk:c.rowv.ownBlock=some k): k≠c.F.G i:=λy=>by
 obtain⟨st,u⟩:=H.its i hi;exact u.ne_own H.row rfl (by rw[hk,y])
theorem Cfg.rowJ(H:Cfg c Y w z L p e f h l)(hk:c.rowv.ownBlock=some k): k≠c.J:=λy=>by
 obtain⟨st,u⟩:=H.jb;exact u.ne_own H.row rfl (by rw[hk,y])
theorem Cfg.it(H:Cfg c Y w z L p e f h l)(hok:JOk c)(hY:YC c Y NY)(hi:i<c.m)(hg:GrN (λk=>k=c.F.G i) w w'){p':Nat}{st:Int}(hI:ItB w' (c.F.G i) (c.F.A i) (c.F.d i) L' p' e' f' h' st):
  Cfg c Y w' z (upd L i L') (upd p i p') (upd e i e') (upd f i f') (upd h i h') l:=by
 have u:GrN c.NI w w':=hg.mono λk _ D=>.inr (.inl ⟨i,hi,D⟩);refine⟨H.env.gr (u.mono λk _ U=>hok.sub k U),λj O=>?_,Jo H.row hg (λg Z=>H.rowG hi Z),H.zl,?_,hY.keep _ _ _ H.y u⟩
 .by_cases ej:j=i
  .grind [Qw]
  rw[Jm _ _ ej,Jm _ _ ej,Jm _ _ ej,Jm _ _ ej,Jm _ _ ej];obtain⟨st,J⟩:=H.its j O;exact⟨st,Ja J hg (λD=>ej (hok.inj j i O hi D))⟩
 obtain⟨st,J⟩:=H.jb;exact⟨st,Ja J hg (λD=>hok.gj i hi D.symm)⟩
theorem Cfg.mt(H:Cfg c Y w z L p e f h l)(hok:JOk c)(hY:YC c Y NY)(hg:GrN (NG c.F (c.I v) c.J) w w')(hJ:JB w' c.J c.rowv c.ja c.yv)(hI:Its c.F ⟨L,λ_=>0,e,f,h⟩ (c.I v) w' p'):
  Cfg c Y w' z L (λi=>if i∈c.I v then p' i else p i) e f h l:=by
 have D:GrN c.NI w w':=hg.mono λk _ u=>by
  rcases u with u|⟨i,hi,u⟩
  .exact .inl u
  exact .inr (.inl ⟨i,(JC.mem_I.1 hi).1,u⟩)
 refine⟨H.env.gr (D.mono λk _ U=>hok.sub k U),λj G=>?_,Jo H.row hg (λg O=>?_),H.zl,hJ,hY.keep _ _ _ H.y D⟩
 .by_cases ej:j∈c.I v
  .simp only[if_pos ej];exact hI j ej
  simp only[if_neg ej];obtain⟨st,Z⟩:=H.its j G;refine⟨st,Ja Z hg ?_⟩;rintro(u|⟨i,hi,u⟩)
  .exact hok.gj j G u
  have:=hok.inj j i G (JC.mem_I.1 hi).1 u;subst this;exact ej hi
 rintro(u|⟨i,hi,u⟩)
 .exact H.rowJ O u
 exact H.rowG (JC.mem_I.1 hi).1 O u
end
end Go.Proofs.YtebiphhfkdbpfaaGreat
namespace Go.Wk
open Go.RowKit
open Go.Maps (Keyed)
variable {kl:Lit}{f:Lit->Option Value}{b k m:Nat}{x y:Operand}{kd:TK}{e t:TypeId}{key u v z:Value}
abbrev DV:= DataW Value
def RT(v:Value): Option (DV×List MemPlace):=some (.held v,[])
theorem Jts{ps:List MemPlace}(h:RT v=some (.held u,ps)): v=u:=by grind [RT,Option.some.injEq]
def MapS(P:Program)(k:TypeId)(w:World)(b n:Nat)(f:Lit->Option Value): Prop :=
 ∃ D:DV,w.ownsMap P k RT b n D/\(∀ kl,Maps.has D kl=(f kl).isSome)/\∀ kl zd,D.atKey kl zd=(match f kl with|some v=>.held v|none=>zd)
def upL(f:Lit->Option Value)(kl:Lit)(x:Option Value): Lit->Option Value:=λz=>if z.sameKey kl=true then x else f z
section
variable {P:Program} {k:TypeId} {w w':World} {b n:Nat} {f:Lit->Option Value}
theorem MapS.lt(h:MapS P k w b n f): b<w.heap.size:=by obtain⟨D,u,_⟩:=h;exact u.lt
theorem MapS.kept{row:Option Nat}(h:MapS P k w b n f)(hg:w.grownBy w' row)(hne:some b≠row): MapS P k w' b n f:=by
 obtain⟨D,y,u⟩:=h;exact⟨D,y.kept hg hne,u⟩
theorem MapS.gr{N:Nat->Prop}(h:MapS P k w b n f)(hg:GrN N w w')(hn:¬ N b): MapS P k w' b n f:=by
 obtain⟨D,⟨O,u,F,J⟩,G⟩:=h;have y:b<w.heap.size:=by grind
 exact⟨D,⟨O,u,(hg.block b y hn).trans F,J⟩,G⟩
theorem MapS.ext(h:MapS P k w b n f)(hx:Ext w w'): MapS P k w' b n f:=h.gr (N:=λ_=>False) (GrN.ext hx) (λe=>e)
theorem MapS.mono(h:MapS P k w b n f){m:Nat}(hm:n<=m): MapS P k w b m f:=by obtain⟨D,y,u⟩:=h;exact⟨D,y.mono hm,u⟩
theorem MapS.made(w:World)(P:Program)(k:TypeId): MapS P k (w.alloc (.map #[] 0)) w.heap.size 0 (λ_=>none) :=
 ⟨.map [],World.ownsMap_made w P k RT,λu=>rfl,λu y=>rfl⟩
theorem Jjw(hk:WideAt.IsKeyLit kl)(x:Option Value): upL f kl x kl=x:=by unfold upL;rw[if_pos (WideAt.sameKey_self hk)]
theorem Jjv{z:Lit}(h:z≠kl)(x:Option Value): upL f kl x z=f z:=by
 unfold upL;rw[if_neg (by rw[Maps.sameKey_ne h];simp)]
theorem MapS.look(h:MapS P k w b n f)(K:Keyed P k)(ht:P.underlying t=some (.map k e))(hz:(zeroValue e).run P w=.ok z w)(hkey:keyOf P k key=some kl):
  (Instr.lookup t (.map (some b)) key true).run P w=.ok (.tuple #[(f kl).getD z,.bool (f kl).isSome]) w/\(Instr.lookup t (.map (some b)) key false).run P w=.ok ((f kl).getD z) w:=by
 obtain⟨D,u,J,G⟩:=h;have O:D.atKey kl (.held z)=.held ((f kl).getD z):=by grind
 constructor
 .obtain⟨v,ps,F,y⟩:=u.look_ok K ht hz (zd:=.held z) (zp:=[]) rfl hkey;grind [Jts]
 obtain⟨v,ps,F,y⟩:=u.lookup K ht hz (zd:=.held z) (zp:=[]) rfl hkey;grind [Jts]
theorem MapS.put(h:MapS P k w b n f)(K:Keyed P k)(ht:P.underlying t=some (.map k e))(hn:n<maxLen)(hkey:keyOf P k key=some kl)(v:Value):
  ∃ w',(Instr.mapUpdate t (.map (some b)) key v).run P w=.ok () w'/\MapS P k w' b (n+1) (upL f kl (some v))/\w.grownBy w' (some b):=by
 obtain⟨D,y,U,O⟩:=h;obtain⟨w',F,G,J⟩:=y.update K ht hn hkey (val:=v) (d:=.held v) (ps:=[]) rfl;have u:=K.key hkey;refine⟨w',F,⟨_,G,λx=>?_,λx Z=>?_⟩,J⟩
 .by_cases e:x=kl
  .subst e;rw[Jjw u,Maps.has_put_same y.isMap u];rfl
  rw[Jjv e,Maps.has_put_other e,U]
 by_cases e:x=kl
 .subst e;rw[Jjw u,Maps.atKey_put_same y.isMap u]
 rw[Jjv e,Maps.atKey_put_other e,O]
theorem MapS.drop(h:MapS P k w b n f)(K:Keyed P k){t e:TypeId}(ht:P.underlying t=some (.map k e)){key:Value}{kl:Lit}(hkey:keyOf P k key=some kl)(ty:TypeId):
  ∃ w',(Builtin.delete_ #[t,k] ty #[.map (some b),key]).run P w=.ok (.tuple #[]) w'/\MapS P k w' b n (upL f kl none)/\w.grownBy w' (some b):=by
 obtain⟨D,U,O,J⟩:=h;obtain⟨w',y,F,G⟩:=U.drop K ht hkey ty;have u:=K.key hkey;refine⟨w',y,⟨_,F,λx=>?_,λx Z=>?_⟩,G.grown⟩
 .by_cases e:x=kl
  .subst e;rw[Jjw u,Maps.has_del_same];rfl
  rw[Jjv e,Maps.has_del_other e,O]
 by_cases e:x=kl
 .subst e;rw[Jjw u,Maps.atKey_del_same]
 rw[Jjv e,Maps.atKey_del_other e,J]
theorem MapS.len0(h:MapS P k w b n f)(ht:P.underlying t=some (.map k e))(K:Keyed P k)(ty:TypeId): ∃ m:Nat,(Builtin.len_ #[t] ty #[.map (some b)]).run P w=.ok (.int .i64 (m:Int)) w/\(m=0↔∀ kl,f kl=none):=by
 obtain⟨D,G,F,J⟩:=h;refine⟨Maps.size D,G.len ht ty,?_⟩;obtain⟨y,rfl,_,u⟩:=G.entries K;constructor
 .intro h0 kl;have:y=[]:=List.eq_nil_of_length_eq_zero h0;subst this;have:=F kl;cases hf:f kl with
  | none=>rfl
  | some v=>rw[hf]at this;cases this
 intro hn;cases y with
 | nil=>rfl
 | cons p y=>
  have:=F p.1;rw[hn p.1,Maps.has_eq,List.any_cons,WideAt.sameKey_self (u p (mC ..))]at this;cases this
theorem Qzx(hz:Qu P t=some z)(w:World): (zeroValue t).run P w=.ok z w:=by
 unfold Qu at hz;obtain⟨i,y,u⟩:=Option.bind_eq_some_iff.1 hz;simp[zeroValue,typeInfo,y,u]
end
section
variable {N:Nat->Prop} {P:Program} {n:Nat} {al:AL} {w:World} {Q:Exit->Act->World->Prop} {ops:Array Oper} {rest:List Oper} {drest:List (Nat×Oper)}
variable {d ty:Nat} {pos:String} {aft:Array Edge} {tt:TT}
theorem mkm{t:Nat}(k:TypeId)(kk:∀ w1 b,Ext w w1->w.heap.size<=b->MapS P k w1 b 0 (λ_=>none)->WL P n ops Q rest ((d,.map (some b))::al) w1)(hd:Nat.blt d n=true:=by rfl):
  WL P n ops Q (⟨some d,.makeMap t none,ty,pos,aft,none⟩::rest) al w :=
 wop hd (λa u=>by
  show _=Result.ok (Next.value (.map (some w.heap.size))) (w.alloc (.map #[] 0));simp[execOp,run_makeMap]) (kk _ _ ((Ext.refl w).alloc _) (nR _) (MapS.made w P k))
theorem mlk[hT:Tab P tt]{t e:Nat}(K:Keyed P k)(hM:MapS P k w b m f)(hz:Qu P e=some z)(hkey:keyOf P k key=some kl)(kk:WL P n ops Q rest ((d,(f kl).getD z)::al) w)(ht:tk tt t=some kd:=by rfl)(hk:kd.desc=.map k e:=by rfl)(hx:ev al x=some (.map (some b)):=by rfl)(hy:ev al y=some key:=by rfl)(hd:Nat.blt d n=true:=by rfl):
  WL P n ops Q (⟨some d,.lookup t x y false,ty,pos,aft,none⟩::rest) al w :=
 wop hd (λa u=>by
  have:=(hM.look K (Yl hT.ok ht hk rfl) (Qzx hz w) hkey).2;simp[execOp,u.ev hx,u.ev hy,this]) kk
theorem mup[hT:Tab P tt]{t e:Nat}{z:Operand}(K:Keyed P k)(hM:MapS P k w b m f)(hm:m<maxLen)(hkey:keyOf P k key=some kl)(kk:∀ w1,MapS P k w1 b (m+1) (upL f kl (some v))->w.grownBy w1 (some b)->WL P n ops Q rest al w1)(ht:tk tt t=some kd:=by rfl)(hk:kd.desc=.map k e:=by rfl)(hx:ev al x=some (.map (some b)):=by rfl)(hy:ev al y=some key:=by rfl)(hv:ev al z=some v:=by rfl):
  WL P n ops Q (⟨none,.mapUpdate t x y z,ty,pos,aft,none⟩::rest) al w:=by
 obtain⟨w',D,G,F⟩:=hM.put K (Yl hT.ok ht hk rfl) hm hkey v;exact Kn (λa u=>by simp[execOp,u.ev hx,u.ev hy,u.ev hv,D]) (kk w' G F)
end
end Go.Wk
namespace Go.Wk
open Go.RowKit
variable {cs:List Value}{b d n ty:Nat}{α β:Type}{v v' z:Value}
def Vp(base:Nat)(v:Value)(k:Nat): Prop:=k<base∨v.ownBlock=some k
def Jd(ps:List (List Value×α)): List Value:=ps.flatMap (·.1)
theorem Jpk{α:Type}{sz:Nat}: ∀ {ps:List (List Value×α)},(∀ p∈ps,p.1.length=sz)->(Jd ps).length=ps.length*sz
 | [],_=>by simp[Jd]
 | p::ps,h=>by
  have:=Jpk (ps:=ps) λq hq=>h q (List.mem_cons_of_mem _ hq);grind [Jd,List.length_append,List.length_cons,List.mem_cons_self,Nat.succ_mul]
theorem Jbp{α:Type}{sz:Nat}: ∀ {ps:List (List Value×α)} {i j:Nat} {p:List Value×α},(∀ p∈ps,p.1.length=sz)->ps[i]?=some p->j<sz->(Jd ps)[i*sz+j]?=p.1[j]?
 | [],_,_,_,_,h,_=>by cases h
 | q::ps,0,j,p,hl,h,hj=>by
  simp only[List.getElem?_cons_zero,Option.some.injEq]at h;subst h;simp only[Jd,List.flatMap_cons,Nat.zero_mul,Nat.zero_add];grind
 | q::ps,i+1,j,p,hl,h,hj=>by
  simp only[List.getElem?_cons_succ]at h;have ih:=Jbp (i:=i) (j:=j) (λp hp=>hl p (List.mem_cons_of_mem _ hp)) h hj;grind [Jd,List.getElem?_append_right,List.mem_cons_self,Nat.succ_mul]
section
variable {α:Type} {E:TypeId} {sz:Nat} {Φ:World->List Value->α->Prop} {w w':World} {base:Nat} {v:Value} {ls:List α}
def OwnG(E:TypeId)(sz:Nat)(Φ:World->List Value->α->Prop)(w:World)(base:Nat)(v:Value)(ls:List α): Prop :=
 ∃ ps:List (List Value×α),ls=ps.map (·.2)/\w.ownsRow base E sz v ps.length (Jd ps)/\∀ p∈ps,p.1.length=sz/\Off (Vp base v) w (λu=>Φ u p.1 p.2)
def GV(sz:Nat)(Φ:World->List Value->α->Prop)(w:World)(v:Value)(ls:List α): Prop :=
 ∃(ps:List (List Value×α)) (A:Option Addr) (c:Nat),ls=ps.map (·.2)/\v=.slice A ps.length c/\ps.length<=c/\ps.length<=1100000/\Rd w sz A ps.length (Jd ps)/\∀ p∈ps,p.1.length=sz/\Φ w p.1 p.2
theorem OwnG.nil(w:World)(base:Nat): OwnG E sz Φ w base (.slice none 0 0) []:=⟨[],rfl,Xj _ _ _ _,λp u=>by cases u⟩
theorem OwnG.gr{N:Nat->Prop}(h:OwnG E sz Φ w base v ls)(hg:GrN N w w')(hN:∀ k,N k->k<base): OwnG E sz Φ w' base v ls:=by
 obtain⟨ps,e,D,u⟩:=h;refine⟨ps,e,Jo D hg (λg G hn=>?_),λp y=>⟨(u p y).1,(u p y).2.gr (hg.mono λk _ F=>.inl (hN k F))⟩⟩;grind [Jy]
theorem OwnG.ext(h:OwnG E sz Φ w base v ls)(hx:Ext w w'): OwnG E sz Φ w' base v ls:=h.gr (N:=λ_=>False) (GrN.ext hx) (λk e=>e.elim)
theorem OwnG.form(h:OwnG E sz Φ w base v ls): ∃ A c,v=.slice A ls.length c/\ls.length<=c/\∀ g,v.ownBlock=some g->base<=g/\g<w.heap.size:=by
 obtain⟨ps,e,y,u⟩:=h;grind [Jy,List.length_map]
theorem OwnG.gv(h:OwnG E sz Φ w base v ls)(hm:ls.length<=1100000): GV sz Φ w v ls:=by
 obtain⟨ps,e,y,u⟩:=h;obtain⟨A,c,F,D,G⟩:=Jy y;subst F;exact⟨ps,A,c,e,rfl,D,by grind,Rd.own y,λp hm=>⟨(u p hm).1,(u p hm).2.here⟩⟩
theorem OwnG.off(h:OwnG E sz Φ w base v ls)(hm:ls.length<=1100000): Off (λk=>k<base) w (λu=>GV sz Φ u v ls):=λw' D=>(h.gr D λk y=>y).gv hm
theorem GV.ext(h:GV sz Φ w v ls)(hx:Ext w w')(hΦ:∀ cs a,Φ w cs a->Φ w' cs a): GV sz Φ w' v ls:=by
 obtain⟨ps,A,c,e,J,G,F,D,u⟩:=h;exact⟨ps,A,c,e,J,G,F,D.ext hx,λp y=>⟨(u p y).1,hΦ _ _ (u p y).2⟩⟩
theorem GV.imp{Ψ:World->List Value->β->Prop}{f:α->β}(h:GV sz Φ w v ls)(hΦ:∀ cs a,a∈ls->Φ w cs a->Ψ w cs (f a)): GV sz Ψ w v (ls.map f):=by
 obtain⟨ps,A,c,e,O,J,G,u,y⟩:=h;have F:Jd (ps.map λp=>(p.1,f p.2))=Jd ps:=by simp[Jd,List.flatMap_map]
 refine⟨ps.map λp=>(p.1,f p.2),A,c,by rw[e];simp,by grind,by grind,by grind,by grind,λp D=>?_⟩;grind
theorem GV.len(h:GV sz Φ w v ls): ∃ A c,v=.slice A ls.length c/\ls.length<=c/\ls.length<=1100000:=by
 obtain⟨ps,A,c,e,G,F,D,u,y⟩:=h;grind
theorem GV.parts(h:GV sz Φ w v ls): ∃ A c cs,v=.slice A ls.length c/\ls.length<=c/\ls.length<=1100000/\Rd w sz A ls.length cs/\∀ i (hi:i<ls.length),∃ ce,ce.length=sz/\Φ w ce ls[i]/\∀ j u,ce[j]?=some u->w.cell? ((adr A (i*sz)).add j)=some u:=by
 obtain⟨ps,A,c,e,e1,Z,U,G,D⟩:=h;subst e;refine⟨A,c,Jd ps,by grind,by grind,by grind,by grind,λi hi=>?_⟩;rw[List.length_map]at hi;have J:=D ps[i] (List.getElem_mem hi);refine⟨ps[i].1,J.1,by grind,λj u F=>?_⟩;have O:j<sz:=by grind
 rw[Gv];exact G.cell ((Jbp (λp y=>(D p y).1) (gE hi) O).trans F)
theorem OwnG.after{ps:List (List Value×α)}(e:ls=ps.map (·.2))(hp:∀ p∈ps,p.1.length=sz/\Off (Vp base v) w (λu=>Φ u p.1 p.2)){w':World}{x:α}(hl:cs.length=sz)(hx:Off (Vp base v) w (λu=>Φ u cs x))(ho:w'.ownsRow base E sz v' (ps.length+1) (Jd ps++cs))(hg:w.grownBy w' v.ownBlock)(hn:∀ g,v'.ownBlock=some g->v.ownBlock=some g∨w.heap.size<=g): OwnG E sz Φ w' base v' (ls++[x]):=by
 have y:∀(cs:List Value) (x:α),Off (Vp base v) w (λu=>Φ u cs x)->Off (Vp base v') w' (λu=>Φ u cs x):=λcs x F=>by
  have U:Off (Vp base v) w' (λu=>Φ u cs x):=F.gr (GrN.by hg λk D=>.inr D);have J:Off (λk=>Vp base v k∨Vp base v' k) w (λu=>Φ u cs x):=F.mono λk D h=>by
   rcases h with h|h|h
   .exact h
   .exact .inl h
   rcases hn k h with h4|h4
   .exact .inr h4
   omega
  exact(J.gr (GrN.by hg λk D=>.inl (.inr D))).mono λk _ h=>.inr h
 refine⟨ps++[(cs,x)],by rw[e];simp,?_,λp G=>?_⟩
 .have O:Jd (ps++[(cs,x)])=Jd ps++cs:=by simp[Jd]
  rw[List.length_append,O];exact ho
 rcases List.mem_append.1 G with h'|h'
 .exact⟨(hp p h').1,y _ _ (hp p h').2⟩
 rw[List.mem_singleton.1 h'];exact⟨hl,y _ _ hx⟩
end
theorem apG{P:Program}{al:AL}{w:World}{Q:Exit->Act->World->Prop}{ops:Array Oper}{rest:List Oper}{pos:String}{aft:Array Edge}{t E sz bytes base:Nat}(hE:ElT P t E sz bytes z){Φ:World->List Value->α->Prop}{x y:Operand}{ls:List α}{a:α}(ho:OwnG E sz Φ w base v ls)(hb:Blk w b E cs)(hl:cs.length=sz)(h1:∀ u∈cs,u.oneCell'=true)(hΦ:Off (Vp base v) w (λu=>Φ u cs a))(hm:ls.length<=1100000)(hby:bytes<=64)(hbase:base<=w.heap.size)(kk:∀ v' w',OwnG E sz Φ w' base v' (ls++[a])->w.grownBy w' v.ownBlock->(∀ g,v'.ownBlock=some g->v.ownBlock=some g∨w.heap.size<=g)->WL P n ops Q rest ((d,v')::al) w')(hx:ev al x=some v:=by rfl)(hy:ev al y=some (.slice (some ⟨b,0,none⟩) 1 1):=by rfl)(hd:Nat.blt d n=true:=by rfl):
  WL P n ops Q (⟨some d,.call { callee:=.builtin .append,args:=#[x,y],argTypes:=#[t,t] },ty,pos,aft,none⟩::rest) al w:=by
 obtain⟨ps,e,F,J⟩:=ho;have D:ps.length<=1100000:=by grind
 have G:(ps.length+1)*bytes<=1100001*64:=Nat.mul_le_mul om hby;refine apb hE F (hb.rd (n:=1) om) h1 (by unfold maxLen;omega) om hbase ?_ hx hy hd;grind [OwnG.after]
end Go.Wk
namespace Go.Proofs.YtebiphhfkdbpfaaGreat
namespace Pl
variable {cs l:List Nat}{c j n v:Nat}{g h:Nat->Nat}
def Ub: Nat->(Nat->Nat)->Nat
 | 0,_=>1
 | n+1,g=>Ub n g*g n
theorem Qvm(e:∀ c,c<n->g c=h c): Ub n g=Ub n h:=by
 induction n with
 | zero=>rfl
 | succ n ih=>rw[Ub,Ub,ih (λc u=>e c om),e n om]
theorem prodR_pos: 0<Ub n g↔∀ c,c<n->0<g c:=by
 induction n with
 | zero=>exact⟨λ_ c u=>om,λ_=>Nat.one_pos⟩
 | succ n ih=>
  grind [Ub,Nat.pos_of_mul_pos_right,Nat.pos_of_mul_pos_left,Nat.mul_pos]
section
variable {α:Type}
def tot: List (α×Nat)->Nat
 | []=>0
 | p::l=>p.2+tot l
def prj(d0:α)(cs:List Nat)(y:List α): List α:=cs.map λc=>y.getD c d0
theorem Qvp{d0:α}{y z:List α}(h:∀ c∈cs,y.getD c d0=z.getD c d0): prj d0 cs y=prj d0 cs z:=List.map_congr_left h
theorem Jpb{d0:α}{y z:List α}(h:c<y.length): (y++z).getD c d0=y.getD c d0:=by grind
structure AX(α:Type) where
 d0: α
 F:Nat
 ks:Nat->List Nat
 par:Nat->Int
 E:Nat->List α->List (α×Nat)
def AX.key(X:AX α)(c:Nat)(y:List α): List α:=prj X.d0 (X.ks c) y
def AX.T(X:AX α)(c:Nat)(y:List α): Nat:=tot (X.E c (X.key c y))
structure AX.Ok(X:AX α): Prop where
 kl:∀ v,v<X.F->∀ u∈X.ks v,(u:Int)<=X.par v
 pl:∀ v,v<X.F->-1<=X.par v/\X.par v<v
 wt:∀ v,v<X.F->∀ y,y.length=v->∀ p∈X.E v (X.key v y),0<p.2/\p.2=Ub X.F (λc=>if X.par c=v then X.T c (y++[p.1]) else 1)
def AX.ext(X:AX α): Nat->List α->List (List α)
 | 0,y=>[y]
 | n+1,y=>(X.E y.length (X.key y.length y)).flatMap λp=>X.ext n (y++[p.1])
variable {X:AX α}
theorem AX.ext_mem: ∀(n:Nat) (y x:List α),x∈X.ext n y↔x.length=y.length+n/\x.take y.length=y/\∀ v,y.length<=v->v<y.length+n->x.getD v X.d0∈(X.E v (X.key v (x.take v))).map (·.1)
 | 0,y,x=>by grind [AX.ext,List.mem_singleton,List.take_length,List.take_of_length_le]
 | n+1,y,x=>by
  rw[AX.ext,List.mem_flatMap];constructor
  .rintro⟨p,hp,hx⟩;obtain⟨h1,h2,h3⟩:=(AX.ext_mem n _ x).1 hx;rw[List.length_append,List.length_singleton]at h1 h2 h3;have hy:x.take y.length=y:=by
    have:=congrArg (List.take y.length) h2;grind
   refine⟨om,hy,λv h4 h5=>?_⟩;by_cases e:v=y.length
   .subst e;rw[hy];have:x.getD y.length X.d0=p.1:=by
     have:=congrArg (λl=>l.getD y.length X.d0) h2;grind
    grind
   repeat grind
  rintro⟨h1,h2,h3⟩;obtain⟨p,hp,e⟩:=List.mem_map.1 (h3 y.length (nR _) om);rw[h2]at hp;refine⟨p,hp,(AX.ext_mem n _ x).2 ⟨?_,?_,λv h4 h5=>h3 v ?_ ?_⟩⟩
  .simp;omega
  .rw[List.length_append,List.length_singleton,e];have hl:y.length<x.length:=om
   grind [List.take_add_one,List.getD,List.getElem?_eq_getElem]
  repeat grind
end
structure BX(α:Type) where
 d0: α
 N:Nat
 F:Nat
 K:Nat->List Nat
 par:Nat->Int
 pl:Nat->Nat
 ats:List (List Nat×List (List α))
 T:Nat->List α->Nat
 E:Nat->List α->List (α×Nat)
section
variable {α:Type}
def BX.bag(X:BX α)(v:Nat)(z:List α): Prop:=∀ a∈X.ats,∃ r∈a.2,∀ j,j<a.1.length->(a.1.getD j 0=v∨a.1.getD j 0∈X.K v)->r.getD j X.d0=z.getD (a.1.getD j 0) X.d0
def BX.W(X:BX α)(v:Nat)(z:List α): Nat:=Ub X.N (λc=>if X.par c=v then X.T c (prj X.d0 (X.K c) z) else 1)
structure BX.Ok(X:BX α): Prop where
 FN:X.F<=X.N
 plN:∀ v,v<X.N->X.pl v<X.N
 inj:∀ u v,u<X.N->v<X.N->X.pl u=X.pl v->u=v
 k1:∀ v,v<X.N->∀ u∈X.K v,u<X.N/\X.pl v<X.pl u
 k2:∀ v,v<X.N->(X.K v=[]/\X.par v = -1)∨∃ p:Nat,X.par v=p/\p∈X.K v/\∀ u∈X.K v,X.pl p<=X.pl u
 k3:∀ v,v<X.N->∀ p:Nat,X.par v=p->∀ x∈X.K v,x=p∨x∈X.K p
 k4:∀ a∈X.ats,∀ v∈a.1,(∀ u∈a.1,X.pl v<=X.pl u)->∀ u∈a.1,u=v∨u∈X.K v
 k5:∀ u v,u<X.F->v<u->X.pl u<X.pl v
 k6:∀ u v,u<X.F->X.F<=v->v<X.N->X.pl v<X.pl u
 al:∀ a∈X.ats,(∀ u∈a.1,u<X.N)/\∀ r∈a.2,r.length=a.1.length
 t1:∀ v,X.F<=v->v<X.N->∀ k,X.T v k<=1/\(0<X.T v k↔∃ z,z.length=X.N/\X.bag v z/\prj X.d0 (X.K v) z=k/\0<X.W v z)
 t2:∀ v,v<X.F->∀ k,X.T v k=tot (X.E v k)/\∀ p,p∈X.E v k↔∃ z,z.length=X.N/\X.bag v z/\prj X.d0 (X.K v) z=k/\z.getD v X.d0=p.1/\p.2=X.W v z/\0<p.2
def BX.Roots(X:BX α): Prop:=(∀ v,v<X.N->X.par v = -1->0<X.T v [])/\∀ a∈X.ats,a.2≠[]
variable {X:BX α}
theorem Jlb(d0:α){y:List α}(h:j<cs.length): (prj d0 cs y).getD j d0=y.getD (cs.getD j 0) d0:=by
 simp[prj,List.getD,List.getElem?_eq_getElem h]
theorem BX.Ok.kpar(h:X.Ok)(hc:c<X.N)(hp:X.par c=v): v∈X.K c/\v<X.N/\X.pl c<X.pl v/\∀ u∈X.K c,u=v∨u∈X.K v:=by
 rcases h.k2 c hc with⟨_,y⟩|⟨p,y,h3,_⟩
 .rw[y]at hp;omega
 have:p=v:=om
 subst this;exact⟨h3,(h.k1 c hc p h3).1,(h.k1 c hc p h3).2,h.k3 c hc p hp⟩
theorem BX.bag_congr{z z':List α}(e:∀ u,u=v∨u∈X.K v->z.getD u X.d0=z'.getD u X.d0)(hb:X.bag v z): X.bag v z':=λa y=>by
 obtain⟨r,D,F⟩:=hb a y;grind
theorem BX.Ok.W_congr(h:X.Ok){z z':List α}(e:∀ u,u=v∨u∈X.K v->z.getD u X.d0=z'.getD u X.d0): X.W v z=X.W v z':=by
 refine Qvm λc D=>?_;split
 .rename_i hp;rw[Qvp λu y=>e u ((h.kpar D hp).2.2.2 u y)]
 rfl
theorem BX.Ok.choose(h:X.Ok){y:List α}(hy:y.length=X.F)(hE:∀ v,v<X.F->y.getD v X.d0∈(X.E v (prj X.d0 (X.K v) y)).map (·.1))(hR:X.Roots):
  ∀ n,n<=X.N->∃ z,z.length=X.N/\(∀ u,u<X.F->z.getD u X.d0=y.getD u X.d0)/\∀ v,v<X.N->(v<X.F∨X.N<=X.pl v+n)->X.bag v z/\0<X.W v z:=by
 intro n;induction n with
 | zero=>
  intro _;refine⟨y++List.replicate (X.N-X.F) X.d0,by have:=h.FN;simp[hy];omega,λu J=>Jpb om,λv hv O=>?_⟩;have hF:v<X.F:=O.resolve_right (by have:=h.plN v hv;omega);obtain⟨p,hp,e⟩:=List.mem_map.1 (hE v hF);obtain⟨z,hz,hb,hk,a5,hw,h0⟩:=((h.t2 v hF _).2 p).1 hp;have D:∀ u,u=v∨u∈X.K v->z.getD u X.d0=(y++List.replicate (X.N-X.F) X.d0).getD u X.d0:=by
   intro u J;have ae:u<X.F:=by
    rcases J with rfl|J
    .exact hF
    have:=h.k1 v hv u J;rcases Nat.lt_or_ge u X.F with h'|h'
    .exact h'
    have:=h.k6 v u hF h' this.1;omega
   rw[Jpb om];rcases J with rfl|J
   .rw[a5,e]
   obtain⟨j,hj,ej⟩:=List.getElem_of_mem J;have:=congrArg (λl=>l.getD j X.d0) hk;grind [Jlb,List.getD,List.getElem?_eq_getElem]
  exact⟨BX.bag_congr D hb,by rw[<-h.W_congr D,<-hw];exact h0⟩
 | succ n ih=>
  intro hn;obtain⟨z,hz,a9,hg⟩:=ih om;by_cases hv:∃ v,v<X.N/\X.F<=v/\X.pl v+(n+1)=X.N
  .obtain⟨v,G,a1,ad⟩:=hv;have hT:0<X.T v (prj X.d0 (X.K v) z):=by
    rcases h.k2 v G with⟨h1,h2⟩|⟨p,h2,h3,_⟩
    .rw[h1];exact hR.1 v G h2
    have hp:=h.kpar G h2;have:=(hg p hp.2.1 (.inr om)).2;have h5:=prodR_pos.1 this v G;grind
   obtain⟨U,aa,a8,a7,a4⟩:=(h.t1 v a1 G _).2.1 hT;have ac:v<z.length:=om
   have far:∀ u,u≠v->(z.set v (U.getD v X.d0)).getD u X.d0=z.getD u X.d0:=by grind
   refine⟨z.set v (U.getD v X.d0),by simp[hz],λu J=>by grind,λu J O=>?_⟩;by_cases e:u=v
   .subst e;have D:∀ x,x=u∨x∈X.K u->U.getD x X.d0=(z.set u (U.getD u X.d0)).getD x X.d0:=by
     intro x Z;by_cases ex:x=u
     .grind
     rw[far x ex];have a3:=Z.resolve_left ex;obtain⟨j,hj,ej⟩:=List.getElem_of_mem a3;have:=congrArg (λl=>l.getD j X.d0) a7;grind [Jlb,List.getD,List.getElem?_eq_getElem]
    exact⟨BX.bag_congr D a8,by rw[<-h.W_congr D];exact a4⟩
   have a6:X.pl v<X.pl u:=by
    rcases O with O|O
    .exact h.k6 u v O a1 G
    have:X.pl u≠X.pl v:=λe'=>e (h.inj u v J G e');omega
   have D:∀ x,x=u∨x∈X.K u->z.getD x X.d0=(z.set v (U.getD v X.d0)).getD x X.d0:=by
    intro x Z;refine(far x ?_).symm;rintro rfl;rcases Z with rfl|Z
    .exact e rfl
    have:=(h.k1 u J x Z).2;omega
   have a2:=hg u J (by grind);exact⟨BX.bag_congr D a2.1,by rw[<-h.W_congr D];exact a2.2⟩
  repeat grind
def BX.ix(X:BX α): AX α:=⟨X.d0,X.F,X.K,X.par,X.E⟩
end
def Jzb(v:Nat)(nb:Nat->Nat->Bool): Nat->Nat->Bool:=λu x=>if nb v u then(nb u x || nb v x) && (x != u) && (x != v) else nb u x
def nbAt(nb:Nat->Nat->Bool): List Nat->Nat->Nat->Bool
 | []=>nb
 | v::l=>nbAt (Jzb v nb) l
structure NbInv(l:List Nat)(nb:Nat->Nat->Bool): Prop where
 sym:∀ u x,u ∉ l->x ∉ l->nb u x=nb x u
 gone:∀ u x,u ∉ l->nb u x=true->x ∉ l/\x≠u
theorem NbInv.step{nb:Nat->Nat->Bool}(h:NbInv l nb)(hv:v ∉ l): NbInv (l++[v]) (Jzb v nb):=by
 have G:∀ {u},u ∉ l++[v]->u ∉ l/\u≠v:=by grind
 constructor
 .intro u x J y;obtain⟨D,U⟩:=G J;obtain⟨O,x2⟩:=G y;have Z:=h.sym u x D O;unfold Jzb;by_cases e1:nb v u=true<;>by_cases e2:nb v x=true
  .grind
  .rw[if_pos e1,if_neg e2];have b1:(x != v)=true:=bne_iff_ne.2 x2;rw[Bool.not_eq_true]at e2;rw[e2,b1,Bool.or_false,Bool.and_true,<-Z];cases e3:nb u x with
   | false=>rfl
   | true=>rw[bne_iff_ne.2 (h.gone u x D e3).2];rfl
  .rw[if_neg e1,if_pos e2];have b1:(u != v)=true:=bne_iff_ne.2 U;rw[Bool.not_eq_true]at e1;rw[e1,b1,Bool.or_false,Bool.and_true,Z];cases e3:nb x u with
   | false=>rfl
   | true=>rw[bne_iff_ne.2 (h.gone x u O e3).2];rfl
  repeat grind
 intro u x J y;obtain⟨D,U⟩:=G J;unfold Jzb at y;rw[List.mem_append,List.mem_singleton,not_or];by_cases e1:nb v u=true
 .rw[if_pos e1]at y;simp only[Bool.and_eq_true,Bool.or_eq_true,bne_iff_ne]at y;refine⟨⟨?_,y.2⟩,y.1.2⟩;rcases y.1.1 with F|F
  .exact(h.gone u x D F).1
  exact(h.gone v x hv F).1
 rw[if_neg e1]at y;obtain⟨F,h2⟩:=h.gone u x D y;refine⟨⟨F,λe=>?_⟩,h2⟩;subst e;exact e1 ((h.sym x u F D).trans y)
theorem NbInv.at{nb:Nat->Nat->Bool}(h:NbInv [] nb): ∀ {l:List Nat},l.Nodup->NbInv l (nbAt nb l):=by
 intro l;have key:∀(l m:List Nat) (u:Nat->Nat->Bool),NbInv m u->(m++l).Nodup->NbInv (m++l) (nbAt u l):=by
  intro l;induction l with
  | nil=>intro m u h _;rw[List.append_nil];exact h
  | cons v l ih=>
   intro m u h hn;have y:v ∉ m:=by grind
   have e:m++v::l=(m++[v])++l:=by simp
   rw[e]at hn ⊢;exact ih (m++[v]) _ (h.step y) hn
 intro hn;exact key l [] nb h hn
def pre(ord:List Nat)(v:Nat): List Nat:=ord.takeWhile (· != v)
section
variable {nb:Nat->Nat->Bool} {ord:List Nat} (h0:NbInv [] nb) (hn:ord.Nodup)
end
end Pl
namespace Pl
variable {m n:Nat}{x y z:Row}{a b:V}
theorem Jrx{ds:List Bool}: ∀ {m:Nat} {x z:Row},x.take m=z.take m->m<x.length->m<z.length->cmpV (x.getD m V0) (z.getD m V0)≠0->Jk x z ds=neg (ds.getD m false) (cmpV (x.getD m V0) (z.getD m V0))
 | 0,a::x,b::z,_,_,_,h=>by grind [List.getD_cons_zero,Jk]
 | m+1,a::x,b::z,h,h1,h2,h3=>by
  simp only[List.take_succ_cons,List.cons.injEq]at h;simp only[List.getD_cons_succ]at h3 ⊢;simp only[Jk];rw[if_pos (by grind [Zr]),Jrx h.2 (by simpa using h1) (by simpa using h2) h3];simp[List.getD]
 | _,[],_,_,h,_,_=>by simp at h
 | _,_::_,[],_,_,h,_=>by simp at h
theorem Qcg{d:Bool}(h:neg d (cmpV a b)<0): cmpV a b≠0:=by
 intro e;rw[e]at h;unfold neg at h;split at h<;>omega
theorem Qmf{ds:List Bool}(h:x.take m=z.take m)(h1:m<x.length)(h2:m<z.length)(h3:neg (ds.getD m false) (cmpV (x.getD m V0) (z.getD m V0))<0): Jk x z ds<0:=by grind [Jrx,Qcg]
def SrtE(d:Bool)(l:List (V×Nat)): Prop:=l.Pairwise λp q=>neg d (cmpV p.1 q.1)<0
abbrev IX:= AX V
structure AX.Srt(X:IX)(ds:List Bool): Prop where
 d0:X.d0=V0
 srt:∀ v,v<X.F->∀ k,SrtE (ds.getD v false) (X.E v k)
theorem AX.ext_at_col{X:IX}(hx:x∈X.ext n (y++[a])): x.length=y.length+1+n/\x.take y.length=y/\x.getD y.length V0=a:=by
 obtain⟨D,u,_⟩:=(AX.ext_mem n _ x).1 hx;rw[List.length_append,List.length_singleton]at D u;refine⟨D,?_,?_⟩
 .have:=congrArg (List.take y.length) u;grind
 have:=congrArg (λl=>l.getD y.length V0) u;grind
theorem AX.Srt.ext{X:IX}{ds:List Bool}(h:X.Srt ds): ∀(n:Nat) (y:Row),y.length+n=X.F->Lt ds (X.ext n y)
 | 0,y,_=>List.pairwise_singleton _ _
 | n+1,y,e=>by
  rw[AX.ext];refine List.pairwise_flatMap.2 ⟨λp _=>h.ext n _ (by simp;omega),(h.srt y.length om _).imp fun {p q} hpq x hx z hz=>?_⟩;obtain⟨h1,h2,h3⟩:=AX.ext_at_col hx;obtain⟨h4,h5,h6⟩:=AX.ext_at_col hz;exact Qmf (m:=y.length) (by rw[h2,h5]) om om (by rw[h3,h6];exact hpq)
end Pl
namespace Pl
inductive Tr where
 | nil
 | node (l:Tr) (v:V) (x:Nat) (r:Tr)
namespace Tr
def ht: Tr->Nat
 | .nil=>0
 | .node l _ _ r=>max l.ht r.ht+1
def sz: Tr->Nat
 | .nil=>0
 | .node l _ _ r=>l.sz+1+r.sz
def toL: Tr->List (V×Nat)
 | .nil=>[]
 | .node l v x r=>l.toL++(v,x)::r.toL
def left: Tr->Tr
 | .nil=>.nil
 | .node l _ _ _=>l
def right: Tr->Tr
 | .nil=>.nil
 | .node _ _ _ r=>r
def bal(l:Tr)(v:V)(x:Nat)(r:Tr): Tr :=
 if r.ht+1<l.ht then
  match l with
  | .nil=>.node .nil v x r
  | .node ll lv lx lr=>
   if lr.ht<=ll.ht then .node ll lv lx (.node lr v x r)
   else match lr with
    | .nil=>.node (.node ll lv lx .nil) v x r
    | .node ml mv mx mr=>.node (.node ll lv lx ml) mv mx (.node mr v x r)
 else if l.ht+1<r.ht then
  match r with
  | .nil=>.node l v x .nil
  | .node rl rv rx rr=>
   if rl.ht<=rr.ht then .node (.node l v x rl) rv rx rr
   else match rl with
    | .nil=>.node l v x (.node .nil rv rx rr)
    | .node ml mv mx mr=>.node (.node l v x ml) mv mx (.node mr rv rx rr)
 else .node l v x r
theorem Jfq(l:Tr)(v:V)(x:Nat)(r:Tr): (bal l v x r).toL=l.toL++(v,x)::r.toL:=by
 unfold bal;split
 .cases l with
  | nil=>rfl
  | node ll lv lx lr=>
   simp only;split
   repeat grind [toL]
 split
 .cases r with
  | nil=>rfl
  | node rl rv rx rr=>
   simp only;split
   repeat grind [toL]
 rfl
def put(d:Bool)(v:V)(x:Nat): Tr->Tr
 | .nil=>.node .nil v x .nil
 | .node l a y r=>if neg d (cmpV v a)<0 then bal (put d v x l) a y r else if 0<neg d (cmpV v a) then bal l a y (put d v x r) else .node l v x r
theorem put_last{d:Bool}{v:V}{x:Nat}: ∀ {t:Tr},(∀ p∈t.toL,0<neg d (cmpV v p.1))->(put d v x t).toL=t.toL++[(v,x)]
 | .nil,_=>rfl
 | .node l a y r,h=>by
  have h1:=h (a,y) (by simp[toL]);have h2:=put_last (d:=d) (v:=v) (x:=x) (t:=r) (λp hp=>h p (by simp[toL,hp]));grind [put,Jfq,toL]
theorem put_first{d:Bool}{v:V}{x:Nat}: ∀ {t:Tr},(∀ p∈t.toL,neg d (cmpV v p.1)<0)->(put d v x t).toL=(v,x)::t.toL
 | .nil,_=>rfl
 | .node l a y r,h=>by
  have h1:=h (a,y) (by simp[toL]);have h2:=put_first (d:=d) (v:=v) (x:=x) (t:=l) (λp hp=>h p (by simp[toL,hp]));grind [put,Jfq,toL]
end Tr
end Pl
namespace Pl
variable {rs:List Row}{m:Nat}{k x:Row}{wt:Row->Nat}
def Xt(wt:Row->Nat)(m:Nat)(rs:List Row)(k:Row): List (V×Nat):=(rs.filter λx=>decide (x.take m=k) && decide (0<wt x)).map λx=>(x.getD m V0,wt x)
def Jvk(d:Bool)(wt:Row->Nat)(m:Nat)(bs:List (Row×Tr))(x:Row): List (Row×Tr) :=
 if wt x=0 then bs
 else if(bs.getLast?.map (·.1))=some (x.take m) then bs.dropLast++[(x.take m,Tr.put d (x.getD m V0) (wt x) ((bs.getLast?.map (·.2)).getD .nil))]
 else bs++[(x.take m,Tr.put d (x.getD m V0) (wt x) .nil)]
def Jxc(d:Bool)(l:List (V×Nat)): List (V×Nat):=if d then l.reverse else l
structure GInv(d:Bool)(wt:Row->Nat)(m:Nat)(rs:List Row)(bs:List (Row×Tr)): Prop where
 lt:Lt [] (bs.map (·.1))
 con:∀ b∈bs,b.2.toL=Jxc d (Xt wt m rs b.1)/\Xt wt m rs b.1≠[]
 all:∀ k,Xt wt m rs k≠[]->k∈bs.map (·.1)
theorem Jbw(wt:Row->Nat)(m:Nat)(rs:List Row)(x k:Row): Xt wt m (rs++[x]) k=Xt wt m rs k++if x.take m=k/\0<wt x then[(x.getD m V0,wt x)] else[]:=by grind [Xt,List.filter_cons_of_pos,List.filter_cons_of_neg]
theorem entL_mem{p:V×Nat}: p∈Xt wt m rs k↔∃ x∈rs,x.take m=k/\x.getD m V0=p.1/\wt x=p.2/\0<p.2:=by
 unfold Xt;grind
theorem entL_ne: Xt wt m rs k≠[]↔∃ x∈rs,x.take m=k/\0<wt x:=by
 constructor
 .intro h;obtain⟨p,F⟩:=List.exists_mem_of_ne_nil _ h;obtain⟨x,D,y,u,J,G⟩:=entL_mem.1 F;grind
 rintro⟨x,D,y,u⟩ e;have:=(entL_mem (p:=(x.getD m V0,wt x))).2 ⟨x,D,y,rfl,rfl,u⟩;grind
theorem Jrs: ∀(m:Nat) {x y:Row},Jk x y []<0->Jk (x.take m) (y.take m) []<=0
 | 0,x,y,_=>by simp[Jk]
 | m+1,[],[],h=>by simp[Jk]
 | m+1,[],b::y,h=>by simp[Jk]
 | m+1,a::x,[],h=>by simp[Jk]at h
 | m+1,a::x,b::y,h=>by
  simp only[Jk,List.take_succ_cons,List.drop_nil]at h ⊢;by_cases e:cmpV a b=0
  .rw[if_pos e]at h ⊢;exact Jrs m h
  repeat grind
theorem Jrv: ∀(m:Nat) {x y:Row},Jk x y []<0->x.take m=y.take m->x.length=m+1->y.length=m+1->cmpV (x.getD m V0) (y.getD m V0)<0
 | 0,[a],[b],h,_,_,_=>by
  simp only[Jk]at h;by_cases e:cmpV a b=0
  .grind
  rw[if_neg e]at h;exact h
 | m+1,a::x,b::y,h,ht,h1,h2=>by
  simp only[List.take_succ_cons,List.cons.injEq]at ht;simp only[Jk,List.drop_nil]at h;rw[if_pos (by grind [Zr])]at h;simp only[List.getD_cons_succ];exact Jrv m h ht.2 (by simpa using h1) (by simpa using h2)
theorem Jnt{α:Type}{l:List α}(h:l≠[]): ∃ i z,l=i++[z]/\l.getLast?=some z/\l.dropLast=i:=by grind [List.dropLast_concat_getLast,List.getLast?_eq_some_getLast]
theorem GInv.step{d:Bool}{bs:List (Row×Tr)}(h:GInv d wt m rs bs)(hs:Lt [] (rs++[x]))(hl:∀ y∈rs++[x],y.length=m+1): GInv d wt m (rs++[x]) (Jvk d wt m bs x):=by
 have a3:=hl x (by simp);have a5:∀ y∈rs,Jk y x []<0:=λy hy=>(List.pairwise_append.1 hs).2.2 y hy x (by simp);by_cases h0:wt x=0
 .have e:∀ k,Xt wt m (rs++[x]) k=Xt wt m rs k:=by grind [Jbw]
  rw[Jvk,if_pos h0];exact⟨h.lt,λb u=>by rw[e];exact h.con b u,λk D=>h.all k (by rw[<-e k];exact D)⟩
 have h1:0<wt x:=om
 have eo:∀ k,k≠x.take m->Xt wt m (rs++[x]) k=Xt wt m rs k:=by grind [Jbw]
 have ex:Xt wt m (rs++[x]) (x.take m)=Xt wt m rs (x.take m)++[(x.getD m V0,wt x)]:=by grind [Jbw]
 have J:∀ k∈bs.map (·.1),Jk k (x.take m) []<=0:=λk D=>by
  obtain⟨b,u,rfl⟩:=List.mem_map.1 D;obtain⟨y,hy,e,_⟩:=entL_ne.1 (h.con b u).2;grind [Jrs]
 have O:∀ p∈Xt wt m rs (x.take m),cmpV p.1 (x.getD m V0)<0:=λp U=>by
  obtain⟨y,hy,F,e2,_⟩:=entL_mem.1 U;rw[<-e2];exact Jrv m (a5 y hy) F (hl y (by simp[hy])) a3
 have G:∀ t:Tr,t.toL=Jxc d (Xt wt m rs (x.take m))->(Tr.put d (x.getD m V0) (wt x) t).toL=Jxc d (Xt wt m (rs++[x]) (x.take m)):=λt ht=>by
  rw[ex];cases d with
  | false=>
   rw[Tr.put_last,ht];· rfl
   intro p U;rw[ht]at U;have:=O p U;have:=cmp_V.anti p.1 (x.getD m V0);grind [neg]
  | true=>
   rw[Tr.put_first,ht];· simp[Jxc]
   intro p U;rw[ht]at U;have:=O p (by simpa [Jxc] using U);have:=cmp_V.anti p.1 (x.getD m V0);grind [neg]
 rw[Jvk,if_neg h0];by_cases hl2:(bs.getLast?.map (·.1))=some (x.take m)
 .rw[if_pos hl2];have a1:bs≠[]:=by grind
  obtain⟨i,z,F,e2,e3⟩:=Jnt a1;rw[e2]at hl2 ⊢;have hz:z.1=x.take m:=by simpa using hl2
  rw[e3];have a7:=h.con z (by rw[F];simp);have a4:∀ b∈i,b.1≠x.take m:=λb u e=>by
   have:=h.lt;rw[F,List.map_append]at this;have:=(List.pairwise_append.1 this).2.2 b.1 (List.mem_map_of_mem u) z.1 (by simp);grind [Vo]
  refine⟨?_,λb u=>?_,λk D=>?_⟩
  .have:=h.lt;grind
  .rcases List.mem_append.1 u with u|u
   .rw[eo _ (a4 b u)];exact h.con b (by rw[F];simp[u])
   rw[List.mem_singleton.1 u];refine⟨G _ (by grind),?_⟩;simp only;rw[ex];simp
  by_cases e:k=x.take m
  .rw[e];simp
  rw[eo k e]at D;have:=h.all k D;grind
 rw[if_neg hl2];have Z:x.take m ∉ bs.map (·.1):=λD=>by
  have a1:bs≠[]:=by grind
  obtain⟨i,z,F,e2,e3⟩:=Jnt a1;rw[e2]at hl2;have hz:z.1≠x.take m:=λe=>hl2 (by simp[e]);rw[F,List.map_append,List.mem_append]at D;have h5:=h.lt;rw[F,List.map_append]at h5;rcases D with D|D
  .have h6:=(List.pairwise_append.1 h5).2.2 _ D z.1 (by simp);have h7:=J z.1 (by rw[F];simp);have:=Gk [] |>.anti (x.take m) z.1;omega
  repeat grind
 have he:Xt wt m rs (x.take m)=[]:=Classical.byContradiction λh'=>Z (h.all _ h');refine⟨?_,λb u=>?_,λk D=>?_⟩
 .rw[List.map_append];refine List.pairwise_append.2 ⟨h.lt,by simp,λk D k' a2=>?_⟩;rw[List.map_singleton,List.mem_singleton]at a2;rw[a2];have h7:=J k D;have h8:Jk k (x.take m) []≠0:=λe=>Z (by rw[<-(Gk []).zero _ _ e];exact D);simp only;omega
 .rcases List.mem_append.1 u with u|u
  .have a6:b.1∈bs.map (·.1):=List.mem_map_of_mem u
   rw[eo _ (λe=>Z (by rw[<-e];exact a6))];exact h.con b u
  rw[List.mem_singleton.1 u];refine⟨G _ (by rw[he];cases d<;>rfl),?_⟩;grind
 by_cases e:k=x.take m
 .rw[e];simp
 rw[eo k e]at D;rw[List.map_append,List.mem_append];exact .inl (h.all k D)
theorem GInv.nil(d:Bool)(wt:Row->Nat)(m:Nat): GInv d wt m [] []:=⟨List.Pairwise.nil,λb y=>(by cases y),λk u=>absurd rfl u⟩
end Pl
open Go.RowKit Pl Go.Wk
attribute [local irreducible] WC WL QX WD WDB WP WN
variable {c:JC}{l:List Row}{Y:List Row->World->Prop}{L e p:Nat->Nat}{f h:Nat->Nat->Nat}{x z:Row}{w:World}
structure Pth(c:JC)(v:Nat)(z:Row)(p e:Nat->Nat): Prop where
 path:∀ i,i<c.m->Vv (c.F.rs i) (lv (c.vars i) v) (p i)=(pmR (c.vars i) z).take (lv (c.vars i) v)
 rng:∀ i,i<c.m->0<lv (c.vars i) v->p i<e i/\e i<=(pfx (c.F.rs i) (lv (c.vars i) v)).length
def Jtw(c:JC)(Y:List Row->World->Prop)(v:Nat)(z:Row)(p e:Nat->Nat)(f h:Nat->Nat->Nat)(l:List Row)(w:World)(u:Value)(w':World): Prop :=
 u=.bool true/\GrN c.N w w'/\∃ z' f' h' l',Cfg c Y w' z' (λi=>lv (c.vars i) v) p e f' h' l'/\z'.take v=z.take v/\(∀ i,i<c.m->∀ k,k<lv (c.vars i) v->f' i k=f i k/\h' i k=h i k)/\Lt [] l'/\∀ x,x∈l'↔x∈l∨(c.Ans x/\x.take v=z.take v)
theorem Cfg.rowV(H:Cfg c Y w z L p e f h l)(hok:JOk c): RowV w c.rowv z:=by
 have u:=H.row;have y:=hok.n32;refine⟨c.Ra,c.n,by rw[H.zl];rfl,by rw[H.zl];exact nR _,by rw[H.zl];omega,?_⟩;rw[Yj,H.zl]at u;rw[RdR,H.zl];exact Rd.own u
theorem Pth.ans(h:Pth c c.n z p e)(hok:JOk c)(hz:z.length=c.n): c.Ans z:=by
 refine⟨hz,λi hi=>?_⟩;have y:=h.path i hi;have u:=Jmt (hok.lt i hi);rw[u,List.take_of_length_le (by rw[Zj];exact nR _)]at y;rw[<-y];have J:=hok.d i hi;by_cases h0:(c.vars i).length=0
 .rw[Vv,if_pos h0];obtain⟨r,D⟩:=List.exists_mem_of_ne_nil _ (hok.ne i hi);have:=hok.len i hi r D;grind
 rw[Vv,if_neg h0];have F:=h.rng i hi om;rw[u]at F;have G:=Qyf (hok.srt i hi) (hok.len i hi);grind
theorem Qxq{n:Nat}(h1:x.length=n)(h2:z.length=n)(h:x.take n=z.take n): x=z:=by grind
theorem Qgr{NY:Nat->Prop}(hok:JOk c)(hY:YC c Y NY)(hcap:∀ l:List Row,Lt [] l->(∀ x∈l,c.Ans x)->l.length<=65536)(H:Cfg c Y w z (λi=>lv (c.vars i) c.n) p e f h l)(hP:Pth c c.n z p e)(hl:Lt [] l)(hla:∀ x∈l,c.Ans x)(hls:∀ x∈l,∀ z',c.Ans z'->z'.take c.n=z.take c.n->Jk x z' []<0):
  Ret Tryz.prog 114 [.pointer (some ⟨c.J,0,none⟩),.int .i64 (c.n:Int)] w (Jtw c Y c.n z p e f h l w):=by
 have ac:=hP.ans hok H.zl;obtain⟨st,hJ⟩:=H.jb;have aa:=hok.n32;obtain⟨ad,first,ae,a1,O⟩:=hY.call;have a2:c.rowv=.slice c.Ra c.n c.n:=rfl;rw[a2,a1]at hJ;refine Jz Tryz.func114 Tryz.ntmps114 rfl kr rfl ?_;refine ρ ?_;refine ld (hJ.at (i:=0) rfl) ?_;refine ρ ?_;refine ct ?_ ?_
 .exact beq_t rfl
 refine ρ ?_;refine ld (hJ.at (i:=2) rfl) ?_;refine ρ ?_;refine sto (p:=⟨c.J,2,none⟩) (hJ.cell 2) (hJ.frozen _) ?_;have a7:=hJ.set 2 (.int .i64 (IntKind.i64.wrap (st+1)));have a5:GrN (λk=>k=c.J) w (w.setCell ⟨c.J,2,none⟩ (.int .i64 (IntKind.i64.wrap (st+1)))):=GrN.set _ rfl;have G:GrN c.NI w (w.setCell ⟨c.J,2,none⟩ (.int .i64 (IntKind.i64.wrap (st+1)))):=GrN.set _ (.inl rfl);refine ρ ?_;generalize w.setCell ⟨c.J,2,none⟩ (.int .i64 (IntKind.i64.wrap (st+1)))=w2 at *
 have H2:Cfg c Y w2 z (λi=>lv (c.vars i) c.n) p e f h l:=by
  refine⟨H.env.gr (G.mono λk _ Z=>hok.sub k Z),λi hi=>?_,Jo H.row a5 (λg eg=>H.rowJ eg),H.zl,⟨_,by rw[a2,a1];exact a7⟩,hY.keep _ _ _ H.y G⟩;obtain⟨st,U⟩:=H.its i hi;exact⟨st,Ja U a5 (hok.gj i hi)⟩
 refine drN (λ_=>False) 10 [(0,0),(0,1),(0,2),(0,3),(0,4),(0,5),(0,6),(0,7),(2,8),(2,9)] kr ?_;have F:Ext w2 w2.drew:=(Ext.refl w2).drew;have a6:=a7.ext F;have H3:=H2.ext hY F;refine ρn ?_;refine nld (Qf (a6.at (i:=3) rfl) (λe=>e)) ?_;refine ρn ?_;refine nld (Qf (a6.at (i:=0) rfl) (λe=>e)) ?_;refine ρn ?_;refine Xm ?_;have a9:Lt [] (l++[z]):=by
  refine List.pairwise_append.2 ⟨hl,List.pairwise_singleton _ _,λx hx y hy=>?_⟩;grind
 have a3:l.length<65536:=by grind
 refine clv (O l _ c.rowv z H3.y (H3.rowV hok) a3) ?_;rintro u w4 ⟨rfl,a8,D⟩;refine ρ ?_;refine Uf ?_;refine Xm ?_;refine ρ ?_;have a4:GrN c.N w w4:=((G.mono λk _ Z=>hok.sub k Z).trans (GrN.ext F)).trans (D.mono λk _ Z=>hY.sub k Z);refine Jq ⟨rfl,a4,z,f,h,l++[z],⟨H.env.gr a4,λi hi=>?_,Jo H3.row D (λg eg hn=>hY.off g hn (.inr (.inr eg))),H.zl,?_,a8⟩,rfl,λi hi k Z=>⟨rfl,rfl⟩,a9,λx=>?_⟩
 .obtain⟨st,U⟩:=H3.its i hi;exact⟨st,Ja U D (λhn=>hY.off _ hn (.inr (.inl ⟨i,hi,rfl⟩)))⟩
 .obtain⟨st,U⟩:=H3.jb;exact⟨st,Ja U D (λhn=>hY.off _ hn (.inl rfl))⟩
 rw[List.mem_append,List.mem_singleton];constructor
 .grind
 rintro(h'|⟨U,h2⟩)
 .exact .inl h'
 exact .inr (Qxq U.1 H.zl h2)
open Go.RowKit Pl Go.Wk
variable {a i:Nat}{e e1 p p1:Nat->Nat}{y z z2:Row}
structure LS where
 L: Nat->Nat
 p:Nat->Nat
 e:Nat->Nat
 f:Nat->Nat->Nat
 h:Nat->Nat->Nat
def LS.upd(S:LS)(i L p e:Nat)(f h:Nat->Nat): LS:=⟨Wk.upd S.L i L,Wk.upd S.p i p,Wk.upd S.e i e,Wk.upd S.f i f,Wk.upd S.h i h⟩
theorem Cfg.congr{c:JC}{Y:List Row->World->Prop}{w:World}{L L' p' e':Nat->Nat}{f h f' h':Nat->Nat->Nat}{l:List Row}(H:Cfg c Y w z L p e f h l)(h1:∀ i,i<c.m->L' i=L i/\p' i=p i/\e' i=e i/\f' i=f i/\h' i=h i): Cfg c Y w z L' p' e' f' h' l :=
 ⟨H.env,λi hi=>by obtain⟨J,G,F,D,u⟩:=h1 i hi;rw[J,G,F,D,u];exact H.its i hi,H.row,H.zl,H.jb,H.y⟩
def JC.vl(c:JC)(v i a:Nat): V:=(lvl (c.F.rs i) (lv (c.vars i) v)).getD a V0
structure Sib(c:JC)(v:Nat)(z:Row)(lo hi:Nat->Nat): Prop where
 lt:∀ i∈c.I v,lo i<hi i/\hi i<=(pfx (c.F.rs i) (lv (c.vars i) v+1)).length
 ch:∀ i∈c.I v,∀ a,a<(pfx (c.F.rs i) (lv (c.vars i) v+1)).length->(((pfx (c.F.rs i) (lv (c.vars i) v+1)).getD a []).take (lv (c.vars i) v)=(pmR (c.vars i) z).take (lv (c.vars i) v)↔lo i<=a/\a<hi i)
section
variable {c:JC} {v:Nat} {z:Row} {lo hi:Nat->Nat}
theorem JOk.lvd(hok:JOk c)(hi:i∈c.I v): lv (c.vars i) v+1<=c.F.d i:=by
 obtain⟨u,y⟩:=JC.mem_I.1 hi;rw[hok.d i u];exact(Vc (hok.asc i u) y).2.1
theorem Sib.node(hok:JOk c)(hS:Sib c v z lo hi)(him:i∈c.I v)(h1:lo i<=a)(h2:a<hi i): (pfx (c.F.rs i) (lv (c.vars i) v+1)).getD a []=(pmR (c.vars i) z).take (lv (c.vars i) v)++[c.vl v i a]:=by
 obtain⟨u,G⟩:=JC.mem_I.1 him;have D:=hS.lt i him;have y:a<(pfx (c.F.rs i) (lv (c.vars i) v+1)).length:=om
 have O:=(hS.ch i him a y).2 ⟨h1,h2⟩;have J:=Qyd (Ys (hok.srt i u)) (hok.len i u) (hok.lvd him) (getD_mem' [] _ y);rw[Qxp J O,JC.vl,Qdc y]
theorem Sib.srt(hok:JOk c)(hS:Sib c v z lo hi){i a b:Nat}(him:i∈c.I v)(h1:lo i<=a)(h2:a<b)(h3:b<hi i): cmpV (c.vl v i a) (c.vl v i b)<0:=by
 obtain⟨u,G⟩:=JC.mem_I.1 him;have F:=hS.lt i him;have D:=(Jqh (Ys (hok.srt i u)) (lv (c.vars i) v+1)).1.at h2 om;rw[hS.node hok him h1 om,hS.node hok him om h3]at D;have key:∀(y:Row) (a b:V),Jk (y++[a]) (y++[b]) []<0->cmpV a b<0:=λy a b=>by
  induction y with
  | nil=>
   intro h;simp only[List.nil_append,Jk]at h;by_cases e:cmpV a b=0
   .grind
   rw[if_neg e]at h;exact h
  | cons x y ih=>
   grind [Jk,Zr]
 exact key _ _ _ D
theorem Sib.ans(hok:JOk c)(hS:Sib c v z lo hi)(hy:c.Ans y)(ht:y.take v=z.take v)(him:i∈c.I v): ∃ a,lo i<=a/\a<hi i/\c.vl v i a=y.getD v V0:=by
 obtain⟨u,G⟩:=JC.mem_I.1 him;have J:=(Jqj (Ys (hok.srt i u)) (l:=lv (c.vars i) v+1)).2 ⟨_,hy.2 i u,rfl⟩;obtain⟨a,O,Z⟩:=List.getElem_of_mem J;rw[Jld (hok.asc i u) G,Jyk (hok.asc i u) ht]at Z;have U:(pfx (c.F.rs i) (lv (c.vars i) v+1)).getD a []=(pmR (c.vars i) z).take (lv (c.vars i) v)++[y.getD v V0]:=by grind
 have hl:((pmR (c.vars i) z).take (lv (c.vars i) v)).length=lv (c.vars i) v:=by grind [List.length_take,Zj,Jmr]
 have D:=(hS.ch i him a O).1 (by grind);refine⟨a,D.1,D.2,?_⟩;have:=hS.node hok him D.1 D.2;grind [List.append_cancel_left]
theorem Pth.step(hok:JOk c)(hP:Pth c v z p e)(hS:Sib c v z lo hi)(hv:v<z.length){x:V}(h1:∀ i∈c.I v,lo i<=p1 i/\p1 i<hi i/\c.vl v i (p1 i)=x)(hz2:z2.take v=z.take v)(hz3:z2.getD v V0=x)(h2:∀ i,i<c.m->i ∉ c.I v->p1 i=p i/\e1 i=e i)(h3:∀ i∈c.I v,e1 i=hi i): Pth c (v+1) z2 p1 e1:=by
 refine⟨λi u=>?_,λi u h0=>?_⟩
 .by_cases him:i∈c.I v
  .obtain⟨y,D⟩:=JC.mem_I.1 him;have G:=h1 i him;rw[(Vc (hok.asc i y) D).1,Jld (hok.asc i y) D,Jyk (hok.asc i y) hz2,hz3,Vv,if_neg om,hS.node hok him G.1 G.2.1,G.2.2]
  have F:v ∉ c.vars i:=λJ=>him (JC.mem_I.2 ⟨u,J⟩);rw[Kq F,(h2 i u him).1,hP.path i u,Jyk (hok.asc i u) hz2]
 by_cases him:i∈c.I v
 .obtain⟨y,D⟩:=JC.mem_I.1 him;have G:=h1 i him;rw[(Vc (hok.asc i y) D).1,h3 i him];exact⟨G.2.1,(hS.lt i him).2⟩
 have F:v ∉ c.vars i:=λJ=>him (JC.mem_I.2 ⟨u,J⟩);rw[Kq F]at h0 ⊢;rw[(h2 i u him).1,(h2 i u him).2];exact hP.rng i u h0
end
open Go.RowKit Pl Go.Wk
structure ES where
 t: Bool
 z:Row
 p:Nat->Nat
 f:Nat->Nat->Nat
 h:Nat->Nat->Nat
 l:List Row
theorem Kr{α:Type}(f:Nat->α)(i:Nat): upd f i (f i)=f:=by
 funext k;unfold upd;split
 repeat grind
theorem Qgs{c:JC}{Y:List Row->World->Prop}{NY:Nat->Prop}(hok:JOk c)(hY:YC c Y NY)(hcap:∀ l:List Row,Lt [] l->(∀ x∈l,c.Ans x)->l.length<=65536): ∀(k v:Nat) (z:Row) (p e:Nat->Nat) (f h:Nat->Nat->Nat) (l:List Row) (w:World),v+k=c.n ->
  Cfg c Y w z (λi=>lv (c.vars i) v) p e f h l->Pth c v z p e->Lt [] l->(∀ x∈l,c.Ans x)->(∀ x∈l,∀ z',c.Ans z'->z'.take v=z.take v->Jk x z' []<0) ->
  Ret Tryz.prog 114 [.pointer (some ⟨c.J,0,none⟩),.int .i64 (v:Int)] w (Jtw c Y v z p e f h l w):=by
 intro k;induction k with
 | zero=>
  intro v z p e f h l w dl H hP hl c3 c2;have:v=c.n:=om
  subst this;exact Qgr hok hY hcap H hP hl c3 c2
 | succ k ih=>
 intro v z p e f h l w dl H hP hl c3 c2;have hv:v<c.n:=om
 have di:v<z.length:=by rw[H.zl];exact hv
 have ee:=hok.n32;obtain⟨B,cc,dq,d5⟩:=H.env.at_;obtain⟨B2,ak,cb,hlist⟩:=H.env.lists v hv;have d9:(c.I v).length<=32:=nL (c.len_I v) hok.m32;have ai:0<(c.I v).length:=by
  obtain⟨i,h1,h2⟩:=hok.cov v hv;exact List.length_pos_of_mem (JC.mem_I.2 ⟨h1,h2⟩)
 have D:(c.I v).getD 0 0∈c.I v:=getD_mem' 0 _ ai;have b8:c.rowv=.slice c.Ra c.n c.n:=rfl;have a4:∀ k,c.NI k->c.N k:=hok.sub;refine Jz Tryz.func114 Tryz.ntmps114 rfl kr rfl ?_;refine ρ ?_;obtain⟨st,hJ⟩:=H.jb;rw[b8,dq]at hJ;refine ld (hJ.at (i:=0) rfl) ?_;refine ρ ?_;refine cf ?_ ?_
 .exact Jtb om
 refine ρ ?_;refine ld (hJ.at (i:=1) rfl) ?_;refine ρ ?_;refine ix v d5.here hv ?_;refine ρ ?_;have d3:w.cell? (adr B v)=some (.slice B2 (c.I v).length ak):=d5.here.cell (by simp[hv,cb]);refine ld d3 ?_;clear hJ d3;refine ρ ?_;refine Qd (fun (q:Nat) (S:LS)=>[(0,.pointer (some ⟨c.J,0,none⟩)),(1,.int .i64 (v:Int)),(5,.slice B2 (c.I v).length ak),(42,.slice B2 (c.I v).length ak),(43,.int .i64 ((c.I v).length:Int)),(44,.int .i64 (q:Int))])
  (λq S w'=>q<=(c.I v).length/\GrN c.N w w'/\Cfg c Y w' z S.L S.p S.e S.f S.h l /\
   (∀ i∈(c.I v).take q,S.L i=lv (c.vars i) v+1/\S.p i<S.e i/\S.e i<=(pfx (c.F.rs i) (lv (c.vars i) v+1)).length/\(∀ a,a<(pfx (c.F.rs i) (lv (c.vars i) v+1)).length->(((pfx (c.F.rs i) (lv (c.vars i) v+1)).getD a []).take (lv (c.vars i) v)=(pmR (c.vars i) z).take (lv (c.vars i) v)↔S.p i<=a/\a<S.e i))/\S.f i=upd (f i) (lv (c.vars i) v) (p i)/\S.h i=upd (h i) (lv (c.vars i) v) (e i)) /\
   (∀ i,i<c.m->i ∉ (c.I v).take q->S.L i=lv (c.vars i) v/\S.p i=p i/\S.e i=e i/\S.f i=f i/\S.h i=h i)) (λq _=>(c.I v).length-q) 0 ⟨λi=>lv (c.vars i) v,p,e,f,h⟩ sB
  ⟨Nat.zero_le _,GrN.refl _ _,H,λi hi=>by simp at hi,λi _ _=>⟨rfl,rfl,rfl,rfl,rfl⟩⟩ ?_
 rintro q S w1 ⟨hq,b2,H1,a1,ad⟩;refine ρ ?_;refine ci (λh1=>?_) (λh1=>?_)
 .have lq:q<(c.I v).length:=by have:=oT h1;omega
  clear h1;have d7:=hlist w1 b2;refine ρ ?_;refine ix q d7 lq ?_;refine ρ ?_;refine ld (d7.cell (Iz lq)) ?_;refine ρ ?_;obtain⟨i,hi⟩:∃ i,i=(c.I v).getD q 0:=⟨_,rfl⟩;rw[<-hi];have Z:i∈c.I v:=by rw[hi];exact getD_mem' 0 _ lq
  obtain⟨U,co⟩:=JC.mem_I.1 Z;have a7:(c.I v).take (q+1)=(c.I v).take q++[i]:=by rw[Xu 0 lq,hi]
  have bz:i ∉ (c.I v).take q:=λhm=>by
   have h1:((c.I v).take (q+1)).Nodup:=(c.nodup_I v).sublist (List.take_sublist _ _);rw[a7,List.nodup_append]at h1;exact h1.2.2 _ hm _ (List.mem_singleton.2 rfl) rfl
  obtain⟨e1,e2,e3,e4,e5⟩:=ad i U bz;obtain⟨dd,b5⟩:=H1.its i U;rw[e1,e2,e3,e4,e5]at b5;have dw:Off (λk=>k=c.F.G i) w1 (λu=>TriA u (c.F.A i) (c.F.d i) (c.F.rs i)):=(H1.env.tri i U).mono λj _ ej=>a4 j (.inr (.inl ⟨i,U,ej⟩));have eg:=hok.big i U;refine cl (Qfl b5 dw (hok.lvd Z) (hok.d32 i U) (hP.rng i U) (hok.ne i U) (Ys (hok.srt i U)) om (hok.len i U)) ?_;rintro u w2 ⟨rfl,a8,lo,dt,h2,h3,h4,e9⟩;have H2:=H1.it hok hY U a8 e9;refine ρ ?_;refine Qv (q+1) (S.upd i (lv (c.vars i) v+1) lo dt (upd (f i) (lv (c.vars i) v) (p i)) (upd (h i) (lv (c.vars i) v) (e i))) sO ⟨om,b2.trans (a8.mono λj _ ej=>a4 j (.inr (.inl ⟨i,U,ej⟩))),H2,λj hj=>?_,λj hj af=>?_⟩ om
  .rw[a7,List.mem_append,List.mem_singleton]at hj;by_cases ej:j=i
   .subst ej;simp only[LS.upd,Qw];rw[<-hP.path j U];exact⟨trivial,h2,h3,h4,trivial,trivial⟩
   simp only[LS.upd,Jm _ _ ej];exact a1 j (hj.resolve_right ej)
  rw[a7,List.mem_append,List.mem_singleton,not_or]at af;simp only[LS.upd,Jm _ _ af.2];exact ad j hj af.1
 have eq:q=(c.I v).length:=by have:=oF h1;omega
 clear h1;rw[eq,List.take_of_length_le (nR _)]at a1 ad;have hS:Sib c v z S.p S.e:=⟨λi hi=>⟨(a1 i hi).2.1,(a1 i hi).2.2.1⟩,λi hi=>(a1 i hi).2.2.2.1⟩;obtain⟨lo,cm⟩:∃ lo,lo=S.p:=⟨_,rfl⟩;have a6:Sib c v z lo S.e:=by rw[cm];exact hS
 have a3:∀(f' h':Nat->Nat->Nat),∀ i∈c.I v,∀ a,c.F.val ⟨S.L,lo,S.e,f',h'⟩ i a=c.vl v i a:=λf' h' i hi a=>by
  unfold Fix.val JC.vl;simp only;rw[(a1 i hi).1,Nat.add_sub_cancel]
 have bc:∀(f' h':Nat->Nat->Nat),OnS c.F ⟨S.L,lo,S.e,f',h'⟩ (c.I v):=λf' h'=>by
  refine⟨λi hi=>?_,λi hi=>?_,λi hi a b h1 h2 h3=>?_,λi hi j hj e'=>hok.inj i j (JC.mem_I.1 hi).1 (JC.mem_I.1 hj).1 e',d9⟩
  .simp only;rw[(a1 i hi).1];exact⟨om,hok.lvd hi,hok.d32 i (JC.mem_I.1 hi).1⟩
  .simp only;rw[(a1 i hi).1,Nat.add_sub_cancel,Ia];have h1:=(a1 i hi).2.2.1;have h2:=Jxf ((c.F.rs i).map (List.take (lv (c.vars i) v+1)));rw[List.length_map]at h2;have h3:(pfx (c.F.rs i) (lv (c.vars i) v+1)).length<=(c.F.rs i).length:=h2;have h4:=hok.big i (JC.mem_I.1 hi).1;exact⟨h1,om⟩
  rw[a3 f' h' i hi,a3 f' h' i hi];exact a6.srt hok hi h1 h2 h3
 have aa:∀ k,NG c.F (c.I v) c.J k->c.N k:=λk hk=>by
  rcases hk with hk|⟨i,hi,hk⟩
  .exact a4 k (.inl hk)
  exact a4 k (.inr (.inl ⟨i,(JC.mem_I.1 hi).1,hk⟩))
 have eh:∀ k,NG c.F (c.I v) c.J k->c.NI k:=λk hk=>by
  rcases hk with hk|⟨i,hi,hk⟩
  .exact .inl hk
  exact .inr (.inl ⟨i,(JC.mem_I.1 hi).1,hk⟩)
 have bb:∀ i,i<c.m->S.L i=lv (c.vars i) (v+1):=λi hi=>by
  by_cases Z:i∈c.I v
  .rw[(a1 i Z).1,(Vc (hok.asc i hi) (JC.mem_I.1 Z).2).1]
  rw[(ad i hi Z).1,Kq (λh'=>Z (JC.mem_I.2 ⟨hi,h'⟩))]
 have du:∀ i∈c.I v,S.e i<=1000000:=λi hi=>((bc S.f S.h).rng i hi).2;have cp:∀ i∈c.I v,c.F.G i≠c.J:=λi hi=>hok.gj i (JC.mem_I.1 hi).1;have au:∀ y,c.Ans y->y.take v=z.take v->∀ i∈c.I v,∃ a,lo i<=a/\a<S.e i/\c.vl v i a=y.getD v V0:=λy hy ht i hi=>a6.ans hok hy ht hi;have an:∀(f' h':Nat->Nat->Nat) y,c.Ans y->y.take v=z.take v->Cmn c.F ⟨S.L,lo,S.e,f',h'⟩ (c.I v) (y.getD v V0):=λf' h' y hy ht i hi=>by
  obtain⟨a,h1,h2,h3⟩:=au y hy ht i hi;exact⟨a,h1,h2,by rw[a3 f' h' i hi];exact h3⟩
 refine ρ ?_;refine cl (Jmj (F:=c.F) (V':=⟨S.L,lo,S.e,S.f,S.h⟩) (I:=c.I v) (J:=c.J) (p:=lo) (jr:=c.rowv) (ja:=c.ja) (yv:=c.yv) (B:=B2) (c:=ak) (bc _ _) ai (c.nodup_I v) (λi hi=>by rw[cm];exact H1.its i (JC.mem_I.1 hi).1) H1.jb cp (λi hi=>(H1.env.tri i (JC.mem_I.1 hi).1).mono λk _ hk=>aa k hk) ((hlist.gr b2).mono λk _ hk=>aa k hk)
  (λi hi=>⟨nR _,(a6.lt i hi).1⟩) (λi hi a h1 h2=>absurd h2 (by simp only at h1;omega))) ?_
 rintro u w2 ⟨a8,b3,p2,t,rfl,b4,cj,ht,hf⟩;have H2:=H1.mt hok hY a8 b3 (p':=p2) b4;have ce:∀ f' h',c.F.val ⟨S.L,lo,S.e,f',h'⟩ ((c.I v).getD 0 0) (lo ((c.I v).getD 0 0))=c.vl v ((c.I v).getD 0 0) (lo ((c.I v).getD 0 0)):=λf' h'=>a3 f' h' _ D _;have bl:∀ y,c.Ans y->y.take v=z.take v->cmpV (c.vl v ((c.I v).getD 0 0) (lo ((c.I v).getD 0 0))) (y.getD v V0)<=0:=λy hy ht=>by
  obtain⟨a,h1,h2,h3⟩:=au y hy ht _ D;rw[<-h3];by_cases e:a=lo ((c.I v).getD 0 0)
  .rw[e,Zr];omega
  have:=a6.srt hok D (nR _) (show lo ((c.I v).getD 0 0)<a by omega) h2;omega
 refine ρ ?_;refine Jl (fun (s:ES)=>[(0,.pointer (some ⟨c.J,0,none⟩)),(1,.int .i64 (v:Int)),(5,.slice B2 (c.I v).length ak),(8,.bool true),(9,.bool s.t)])
  (λs w'=>GrN c.N w w'/\Cfg c Y w' s.z S.L s.p S.e s.f s.h s.l/\s.z.take v=z.take v/\(∀ i,i<c.m->i ∉ c.I v->s.p i=p i)/\(∀ i,i<c.m->∀ k,k<S.L i->s.f i k=S.f i k/\s.h i k=S.h i k)/\Lt [] s.l/\(∀ x∈s.l,c.Ans x) /\
   (s.t=true->∃ x,(∀ i∈c.I v,lo i<=s.p i/\s.p i<S.e i/\c.vl v i (s.p i)=x)/\∀ y,y∈s.l↔y∈l∨(c.Ans y/\y.take v=z.take v/\cmpV (y.getD v V0) x<0)) /\
   (s.t=false->∀ y,y∈s.l↔y∈l∨(c.Ans y/\y.take v=z.take v))) (λs=>if s.t then S.e ((c.I v).getD 0 0)-s.p ((c.I v).getD 0 0) else 0) ⟨t,z,λi=>if i∈c.I v then p2 i else S.p i,S.f,S.h,l⟩ sB
  ⟨b2.trans (a8.mono λk _ hk=>aa k hk),H2,rfl,λi hi a5=>?_,λi hi k hk=>⟨rfl,rfl⟩,hl,c3,λe=>?_,λe y=>?_⟩ ?_
 .simp only[if_neg a5];exact(ad i hi a5).2.1
 .obtain⟨x,ae,bu,dh⟩:=ht e;refine⟨x,λi hi=>?_,λy=>⟨.inl,λhy=>?_⟩⟩
  .simp only[if_pos hi];refine⟨(cj i hi).1,(ae i hi).1,?_⟩;rw[<-a3 S.f S.h i hi];exact(ae i hi).2
  rcases hy with hy|⟨h1,h2,h3⟩
  .exact hy
  exfalso
  have h4:=dh _ (an S.f S.h y h1 h2) (by rw[ce];exact bl y h1 h2);have:=cmp_V.anti x (y.getD v V0);omega
 .refine⟨.inl,λhy=>?_⟩;rcases hy with hy|⟨h1,h2⟩
  .exact hy
  exact absurd (show cmpV _ _<=0 by rw[ce];exact bl y h1 h2) (hf e _ (an S.f S.h y h1 h2))
 clear b4 cj ht hf H2 b3 a8 H1 b2;rintro s w2 ⟨a8,H2,ca,b9,c5,bj,bn,cg,d1⟩;refine ρ ?_;refine ci (λh1=>?_) (λh1=>?_)
 .obtain⟨x,ae,bu⟩:=cg h1;have a9:=ae _ D;have ed:=a9.1;have ec:=a9.2.1;obtain⟨ei,b3⟩:=H2.jb;rw[b8]at b3;refine ρ ?_;refine drN (λk=>c.rowv.ownBlock=some k) 14 [(0,0),(0,1),(0,2),(0,3),(0,4),(0,5),(0,6),(0,7),(1,8),(0,9),(0,10),(0,11),(0,12),(1,13)] kr ?_;have b7:Ext w2 w2.drew:=(Ext.refl w2).drew;have e0:=b3.ext b7;have H3:=H2.ext hY b7;have db:=(hlist.gr a8).ext b7;obtain⟨en,e8⟩:=H3.its _ (JC.mem_I.1 D).1;refine ρn ?_;refine nld (Qf (e0.at (i:=0) rfl) (λe=>H2.rowJ e rfl)) ?_;refine ρn ?_;refine nix 0 db.here ai ?_;refine ρn ?_;refine nld (λw' hg=>(db w' (hg.mono λk _ ek=>a4 k (.inr (.inr ek)))).cell (Iz ai)) ?_;refine ρn ?_;refine nop ?_;refine cl (Jbf e8 (H3.env.tri _ (JC.mem_I.1 D).1).here (by rw[(a1 _ D).1];exact hok.lvd D) (hok.d32 _ (JC.mem_I.1 D).1) (λ_=>((bc s.f s.h).rng _ D).1)) ?_;rintro u w4 ⟨bt,vv,rfl,dk⟩;have dj:vv=x:=by
   rw[dk ⟨by rw[(a1 _ D).1];omega,a9.2.1⟩,<-a9.2.2,JC.vl,(a1 _ D).1,Nat.add_sub_cancel]
  subst dj;refine ρ ?_;refine Qg (GrN.ext bt) ?_;have H4:=H3.ext hY bt;have ar:w4.ownsRow c.base 75 3 (.slice c.Ra c.n c.n) c.n (Je s.z):=by
   have:=H4.row;rw[Yj,H4.zl,b8]at this;exact this
  refine ρn ?_;refine Vt 3 v (Rd.own ar) hv ?_;refine ρn ?_;refine nop ?_;refine stoE (cs:=vv.cells) ar hv ?_ (V.one _);intro w5 bw cw;refine ω5 ?_;refine Qg (GrN.by cw λk ek=>ek) ?_;refine ρn ?_;have bh:v<s.z.length:=by rw[H2.zl];exact hv
  rw[<-Jvz s.z v vv bh]at bw;have ax:w4.grownBy w5 c.rowv.ownBlock:=cw;have ay:GrN c.NI w4 w5:=GrN.by ax λk ek=>.inr (.inr ek)
  obtain⟨z2,bf⟩:∃ z2,z2=s.z.set v vv:=⟨_,rfl⟩;rw[<-bf]at bw;have aq:z2.length=c.n:=by rw[bf,List.length_set];exact H2.zl
  have am:z2.take v=z.take v:=by rw[bf,Qzv];exact ca
  have ap:z2.getD v V0=vv:=by rw[bf];exact Qzw vv bh
  have H5:Cfg c Y w5 z2 S.L s.p S.e s.f s.h s.l:=by
   refine⟨H4.env.gr (ay.mono λk _ hk=>a4 k hk),λi hi=>?_,by rw[Yj,aq,b8];exact bw,aq,?_,hY.keep _ _ _ H4.y ay⟩
   .obtain⟨st,h1⟩:=H4.its i hi;exact⟨st,h1.grown ax (λe=>H4.rowG hi e.symm rfl)⟩
   obtain⟨st,h1⟩:=H4.jb;exact⟨st,h1.grown ax (λe=>H4.rowJ e.symm rfl)⟩
  have bo:GrN c.N w2 w5:=(GrN.ext (b7.trans bt)).trans (ay.mono λk _ hk=>a4 k hk);refine ρ ?_;have dx:Pth c (v+1) z2 s.p S.e:=Pth.step hok hP a6 di ae am ap (λi hi a5=>⟨b9 i hi a5,(ad i hi a5).2.2.1⟩) (λi _=>rfl);have a7:∀ y:Row,c.Ans y->(y.take (v+1)=z2.take (v+1)↔y.take v=z.take v/\y.getD v V0=vv):=λy hy=>by
   have df:v<y.length:=by rw[hy.1];exact hv
   have br:v<z2.length:=by rw[aq];exact hv
   constructor
   .intro h;have h5:=Jfr h (Nat.le_succ v);refine⟨h5.trans am,?_⟩;rw[<-ap];exact Jfs h (Nat.lt_succ_self v)
   rintro⟨h5,h6⟩;exact Qxn (h5.trans am.symm) df br (h6.trans ap.symm)
  refine cl (ih (v+1) z2 s.p S.e s.f s.h s.l w5 om (H5.congr λi hi=>⟨(bb i hi).symm,rfl,rfl,rfl,rfl⟩) dx bj bn (λy hy z' bs ht=>?_)) ?_
  .obtain⟨h5,h6⟩:=(a7 z' bs).1 ht;rcases(bu y).1 hy with h7|⟨h7,h8,h9⟩
   .exact c2 y h7 z' bs h5
   exact Jrz v y z' (h8.trans h5.symm) (by rw[h7.1];exact hv) (by rw[bs.1];exact hv) (by rw[h6];exact h9)
  rintro u w6 ⟨rfl,cv,z6,f6,h6,l6,H6,de,d0,bi,cn⟩;have dc:Cfg c Y w6 z6 S.L s.p S.e f6 h6 l6:=H6.congr λi hi=>⟨bb i hi,rfl,rfl,rfl,rfl⟩;have bg:z6.take v=z.take v:=(Jfr de (Nat.le_succ v)).trans am;have bm:∀ y∈l6,c.Ans y:=λy hy=>by
   rcases(cn y).1 hy with h7|h7
   .exact bn y h7
   exact h7.1
  have av:∀ y,y∈l6↔y∈l∨(c.Ans y/\y.take v=z.take v/\cmpV (y.getD v V0) vv<=0):=λy=>by
   rw[cn,bu];constructor
   .rintro((h7|⟨h7,h8,h9⟩)|⟨h7,h8⟩)
    .exact .inl h7
    .exact .inr ⟨h7,h8,om⟩
    obtain⟨h9,O⟩:=(a7 y h7).1 h8;exact .inr ⟨h7,h9,by rw[O,Zr];omega⟩
   rintro(h7|⟨h7,h8,h9⟩)
   .exact .inl (.inl h7)
   by_cases e:cmpV (y.getD v V0) vv=0
   .exact .inr ⟨h7,(a7 y h7).2 ⟨h8,cmp_V.zero _ _ e⟩⟩
   exact .inl (.inr ⟨h7,h8,om⟩)
  have bp:∀ i,i<c.m->∀ k,k<S.L i->f6 i k=S.f i k/\h6 i k=S.h i k:=λi hi k hk=>by
   have h7:=d0 i hi k (by rw[<-bb i hi];exact hk);have h8:=c5 i hi k hk;exact⟨h7.1.trans h8.1,h7.2.trans h8.2⟩
  refine ρ ?_;obtain⟨em,e7⟩:=dc.its _ (JC.mem_I.1 D).1;have da:=hlist.gr (a8.trans (bo.trans cv));refine ix 0 da.here ai ?_;refine ρ ?_;refine ld (da.here.cell (Iz ai)) ?_;refine ρ ?_;refine cl (Qfm e7 (by rw[(a1 _ D).1];omega) a9.2.1 (du _ D)) ?_;rintro u w7 ⟨rfl,cu,e6⟩;have cr:GrN c.N w6 w7:=cu.mono λk _ ek=>a4 k (.inr (.inl ⟨_,(JC.mem_I.1 D).1,ek⟩));have H7:=dc.it hok hY (JC.mem_I.1 D).1 cu e6;have ao:Cfg c Y w7 z6 S.L (upd s.p ((c.I v).getD 0 0) (s.p ((c.I v).getD 0 0)+1)) S.e f6 h6 l6:=by
   rw[Kr,Kr,Kr,Kr]at H7;exact H7
  obtain⟨p7,c9⟩:∃ p7,p7=upd s.p ((c.I v).getD 0 0) (s.p ((c.I v).getD 0 0)+1):=⟨_,rfl⟩;rw[<-c9]at ao;have bq:p7 ((c.I v).getD 0 0)=s.p ((c.I v).getD 0 0)+1:=by rw[c9,Qw]
  have b6:∀ i,i≠(c.I v).getD 0 0->p7 i=s.p i:=λi hi=>by rw[c9,Jm _ _ hi]
  have aw:GrN c.N w w7:=(a8.trans bo).trans (cv.trans cr);have ac:∀ y,c.Ans y->y.take v=z.take v->¬ cmpV (y.getD v V0) vv<=0->∃ a,s.p ((c.I v).getD 0 0)+1<=a/\a<S.e ((c.I v).getD 0 0)/\c.vl v ((c.I v).getD 0 0) a=y.getD v V0:=λy hy ht ah=>by
   obtain⟨a,h7,h8,h9⟩:=au y hy ht _ D;refine⟨a,?_,h8,h9⟩;rcases Nat.lt_trichotomy a (s.p ((c.I v).getD 0 0)) with O|O|O
   .have:=a6.srt hok D h7 O a9.2.1;rw[a9.2.2,h9]at this;omega
   .rw[O,a9.2.2]at h9;rw[<-h9,Zr]at ah;omega
   omega
  refine ρ ?_;refine ki 59 (λh5=>?_) (λh5=>?_)
  .have c1:s.p ((c.I v).getD 0 0)+1<S.e ((c.I v).getD 0 0):=oT h5;clear h5;have ck:cmpV vv (c.vl v ((c.I v).getD 0 0) (s.p ((c.I v).getD 0 0)+1))<0:=by
    have:=a6.srt hok D a9.1 (Nat.lt_succ_self _) c1;rw[a9.2.2]at this;exact this
   have cd:c.F.val ⟨S.L,lo,S.e,f6,h6⟩ ((c.I v).getD 0 0) (p7 ((c.I v).getD 0 0))=c.vl v ((c.I v).getD 0 0) (s.p ((c.I v).getD 0 0)+1):=by rw[bq];exact a3 f6 h6 _ D _
   refine ρ ?_;refine cl (Jmj (F:=c.F) (V':=⟨S.L,lo,S.e,f6,h6⟩) (I:=c.I v) (J:=c.J) (p:=p7) (jr:=c.rowv) (ja:=c.ja) (yv:=c.yv) (B:=B2) (c:=ak) (bc _ _) ai (c.nodup_I v) (λi hi=>ao.its i (JC.mem_I.1 hi).1) ao.jb cp (λi hi=>(ao.env.tri i (JC.mem_I.1 hi).1).mono λk _ hk=>aa k hk) ((hlist.gr aw).mono λk _ hk=>aa k hk)
    (λi hi=>?_) (λi hi a h7 h8=>?_)) ?_
   .have h9:=ae i hi;by_cases e:i=(c.I v).getD 0 0
    .rw[e,bq];simp only;omega
    rw[b6 i e];simp only;omega
   .rw[cd,a3 f6 h6 i hi];have h9:=ae i hi;simp only at h7;by_cases e:i=(c.I v).getD 0 0
    .rw[e]at h7 h8 ⊢;rw[bq]at h8;exact a6.srt hok D h7 h8 c1
    rw[b6 i e]at h8;have O:=a6.srt hok hi h7 h8 h9.2.1;rw[h9.2.2]at O;exact cmp_V.lt_trans O ck
   rintro u w8 ⟨cq,dz,p8,t8,rfl,c7,ch,bv,d2⟩;have H8:=ao.mt hok hY cq dz (p':=p8) c7;rw[cd]at bv d2;refine ρ ?_;have c0:t8=true->s.p ((c.I v).getD 0 0)<p8 ((c.I v).getD 0 0)/\p8 ((c.I v).getD 0 0)<S.e ((c.I v).getD 0 0):=λe=>by
    obtain⟨x',h7,h8,h9⟩:=bv e;have O:=h7 _ D;rw[a3 f6 h6 _ D]at O;refine⟨?_,O.1⟩;rcases Nat.lt_or_ge (s.p ((c.I v).getD 0 0)) (p8 ((c.I v).getD 0 0)) with a2|a2
    .exact a2
    exfalso
    have aj:=(ch _ D).1;simp only at aj;have c8:cmpV x' (c.vl v ((c.I v).getD 0 0) (s.p ((c.I v).getD 0 0)+1))<0:=by
     rw[<-O.2];exact a6.srt hok D aj om c1
    have:=cmp_V.anti x' (c.vl v ((c.I v).getD 0 0) (s.p ((c.I v).getD 0 0)+1));omega
   refine Jg ⟨t8,z6,λi=>if i∈c.I v then p8 i else p7 i,f6,h6,l6⟩ sB
    ⟨aw.trans (cq.mono λk _ hk=>aa k hk),H8,bg,λi hi a5=>?_,bp,bi,bm,λe=>?_,λe y=>?_⟩ ?_
   .simp only[if_neg a5];rw[b6 i (λe=>a5 (e ▸ D))];exact b9 i hi a5
   .obtain⟨x',h7,h8,h9⟩:=bv e;refine⟨x',λi hi=>?_,λy=>?_⟩
    .simp only[if_pos hi];refine⟨(ch i hi).1,(h7 i hi).1,?_⟩;rw[<-a3 f6 h6 i hi];exact(h7 i hi).2
    rw[av];have dg:cmpV vv x'<0:=cmp_V.lt_le ck h8;constructor
    .rintro(O|⟨O,a2,aj⟩)
     .exact .inl O
     exact .inr ⟨O,a2,cmp_V.le_lt aj dg⟩
    rintro(O|⟨O,a2,aj⟩)
    .exact .inl O
    refine .inr ⟨O,a2,Classical.byContradiction λah=>?_⟩;obtain⟨a,c8,be,bd⟩:=ac y O a2 ah;have ea:cmpV (c.vl v ((c.I v).getD 0 0) (s.p ((c.I v).getD 0 0)+1)) (y.getD v V0)<=0:=by
     rw[<-bd];by_cases e:a=s.p ((c.I v).getD 0 0)+1
     .rw[e,Zr];omega
     have:=a6.srt hok D (show lo ((c.I v).getD 0 0)<=s.p ((c.I v).getD 0 0)+1 by omega) (show s.p ((c.I v).getD 0 0)+1<a by omega) be;omega
    have er:=h9 _ (an f6 h6 y O a2) ea;have:=cmp_V.anti x' (y.getD v V0);omega
   .rw[av];constructor
    .rintro(O|⟨O,a2,aj⟩)
     .exact .inl O
     exact .inr ⟨O,a2⟩
    rintro(O|⟨O,a2⟩)
    .exact .inl O
    refine .inr ⟨O,a2,Classical.byContradiction λah=>?_⟩;obtain⟨a,c8,be,bd⟩:=ac y O a2 ah;refine d2 e _ (an f6 h6 y O a2) ?_;rw[<-bd];by_cases e:a=s.p ((c.I v).getD 0 0)+1
    .rw[e,Zr];omega
    have:=a6.srt hok D (show lo ((c.I v).getD 0 0)<=s.p ((c.I v).getD 0 0)+1 by omega) (show s.p ((c.I v).getD 0 0)+1<a by omega) be;omega
   simp only[h1,if_true,if_pos D];by_cases e:t8=true
   .have:=c0 e;rw[if_pos e];omega
   rw[if_neg e];omega
  have eo:¬ s.p ((c.I v).getD 0 0)+1<S.e ((c.I v).getD 0 0):=oF h5;clear h5;refine ρ ?_;refine Jg ⟨false,z6,p7,f6,h6,l6⟩ sB
   ⟨aw,ao,bg,λi hi a5=>?_,bp,bi,bm,λe=>(by cases e),λ_ y=>?_⟩ ?_
  .simp only;rw[b6 i (λe=>a5 (e ▸ D))];exact b9 i hi a5
  .rw[av];constructor
   .rintro(O|⟨O,a2,aj⟩)
    .exact .inl O
    exact .inr ⟨O,a2⟩
   rintro(O|⟨O,a2⟩)
   .exact .inl O
   refine .inr ⟨O,a2,Classical.byContradiction λah=>?_⟩;obtain⟨a,c8,be,bd⟩:=ac y O a2 ah;omega
  simp only[h1,if_true,Bool.false_eq_true,if_false];omega
 have cz:=d1 h1;clear cg d1;refine ρ ?_;refine Qd (fun (q:Nat) (R:LS)=>[(0,.pointer (some ⟨c.J,0,none⟩)),(1,.int .i64 (v:Int)),(8,.bool true),(83,.slice B2 (c.I v).length ak),(84,.int .i64 ((c.I v).length:Int)),(85,.int .i64 (q:Int))])
  (λq R w'=>q<=(c.I v).length/\GrN c.N w w'/\Cfg c Y w' s.z R.L R.p R.e s.f s.h s.l /\
   (∀ i∈(c.I v).take q,R.L i=lv (c.vars i) v/\R.p i=p i/\R.e i=e i) /\
   (∀ i,i<c.m->i ∉ (c.I v).take q->R.L i=S.L i/\R.p i=s.p i/\R.e i=S.e i)) (λq _=>(c.I v).length-q) 0 ⟨S.L,s.p,S.e,s.f,s.h⟩ sB
  ⟨Nat.zero_le _,a8,H2,λi hi=>by simp at hi,λi _ _=>⟨rfl,rfl,rfl⟩⟩ ?_
 rintro q R w3 ⟨hq,c4,H3,c6,ba⟩;refine ρ ?_;refine ci (λh2=>?_) (λh2=>?_)
 .have lq:q<(c.I v).length:=by have:=oT h2;omega
  clear h2;have d6:=hlist w3 c4;refine ρ ?_;refine ix q d6 lq ?_;refine ρ ?_;refine ld (d6.cell (Iz lq)) ?_;refine ρ ?_;obtain⟨i,hi⟩:∃ i,i=(c.I v).getD q 0:=⟨_,rfl⟩;rw[<-hi];have Z:i∈c.I v:=by rw[hi];exact getD_mem' 0 _ lq
  obtain⟨U,co⟩:=JC.mem_I.1 Z;have a7:(c.I v).take (q+1)=(c.I v).take q++[i]:=by rw[Xu 0 lq,hi]
  have bz:i ∉ (c.I v).take q:=λhm=>by
   have h1:((c.I v).take (q+1)).Nodup:=(c.nodup_I v).sublist (List.take_sublist _ _);rw[a7,List.nodup_append]at h1;exact h1.2.2 _ hm _ (List.mem_singleton.2 rfl) rfl
  obtain⟨e1,e2,e3⟩:=ba i U bz;obtain⟨dd,b5⟩:=H3.its i U;rw[e1,(a1 i Z).1]at b5;have ep:=hok.lvd Z;have ef:=hok.d32 i U;refine cl (Qfh b5 om) ?_;rintro u w4 ⟨cx,d8⟩;have cy:=c5 i U (lv (c.vars i) v) (by rw[(a1 i Z).1];omega);have dn:S.f i (lv (c.vars i) v)=p i:=by rw[(a1 i Z).2.2.2.2.1,Qw]
  have dm:S.h i (lv (c.vars i) v)=e i:=by rw[(a1 i Z).2.2.2.2.2,Qw]
  rw[cy.1,cy.2,dn,dm]at d8;have H4:=H3.it hok hY U cx d8;have eb:Cfg c Y w4 s.z (upd R.L i (lv (c.vars i) v)) (upd R.p i (p i)) (upd R.e i (e i)) s.f s.h s.l:=by
   rw[Kr,Kr]at H4;exact H4
  refine ρ ?_;refine Qv (q+1) ⟨upd R.L i (lv (c.vars i) v),upd R.p i (p i),upd R.e i (e i),s.f,s.h⟩ sO ⟨om,c4.trans (cx.mono λj _ ej=>a4 j (.inr (.inl ⟨i,U,ej⟩))),eb,λj hj=>?_,λj hj af=>?_⟩ om
  .rw[a7,List.mem_append,List.mem_singleton]at hj;by_cases ej:j=i
   .subst ej;simp only[Qw];exact⟨trivial,trivial,trivial⟩
   simp only[Jm _ _ ej];exact c6 j (hj.resolve_right ej)
  rw[a7,List.mem_append,List.mem_singleton,not_or]at af;simp only[Jm _ _ af.2];exact ba j hj af.1
 have eq:q=(c.I v).length:=by have:=oF h2;omega
 rw[eq,List.take_of_length_le (nR _)]at c6 ba;have H5:Cfg c Y w3 s.z (λi=>lv (c.vars i) v) p e s.f s.h s.l:=H3.congr λi hi=>by
  by_cases Z:i∈c.I v
  .have:=c6 i Z;exact⟨this.1.symm,this.2.1.symm,this.2.2.symm,rfl,rfl⟩
  have h5:=ba i hi Z;have h6:=ad i hi Z;exact⟨(h5.1.trans h6.1).symm,(h5.2.1.trans (b9 i hi Z)).symm,(h5.2.2.trans h6.2.2.1).symm,rfl,rfl⟩
 refine ρ ?_;refine Jq ⟨rfl,c4,s.z,s.f,s.h,s.l,H5,ca,λi hi k hk=>?_,bj,cz⟩;have h5:=c5 i hi k (by rw[bb i hi];have:=Jmr (c.vars i) v;by_cases Z:i∈c.I v;(rw[(Vc (hok.asc i hi) (JC.mem_I.1 Z).2).1];omega);rw[Kq (λh'=>Z (JC.mem_I.2 ⟨hi,h'⟩))];exact hk);by_cases Z:i∈c.I v
 .obtain⟨_,_,_,_,h8,h9⟩:=a1 i Z;rw[h5.1,h5.2,h8,h9,Jm _ _ om,Jm _ _ om];exact⟨rfl,rfl⟩
 obtain⟨_,_,_,h8,h9⟩:=ad i hi Z;rw[h5.1,h5.2,h8,h9];exact⟨rfl,rfl⟩
open Go.RowKit Pl Go.Wk
variable {g j k v:Nat}{p v4 va':Value}{w1 w2 w4:World}
theorem EIt: ElT Tryz.prog 192 198 1 8 (.pointer none):=⟨Tryz.underlying192,info_parts kr,rfl,by decide⟩
theorem EIts: ElT Tryz.prog 189 192 1 24 (.slice none 0 0):=⟨Tryz.underlying189,info_parts kr,rfl,by decide⟩
theorem Jsq(p:Option Addr)(w:World): (Instr.buildSlice 192 1 #[(0,.pointer p)]).run Tryz.prog w=.ok (.slice (some ⟨w.heap.size,0,none⟩) 1 1) (w.alloc (.cells [.pointer p].toArray 198)):=kr
theorem Qnd(A B:Option Addr)(n:Nat)(fid:FuncId)(first cap:Array Value)(w:World): (Instr.build 191 #[(0,.slice A n n),(1,.slice B n n),(3,.func (.func fid) first cap)]).run Tryz.prog w=.ok (.agg #[.slice A n n,.slice B n n,.int .i64 0,.func (.func fid) first cap]) w:=kr
structure RK where
 n: Nat
 vars:Nat->List Nat
 rs:Nat->List Row
 base:Nat
 J:Nat
 Ra:Option Addr
 Ba:Option Addr
 yv:Value
structure RS where
 G: Nat->Nat
 A:Nat->Option Addr
 lo:Nat->Nat
 hi:Nat->Nat
 va:Value
 vat:Nat->Value
def OB(K:RK)(S:RS)(k:Nat): Prop:=k=K.J∨(Value.slice K.Ra K.n K.n).ownBlock=some k∨(Value.slice K.Ba K.n K.n).ownBlock=some k∨S.va.ownBlock=some k∨∃ v,v<K.n/\(S.vat v).ownBlock=some k
structure RB(K:RK)(q:Nat)(S:RS)(cont:Nat->List Value)(alls:List Value)(w:World): Prop where
 jb:Blk w K.J 191 [.slice K.Ra K.n K.n,.slice K.Ba K.n K.n,.int .i64 0,K.yv]
 row:Yj w K.base (.slice K.Ra K.n K.n) (List.replicate K.n V0)
 at_:w.ownsRow K.base 192 1 (.slice K.Ba K.n K.n) K.n ((List.range K.n).map S.vat)
 lists:Fam w K.base 198 1 K.n S.vat (λv=>(cont v).length) cont
 all:w.ownsRow K.base 198 1 S.va alls.length alls
 alld:∀ v g,v<K.n->(S.vat v).ownBlock=some g->S.va.ownBlock≠some g
 its:∀ j,j<q->ItB w (S.G j) (S.A j) (K.vars j).length 0 0 0 (λ_=>0) (λ_=>0) 0
 tri:∀ j,j<q->Off (λk=>k<S.lo j∨S.hi j<=k) w (λu=>TriA u (S.A j) (K.vars j).length (K.rs j))
 iv:∀ j k,j<q->OB K S k->k<S.lo j∨S.hi j<=k
 gi:∀ i j,i<q->j<q->S.G i<S.lo j∨S.hi j<=S.G i
 ginj:∀ i j,i<j->j<q->S.G i<S.G j
 jlo:∀ j,j<q->K.J<S.lo j/\S.hi j<=w.heap.size
 jg:∀ j,j<q->K.J<S.G j
 bj:K.base<=K.J
section
variable {K:RK} {q:Nat} {S:RS} {cont:Nat->List Value} {alls:List Value} {w w':World}
theorem RB.ext(H:RB K q S cont alls w)(hx:Ext w w'): RB K q S cont alls w' :=
 ⟨H.jb.ext hx,Jb H.row hx,Jb H.at_ hx,H.lists.ext hx,Jb H.all hx,H.alld,λj u=>(H.its j u).ext hx,λj u=>(H.tri j u).ext hx,H.iv,H.gi,H.ginj,λj u=>⟨(H.jlo j u).1,Nat.le_trans (H.jlo j u).2 hx.size⟩,H.jg,H.bj⟩
theorem RB.oblt(H:RB K q S cont alls w)(h:OB K S k): k<w.heap.size:=by
 have u:∀ {base e sz m:Nat} {v:Value} {xs:List Value},w.ownsRow base e sz v m xs->∀ g,v.ownBlock=some g->g<w.heap.size:=λy g D=>by grind [Jy]
 rcases h with h|h|h|h|⟨v,hv,h⟩
 .rw[h];exact H.jb.lt
 .exact u H.row k h
 .exact u H.at_ k h
 .exact u H.all k h
 exact u (H.lists.own v hv) k h
theorem RB.iter(H:RB K q S cont alls w){A:Option Addr}(hx1:Ext w w1)(hT:Off (λk=>k<w.heap.size) w1 (λu=>TriA u A (K.vars q).length (K.rs q)))(hx2:Ext w1 w2)(hg:w1.heap.size<=g)(hI:ItB w2 g A (K.vars q).length 0 0 0 (λ_=>0) (λ_=>0) 0):
  RB K (q+1) { S with G:=upd S.G q g,A:=upd S.A q A,lo:=upd S.lo q w.heap.size,hi:=upd S.hi q w1.heap.size } cont alls w2:=by
 have F:=H.ext (hx1.trans hx2);have a2:=hI.lt;have ne:∀ {j},j<q->j≠q:=λh e=>by omega
 have D:∀ {j},j<q+1->j<q∨j=q:=λh=>by omega
 have a1:=hx1.size;have U:=hx2.size;refine⟨F.jb,F.row,F.at_,F.lists,F.all,F.alld,λj y=>?_,λj y=>?_,λj k y Z=>?_,λi j hi y=>?_,λi j J y=>?_,λj y=>?_,λj y=>?_,F.bj⟩
 .rcases D y with y|rfl
  .simp only[Jm _ _ (ne y)];exact F.its j y
  repeat grind [Qw]
 .rcases D y with y|rfl
  .simp only[Jm _ _ (ne y)];exact F.tri j y
  simp only[Qw];exact(hT.mono λk Z h=>by grind).ext hx2
 .have O:OB K S k:=Z;rcases D y with y|rfl
  .simp only[Jm _ _ (ne y)];exact H.iv j k y O
  simp only[Qw];exact .inl (H.oblt O)
 .rcases D y with y|rfl
  .simp only[Jm _ _ (ne y)];have h5:=(H.jlo j y).2;rcases D hi with hi|rfl
   .simp only[Jm _ _ (ne hi)];exact H.gi i j hi y
   repeat grind [Qw]
  simp only[Qw];rcases D hi with hi|rfl
  .simp only[Jm _ _ (ne hi)];exact .inl (H.its i hi).lt
  repeat grind [Qw]
 .rcases D y with y|rfl
  .simp only[Jm _ _ (ne y),Jm _ _ (ne (show i<q by omega))];exact H.ginj i j J y
  simp only[Qw,Jm _ _ (ne J)];have:=(H.its i J).lt;omega
 .rcases D y with y|rfl
  .simp only[Jm _ _ (ne y)];exact F.jlo j y
  simp only[Qw];exact⟨H.jb.lt,U⟩
 rcases D y with y|rfl
 .simp only[Jm _ _ (ne y)];exact F.jg j y
 simp only[Qw];have:=H.jb.lt;omega
theorem RB.trig(H:RB K q S cont alls w){N:Nat->Prop}(hg:GrN N w w')(hN:∀ k,k<w.heap.size->N k->OB K S k)(hj:j<q): Off (λk=>k<S.lo j∨S.hi j<=k) w' (λu=>TriA u (S.A j) (K.vars j).length (K.rs j)) :=
 (H.tri j hj).gr (hg.mono λk y h=>H.iv j k hj (hN k y h))
theorem RB.pushAll(H:RB K q S cont alls w)(ho:w'.ownsRow K.base 198 1 va' (alls.length+1) (alls++[p]))(hg:w.grownBy w' S.va.ownBlock)(hn:∀ g,va'.ownBlock=some g->S.va.ownBlock=some g∨w.heap.size<=g):
  RB K q { S with va:=va' } cont (alls++[p]) w':=by
 have y:GrN (λk=>S.va.ownBlock=some k) w w':=GrN.by hg λk U=>U
 have G:∀ g,S.va.ownBlock=some g->g≠K.J:=λg F e=>(H.jb.ne_own H.all rfl) (by rw[F,e]);have D:∀ k,OB K { S with va:=va' } k->OB K S k∨w.heap.size<=k:=λk O=>by
  rcases O with h|h|h|h|h
  .exact .inl (.inl h)
  .exact .inl (.inr (.inl h))
  .exact .inl (.inr (.inr (.inl h)))
  .rcases hn k h with h'|h'
   .exact .inl (.inr (.inr (.inr (.inl h'))))
   exact .inr h'
  exact .inl (.inr (.inr (.inr (.inr h))))
 refine⟨Ja H.jb y (λe=>G _ e rfl),Zq H.row H.all hg rfl,Zq H.at_ H.all hg rfl,H.lists.gr y (λi g hi F e=>H.alld i g hi F e),by grind,λv g Z F e=>?_,λj u=>?_,λj u=>?_,λj k u O=>?_,H.gi,H.ginj,λj u=>⟨(H.jlo j u).1,Nat.le_trans (H.jlo j u).2 hg.size⟩,H.jg,H.bj⟩
 .rcases hn g e with h'|h'
  .exact H.alld v g Z F h'
  have:=(H.lists.lt Z F).2;omega
 .exact Ja (H.its j u) y (λe=>(H.its j u).ne_own H.all rfl e.symm)
 .exact H.trig y (λk _ U=>.inr (.inr (.inr (.inl U)))) u
 rcases D k O with h'|h'
 .exact H.iv j k u h'
 have:=(H.jlo j u).2;exact .inr (by simp only;omega)
theorem RB.pushAt(H:RB K q S cont alls w)(hv:v<K.n)(ho:w4.ownsRow K.base 198 1 v4 ((cont v).length+1) (cont v++[p]))(hg:w.grownBy w4 (S.vat v).ownBlock)(hn:∀ g,v4.ownBlock=some g->(S.vat v).ownBlock=some g∨w.heap.size<=g):
  w4.cell? (adr K.Ba v)=some (S.vat v)/\w4.frozen? (adr K.Ba v)=false/\v4.oneCell'=true/\RB K q { S with vat:=upd S.vat v v4 } (upd cont v (cont v++[p])) alls (w4.setCell (adr K.Ba v) v4)/\GrN (λk=>(S.vat v).ownBlock=some k∨(Value.slice K.Ba K.n K.n).ownBlock=some k) w (w4.setCell (adr K.Ba v) v4):=by
 have F:=H.lists.own v hv;have Z:w4.ownsRow K.base 192 1 (.slice K.Ba K.n K.n) K.n ((List.range K.n).map S.vat):=Zq H.at_ F hg rfl;have F4:=H.lists.upd hv ho hg hn;obtain⟨s1,s2,s3,s4,s5⟩:=Zl Z (q:=v) om v4;have h1:v4.oneCell'=true:=by obtain⟨B,c,e,_⟩:=Jy ho;rw[e];rfl
 have y:GrN (λk=>(S.vat v).ownBlock=some k∨(Value.slice K.Ba K.n K.n).ownBlock=some k) w (w4.setCell (adr K.Ba v) v4):=(GrN.by hg λk ek=>.inl ek).trans (GrN.by s5 λk ek=>.inr ek);have a1:∀ k,(S.vat v).ownBlock=some k∨(Value.slice K.Ba K.n K.n).ownBlock=some k->OB K S k:=λk O=>by
  rcases O with h|h
  .exact .inr (.inr (.inr (.inr ⟨v,hv,h⟩)))
  exact .inr (.inr (.inl h))
 have G:∀ k,OB K { S with vat:=upd S.vat v v4 } k->OB K S k∨w.heap.size<=k:=λk O=>by
  rcases O with h|h|h|h|⟨u,hu,h⟩
  .exact .inl (.inl h)
  .exact .inl (.inr (.inl h))
  .grind
  .exact .inl (.inr (.inr (.inr (.inl h))))
  by_cases e:u=v
  .grind [Qw]
  simp only[Jm _ _ e]at h;exact .inl (.inr (.inr (.inr (.inr ⟨u,hu,h⟩))))
 have a2:((List.range K.n).map S.vat).set v v4=(List.range K.n).map (upd S.vat v v4):=by
  apply List.ext_getElem?
  grind [Qw,Jm]
 rw[a2]at s3;have F5:=F4.other Z s5 rfl;have nJ:¬ ((S.vat v).ownBlock=some K.J∨(Value.slice K.Ba K.n K.n).ownBlock=some K.J):=by
  rintro(h|h)
  .exact H.jb.ne_own F rfl h.symm
  exact H.jb.ne_own H.at_ rfl h.symm
 refine⟨s1.trans (by simp[hv]),s2,h1,⟨Ja H.jb y nJ,Zq (Zq H.row F hg rfl) Z s5 rfl,s3,⟨λi hi=>?_,F5.dis⟩,Jo H.all y (λg U=>?_),λu g hu U e=>?_,λj D=>?_,λj D=>H.trig y (λk _ O=>a1 k O) D,λj k D O=>?_,H.gi,H.ginj,λj D=>⟨(H.jlo j D).1,Nat.le_trans (H.jlo j D).2 y.size⟩,H.jg,H.bj⟩,y⟩
 .have:=F5.own i hi;grind [Qw,List.length_append,List.length_singleton,Jm]
 .rintro(h|h)
  .exact H.alld v g hv h U
  exact Iv H.at_ H.all rfl h U
 .by_cases e':u=v
  .subst e';simp only[Qw]at U;rcases hn g U with h'|h'
   .exact H.alld u g hu h' e
   obtain⟨_,_,_,_,hf⟩:=Jy H.all;grind
  simp only[Jm _ _ e']at U;exact H.alld u g hu U e
 .refine Ja (H.its j D) y ?_;rintro(h|h)
  .exact(H.its j D).ne_own F rfl h.symm
  exact(H.its j D).ne_own H.at_ rfl h.symm
 rcases G k O with h'|h'
 .exact H.iv j k D h'
 have:=(H.jlo j D).2;exact .inr (by simp only;omega)
end
open Go.RowKit Pl Go.Wk
attribute [local irreducible] WG
variable {vs:List Nat}{cs xs:List Value}{ca d g i m n q:Nat}{vars:Nat->List Nat}{G G' L e p:Nat->Nat}{N N' NY bx':Nat->Prop}{v x y yv:Value}{w w1 w2:World}
structure YS(s:Nat)(yv:Value)(bx:Nat->Prop)(Y:Nat->List Row->World->Prop): Prop where
 keep:∀ base l w w',Y base l w->GrN (λk=>s<=k/\k<base) w w'->Y base l w'
 call:∃ fid first cap,yv=.func (.func fid) first cap/\∀ base l w vr z,base<=w.heap.size->Y base l w->RowV w vr z->l.length<65536->Ret Tryz.prog fid (first.toList++[vr]++cap.toList) w λr w'=>r=.bool true/\Y base (l++[z]) w'/\GrN (λk=>bx k∨base<=k) w w'
theorem Jjm(ha:Qo vs)(hl:∀ u∈vs,u<n): vs.length<=n:=by
 have key:∀ k,lv vs k<=k:=by
  intro k;induction k with
  | zero=>rw[Jqr];exact nR _
  | succ k ih=>
   by_cases h:k∈vs
   repeat grind [Vc,Kq]
 have:=key n;rwa [Jmt hl]at this
theorem Jlt{cs:List Nat}(h:i<cs.length): (nz cs).getD i 0=(cs.getD i 0:Int):=by
 simp[nz,List.getD,List.getElem?_eq_getElem h]
structure RunOk(n:Nat)(ts:List TA)(vars:Nat->List Nat)(rs:Nat->List Row): Prop where
 n32:n<=32
 m32:ts.length<=32
 at_:∀ i,i<ts.length->(ts.getD i ta0).2=⟨nz (vars i),(vars i).length,rs i⟩
 asc:∀ i,i<ts.length->Qo (vars i)
 lt:∀ i,i<ts.length->∀ u∈vars i,u<n
 cov:∀ v,v<n->∃ i,i<ts.length/\v∈vars i
 srt:∀ i,i<ts.length->Lt [] (rs i)
 len:∀ i,i<ts.length->∀ r∈rs i,r.length=(vars i).length
 big:∀ i,i<ts.length->(rs i).length<=65536
theorem Jyp{base base' e sz:Nat}(h:w.ownsRow base e sz v m xs)(hb:base'<=base): w.ownsRow base' e sz v m xs:=by
 rcases h with⟨F,⟨rfl,rfl⟩|⟨g,D,y,rfl,u,G⟩⟩
 .exact⟨F,.inl ⟨rfl,rfl⟩⟩
 exact⟨F,.inr ⟨g,D,y,rfl,Nat.le_trans hb u,G⟩⟩
theorem _root_.Go.Wk.Blk.sub2{t:TypeId}(h:Blk w g t cs)(h0:cs[i]?=some x)(h1:cs[i+1]?=some y): ∀ j u,[x,y][j]?=some u->w.cell? ((⟨g,i,none⟩:Addr).add j)=some u:=λj u D=>by
 match j,D with
 | 0,D=>simp only[List.getElem?_cons_zero,Option.some.injEq]at D;subst D;exact h.sub h0
 | 1,D=>simp only[List.getElem?_cons_succ,List.getElem?_cons_zero,Option.some.injEq]at D;subst D;exact h.sub h1
 | j+2,D=>simp at D
def Yc(d t:Nat): List Value:=(List.range d).map λj=>.int .i64 ((if j<t then j else 0:Nat):Int)
theorem Qls(d:Nat): (madeCells (Value.int .i64 0).cells (d*1)).toList=Yc d 0:=by
 rw[Nat.mul_one];have e:(madeCells (Value.int .i64 0).cells d).toList=List.replicate d (Value.int .i64 0):=Yr _ _;rw[e];simp[Yc,List.map_const']
theorem Qlr(d:Nat): Yc d d=Jp (nz (List.range d)):=by grind [Yc,Jp,nz,List.map_map,List.map_congr_left,List.mem_range.1]
theorem Qlp{t:Nat}(h:t<d): (Yc d t).set t (.int .i64 (t:Int))=Yc d (t+1):=by
 apply List.ext_getElem?
 grind [Yc,List.getElem?_range]
theorem Qlq(d t:Nat): (Yc d t).length=d:=by simp[Yc]
theorem Qbh(A:Option Addr)(n c:Nat): ∀ u∈[Value.slice A n c],u.oneCell'=true:=λu y=>by rw[List.mem_singleton.1 y];rfl
def itp(g:Nat): Value:=.pointer (some ⟨g,0,none⟩)
def Xa(vars:Nat->List Nat)(G:Nat->Nat)(q:Nat)(v:Nat): List Value:=((List.range q).filter λi=>decide (v∈vars i)).map λi=>itp (G i)
theorem Qlx(vars:Nat->List Nat)(G:Nat->Nat)(q v:Nat): (Xa vars G q v).length<=q:=by grind [Xa,List.length_map,List.length_filter_le,List.range,List.length_range]
theorem Qlw(vars:Nat->List Nat)(G:Nat->Nat)(q v:Nat): Xa vars G (q+1) v=Xa vars G q v++if v∈vars q then[itp (G q)] else[]:=by grind [Xa,List.range_succ,List.filter_cons_of_pos,List.filter_cons_of_neg]
theorem Qlz(h:∀ j,j<q->G j=G' j)(v:Nat): Xa vars G q v=Xa vars G' q v:=by grind [Xa,List.map_congr_left,List.mem_range.1,List.mem_filter.1]
theorem _root_.Go.Wk.GrN.cut(hx:Ext w w1)(hg:GrN N w1 w2)(hN:∀ k,k<w.heap.size->N k->N' k): GrN N' w w2 :=
 ⟨hg.os.trans hx.os,hg.tape.trans hx.tape,hg.output.trans hx.output,Nat.le_trans hx.size hg.size,λk u hn=>(hg.block k (nM u hx.size) (λe=>hn (hN k u e))).trans (hx.block k u)⟩
theorem Cfg.steps{c:JC}{Y:List Row->World->Prop}{z:Row}{f h:Nat->Nat->Nat}{l:List Row}(H:Cfg c Y w z L p e f h l)(hok:JOk c)(hY:YC c Y NY){st:Int}(hJ:Blk w c.J 191 [c.rowv,c.ja,.int .i64 st,c.yv])(st':Int):
  Cfg c Y (w.setCell ⟨c.J,2,none⟩ (.int .i64 st')) z L p e f h l/\GrN c.NI w (w.setCell ⟨c.J,2,none⟩ (.int .i64 st')):=by
 have D:GrN (λk=>k=c.J) w (w.setCell ⟨c.J,2,none⟩ (.int .i64 st')):=GrN.set _ rfl;have u:GrN c.NI w (w.setCell ⟨c.J,2,none⟩ (.int .i64 st')):=GrN.set _ (.inl rfl);refine⟨⟨H.env.gr (u.mono λk _ F=>hok.sub k F),λi hi=>?_,Jo H.row D (λg O=>H.rowJ O),H.zl,⟨_,hJ.set 2 _⟩,hY.keep _ _ _ H.y u⟩,u⟩;obtain⟨st,G⟩:=H.its i hi;exact⟨st,Ja G D (hok.gj i hi)⟩
theorem Jtn(h:Qo vs): vs.Nodup:=h.imp λh e=>by omega
theorem Jdf(n:Nat): (madeCells (Value.slice none 0 0).cells (n*1)).toList=List.replicate n (Value.slice none 0 0):=by rw[Nat.mul_one];exact Yr _ _
theorem Qkm{ts:List TA}{Aa:Option Addr}{rs:Nat->List Row}{Y:Nat->List Row->World->Prop}(hok:RunOk n ts vars rs)(hR:Rd w 3 Aa ts.length (atC ts))(hat:∀ p∈ts,AtV w p.1 p.2)(hbx:∀ k,bx' k->k<w.heap.size)(hY:YS w.heap.size yv bx' Y)(hY0:∀ w',Ext w w'->Y w'.heap.size [] w')(hcap:∀ l:List Row,Lt [] l->(∀ x∈l,Gy n ts.length vars rs x)->l.length<=65536):
  Ret Tryz.prog 66 [.int .i64 (n:Int),.slice Aa ts.length ca,yv] w λu w'=>GrN bx' w w'/\∃ st base l,u=.tuple #[.int .i64 st,.int .i64 0]/\base<=w'.heap.size/\Y base l w'/\Lt [] l/\∀ x,x∈l↔Gy n ts.length vars rs x:=by
 have dl:=hok.n32;have dn:=hok.m32;obtain⟨m,hm⟩:∃ m,m=ts.length:=⟨_,rfl⟩;obtain⟨bl,first,bm,ez,d5⟩:=hY.call;subst ez;refine Jz Tryz.func66 Tryz.ntmps66 rfl kr rfl ?_;refine ρ ?_;have dc:Ext w w.drew:=(Ext.refl w).drew;refine drG kr ?_;refine gpre (fuel':=5) [(0,0),(0,2),(0,4)] #[true,false,true,false,true,false,false,false] kr kr rfl ?_;refine ρd ?_;refine Jkn ?_;refine gcut 3 #[true,true,true,true,true,false,false,false] (fun (x:Option Addr×Option Addr)=>[(0,.int .i64 (n:Int)),(1,.slice Aa ts.length ca),(2,.func (.func bl) first bm),(24,.slice x.1 n n),(26,.slice x.2 n n),(27,.func (.func bl) first bm)])
  (λx w'=>Ext w.drew w'/\Yj w' w.heap.size (.slice x.1 n n) (List.replicate n V0)/\w'.ownsRow w.heap.size 192 1 (.slice x.2 n n) n (List.replicate n (.slice none 0 0))) ?_ ?_
 .rintro⟨Ra,Ba⟩ w1 ⟨dh,b5,cj⟩;refine gpre (fuel':=0) [(1,5),(1,6),(0,7)] #[true,true,true,true,true,true,true,true] kr kr rfl ?_;refine Jkx ?_;refine bld (Qnd _ _ _ _ _ _ _) ?_;refine Qk (Jkw (Ext.refl _) ?_);refine Jkx ?_;refine bx ?_;intro w2 J a1 hJ f6;refine Qk (Jkw a1 ?_);refine ρd ?_;refine Jkn ?_;refine gend kr ?_;refine ρ ?_;have ac:Ext w w2:=(dc.trans dh).trans a1;have e6:w.heap.size<=J:=nL (dc.trans dh).size hJ;obtain⟨K,hK⟩:∃ K:RK,K=⟨n,vars,rs,w.heap.size,J,Ra,Ba,.func (.func bl) first bm⟩:=⟨_,rfl⟩;have H2:RB K 0 ⟨λ_=>0,λ_=>none,λ_=>0,λ_=>0,.slice none 0 0,λ_=>.slice none 0 0⟩ (λ_=>[]) [] w2:=by
   subst hK;refine⟨f6,Jb b5 a1,?_,⟨λi hi=>Xj _ _ _ _,λi j g _ _ _ e=>(by cases e)⟩,Xj _ _ _ _,λv g _ e=>(by cases e),λj hj=>om,λj hj=>om,λj k hj=>om,λi j hi=>om,λi j _ hj=>om,λj hj=>om,λj hj=>om,e6⟩;have:=Jb cj a1;have e:List.replicate n (Value.slice none 0 0)=(List.range n).map λ_=>Value.slice none 0 0:=by simp[List.map_const']
   rw[e]at this;exact this
  clear b5 cj;refine Jl (fun (i:Nat)=>[(0,.int .i64 (n:Int)),(1,.slice Aa ts.length ca),(8,.pointer (some ⟨J,0,none⟩)),(30,.slice Aa ts.length ca),(31,.int .i64 (ts.length:Int)),(32,.int .i64 (i:Int))])
   (λi w'=>i<=ts.length/\Ext w2 w'/\∀ j,j<i->rs j≠[]) (λi=>ts.length-i) 0 sB ⟨Nat.zero_le _,Ext.refl _,λj hj=>om⟩ ?_
  rintro i w3 ⟨hi,Z,cb⟩;refine ρ ?_;refine ci (λh=>?_) (λh=>?_)
  .have li:i<ts.length:=by have:=oT h;omega
   have ec:=hR.ext (ac.trans Z);obtain⟨t1,t2,t3,a,hp⟩:∃ t1 t2 t3 a,ts.getD i ta0=((t1,t2,t3),a):=⟨_,_,_,_,rfl⟩;have a8:AtV w (t1,t2,t3) a:=by have:=hat _ (Jvf rfl li);rw[hp]at this;exact this
   have ea:a=⟨nz (vars i),(vars i).length,rs i⟩:=by have:=hok.at_ i li;rw[hp]at this;exact this
   clear h;obtain⟨⟨D,d,e1,hd,f8,dx⟩,e2,a6⟩:=id a8;simp only at e1 e2;subst e1;subst e2;obtain⟨ps,G,gc,_,ay,_⟩:=id a6;simp only at ay;subst ay;refine ρ ?_;refine ixq 3 i ec li ?_;refine ρ ?_;refine lds (cs:=[.slice D a.vars.length d,.int .i64 (a.ar:Int),.slice G ps.length gc]) (λj u hu=>Jwn ec rfl li (by rw[hp];exact hu)) ?_;refine ρ ?_;refine alc Zu ?_;intro w4 b a5 hb hB;refine ρ ?_;refine stb hB ?_ a8.one;intro w5 ff d1 cu;have av:Ext w3 w5:=cu w3 a5 hb;refine ρ ?_;refine lds (cs:=[.int .i64 (a.ar:Int),.slice G ps.length gc]) (ff.sub2 (i:=1) rfl rfl) ?_;refine ρ ?_;refine cl (Jqd ((a8.ext (((ac.trans Z).trans av))).rel)) ?_;rintro u w6 ⟨rfl,bq⟩;refine ρ ?_;refine ci (λh=>?_) (λh=>?_)
   .refine ρ ?_;have c4:Ext w w6:=((ac.trans Z).trans av).trans bq;refine Xx ⟨(GrN.ext c4),0,w6.heap.size,[],rfl,Nat.le_refl _,hY0 w6 c4,List.Pairwise.nil,λx=>⟨λhx=>(by cases hx),λhx=>?_⟩⟩;have U:=hx.2 i li;have h2:a.rows.length=0:=by have:=Yp h;omega
    rw[ea]at h2;have h3:rs i=[]:=List.eq_nil_of_length_eq_zero h2;rw[h3]at U;cases U
   have h2:rs i≠[]:=λe=>by
    have h3:=Vr h;rw[ea,e]at h3;exact h3 rfl
   refine ρ ?_;refine Jg (i+1) sO ⟨om,(Z.trans av).trans bq,λj hj=>?_⟩ om;by_cases e:j=i
   .rw[e];exact h2
   exact cb j om
  have d0:i=ts.length:=by have:=oF h;omega
  subst d0;refine ρ ?_;refine Qd (fun (q:Nat) (S:RS)=>[(0,.int .i64 (n:Int)),(8,.pointer (some ⟨J,0,none⟩)),(11,S.va),(41,.slice Aa ts.length ca),(42,.int .i64 (ts.length:Int)),(43,.int .i64 (q:Int))])
   (λq S w'=>q<=ts.length/\Ext w w'/\RB K q S (Xa vars S.G q) ((List.range q).map λj=>itp (S.G j)) w') (λq _=>ts.length-q) 0 ⟨λ_=>0,λ_=>none,λ_=>0,λ_=>0,.slice none 0 0,λ_=>.slice none 0 0⟩ sB
   ⟨Nat.zero_le _,ac.trans Z,H2.ext Z⟩ ?_
  rintro q S w4 ⟨hq,a5,H4⟩;refine ρ ?_;refine ci (λh=>?_) (λh=>?_)
  .have lq:q<ts.length:=by have:=oT h;omega
   have eb:=hR.ext a5;obtain⟨t1,t2,t3,a,hp⟩:∃ t1 t2 t3 a,ts.getD q ta0=((t1,t2,t3),a):=⟨_,_,_,_,rfl⟩;have a8:AtV w (t1,t2,t3) a:=by have:=hat _ (Jvf rfl lq);rw[hp]at this;exact this
   have ea:a=⟨nz (vars q),(vars q).length,rs q⟩:=by have:=hok.at_ q lq;rw[hp]at this;exact this
   subst ea;clear h;obtain⟨⟨D,d,e1,hd,f8,dx⟩,e2,a6⟩:=id a8;simp only at e1 e2;subst e1;subst e2;obtain⟨ps,G,gc,_,ay,_⟩:=id a6;simp only at ay;subst ay;have dk:=Ju (vars q);have fm:(vars q).length<=n:=Jjm (hok.asc q lq) (hok.lt q lq);refine ρ ?_;refine ixq 3 q eb lq ?_;refine ρ ?_;refine lds (cs:=[.slice D (nz (vars q)).length d,.int .i64 ((vars q).length:Int),.slice G ps.length gc]) (λj u hu=>Jwn eb rfl lq (by rw[hp];exact hu)) ?_;refine ρ ?_;refine alc Zu ?_;intro w5 b cu hb hB;refine ρ ?_;refine stb hB ?_ a8.one;intro w6 en bv bq;have c5:Ext w4 w6:=bq w4 cu hb;have H6:=H4.ext c5;refine ρ ?_;refine ld (en.at (i:=0) rfl) ?_;refine ρ ?_;rw[dk];refine mkn EI (vars q).length om (by unfold maxLen;omega) ?_;intro w7 O dd cy fp;rw[Qls]at cy;refine ρ ?_;refine Jl (fun (t:Nat)=>[(0,.int .i64 (n:Int)),(8,.pointer (some ⟨J,0,none⟩)),(11,S.va),(41,.slice Aa ts.length ca),(42,.int .i64 (ts.length:Int)),(43,.int .i64 (q:Int)),(13,.pointer (some ⟨b,0,none⟩)),(14,.slice O (vars q).length (vars q).length),(51,.slice O (vars q).length (vars q).length),(52,.int .i64 ((vars q).length:Int)),(53,.int .i64 (t:Int))])
    (λt w'=>t<=(vars q).length/\Ext w6 w'/\w'.ownsRow w6.heap.size 3 1 (.slice O (vars q).length (vars q).length) (vars q).length (Yc (vars q).length t)) (λt=>(vars q).length-t) 0 sB
    ⟨Nat.zero_le _,dd,cy⟩ ?_
   clear cy dd;rintro t w8 ⟨ht,bp,b8⟩;refine ρ ?_;refine ci (λh=>?_) (λh=>?_)
   .have lt:t<(vars q).length:=by have:=oT h;omega
    clear h;refine ρ ?_;refine ix t (Rd.own b8) lt ?_;obtain⟨s1,s2,s3,s4,s5⟩:=Zl b8 (q:=t) om (.int .i64 (t:Int));have e5:t<(Yc (vars q).length t).length:=by rw[Qlq];exact lt
    refine ρ ?_;refine sto (s1.trans (gE e5)) s2 ?_;rw[Qlp lt]at s3;have au:Ext w6 (w8.setCell (adr O t) (.int .i64 (t:Int))):=Jr bp s5 (λk hk=>by
     obtain⟨_,_,_,_,hf⟩:=Jy b8;exact(hf k hk).1)
    refine ρ ?_;exact Jg (t+1) sO ⟨om,au,s3⟩ om
   have cw:t=(vars q).length:=by have:=oF h;omega
   subst cw;clear h;rw[Qlr]at b8;have em:=en.ext bp;have c0:Ext w w8:=(a5.trans c5).trans bp;have d2:IntsV w8 (.slice O (vars q).length (vars q).length) (nz (List.range (vars q).length)):=by
    have e:(nz (List.range (vars q).length)).length=(vars q).length:=by rw[Ju,List.length_range]
    exact⟨O,(vars q).length,by rw[e],by rw[e];exact nR _,by rw[e];omega,by rw[e];exact Rd.own b8⟩
   refine ρ ?_;refine lds (cs:=[.int .i64 ((vars q).length:Int),.slice G ps.length gc]) (em.sub2 (i:=1) rfl rfl) ?_;refine ρ ?_;refine cl (Qxg (a8.ext c0).rel (hok.srt q lq) (hok.len q lq) d2 (show(vars q).length<=32 by omega) (hok.big q lq)) ?_;rintro u w9 ⟨au,tv,rfl,⟨bn,rfl⟩,e8⟩;refine ρ ?_;refine alc Jws ?_;intro fl b2 dg f9 fe;refine ρ ?_;refine stb (cs':=[.slice bn (vars q).length (vars q).length]) fe ?_ (Qbh _ _ _);intro db eo fi df;have ae:Ext w9 db:=df w9 dg f9;refine ρ ?_;refine ldW eo ?_;refine ρ ?_;refine cl (Qxh db) ?_;rintro u da ⟨aw,g,rfl,dw,ck⟩;have H8:=H6.ext bp;have e7:Off (λk=>k<w8.heap.size) w9 (λu=>TriA u bn (K.vars q).length (K.rs q)):=by
    subst hK;exact e8.imp λu h=>h.a
   have bi:ItB da g bn (K.vars q).length 0 0 0 (λ_=>0) (λ_=>0) 0:=by subst hK;exact ck
   have ew:=H8.iter au e7 (ae.trans aw) (nL ae.size dw) bi;have bj:=em.ext (((au.trans ae)).trans aw);have bz:K.n=n:=by rw[hK]
   have d8:K.base=w.heap.size:=by rw[hK]
   have fb:K.J=J:=by rw[hK]
   have bd:K.Ba=Ba:=by rw[hK]
   have ap:Ext w da:=(c0.trans au).trans (ae.trans aw);have cz:∀ {w':World} {e sz m':Nat} {v:Value} {xs:List Value},w'.ownsRow K.base e sz v m' xs->∀ k,v.ownBlock=some k->w.heap.size<=k:=λho k ek=>by
    obtain⟨_,_,_,_,hf⟩:=Jy ho;rw[<-d8];exact(hf k ek).1
   refine ρ ?_;refine bsl (Jsq (some ⟨g,0,none⟩)) ?_;intro fk b3 a3 fo fh;have bo:=ew.ext a3;refine ρ ?_;refine apb (base:=K.base) EIt bo.all (fh.rd (n:=1) rfl) (λu hu=>by rw[List.mem_singleton.1 hu];rfl) (by unfold maxLen;simp;omega) (by simp;omega) (by rw[d8];exact(ap.trans a3).size) ?_;intro cr ey c9 ai cd;have eu:=bo.pushAll c9 ai cd;have cn:=(bj.ext a3).grown ai ((bj.ext a3).ne_own bo.all rfl);have c6:Ext w ey:=Jr (ap.trans a3) ai (cz bo.all);refine ρ ?_;refine ld (cn.at (i:=0) rfl) ?_;refine ρ ?_;refine Qd (fun (t:Nat) (vt:Nat->Value)=>[(0,.int .i64 (n:Int)),(8,.pointer (some ⟨J,0,none⟩)),(11,cr),(41,.slice Aa ts.length ca),(42,.int .i64 (ts.length:Int)),(43,.int .i64 (q:Int)),(18,.pointer (some ⟨g,0,none⟩)),(78,.slice D (nz (vars q)).length d),(79,.int .i64 ((nz (vars q)).length:Int)),(80,.int .i64 (t:Int))])
    (λt vt w'=>t<=(vars q).length/\Ext w w'/\RB K (q+1) { G:=upd S.G q g,A:=upd S.A q bn,lo:=upd S.lo q w8.heap.size,hi:=upd S.hi q w9.heap.size,va:=cr,vat:=vt } (λv=>Xa vars S.G q v++if v∈(vars q).take t then[itp g] else[]) (((List.range q).map λj=>itp (S.G j))++[itp g]) w') (λt _=>(vars q).length-t) 0 S.vat sB
    ⟨Nat.zero_le _,c6,?_⟩ ?_
   .have e:(λv=>Xa vars S.G q v++if v∈(vars q).take 0 then[itp g] else[])=Xa vars S.G q:=by funext v;simp
    rw[e];exact eu
   clear eu bo c9 ai cd cn c6 ew bj ck bi e8 e7;rintro t vt cq ⟨ht,ah,ao⟩;refine ρ ?_;refine ci (λh=>?_) (λh=>?_)
   .have lt:t<(vars q).length:=by have:=oT h;omega
    clear h;obtain⟨vi,cv⟩:∃ vi,vi=(vars q).getD t 0:=⟨_,rfl⟩;have f0:vi∈vars q:=by rw[cv];exact getD_mem' 0 _ lt
    have am:vi<n:=hok.lt q lq vi f0;have ax:vi<K.n:=by rw[bz];exact am
    have cm:=dx.ext ah;refine ρ ?_;refine ix t cm (by rw[dk];exact lt) ?_;refine ρ ?_;refine ld (cm.cell (Qn lt)) ?_;rw[<-cv];obtain⟨own,b6⟩:∃ own,own=(vt vi).ownBlock:=⟨_,rfl⟩;have bh:=ao.jb;rw[fb,bd,bz]at bh;have a7:=ao.at_;rw[bz,bd]at a7;have b7:=ao.lists.own vi ax;have nJ:¬ one own J:=λe=>by
     have U:own=some J:=e;exact bh.ne_own b7 rfl (by rw[<-U];exact b6)
    have nA:∀ ad,Ba=some ad->¬ one own ad.block:=λad e h'=>by
     subst e;exact Iv a7 b7 rfl rfl (by have U:own=some ad.block:=h';rw[<-U];exact b6.symm)
    refine ρ ?_;refine drN (one own) 8 [(0,0),(0,1),(0,2),(0,3),(0,4),(0,5),(0,6),(0,7),(0,8),(0,9),(0,10),(0,11),(0,12),(1,13),(1,14),(0,15),(2,16)] kr ?_;have a2:Ext cq cq.drew:=(Ext.refl cq).drew;have et:=ao.ext a2;have bg:=bh.ext a2;have aj:=Jb a7 a2;have d3:((List.range n).map vt)[vi]?=some (vt vi):=by simp[am]
    refine ρn ?_;refine nld (Qf (bg.at (i:=1) rfl) nJ) ?_;refine ρn ?_;refine nld (Qf (bg.at (i:=1) rfl) nJ) ?_;refine ρn ?_;refine nix vi (Rd.own aj) am ?_;refine ρn ?_;refine nld (λw' hg=>(Zg (Rd.own aj) hg (λ_ ad e=>nA ad e)).cell d3) ?_;refine ρn ?_;refine nop ?_;refine bsl (Jsq (some ⟨g,0,none⟩)) ?_;intro fj b4 af fn fg;refine ρ ?_;refine Qg (GrN.ext af) ?_;have an:=et.ext af;refine nop ?_;have e5:=Qlx vars S.G q vi;refine apb (base:=K.base) EIt (an.lists.own vi ax) (fg.rd (n:=1) rfl) (λu hu=>by rw[List.mem_singleton.1 hu];rfl) ?_ ?_ (by rw[d8];exact((ah.trans a2).trans af).size) ?_
    .rw[List.length_append];unfold maxLen;split<;>simp<;>omega
    .rw[List.length_append];split<;>simp<;>omega
    intro v4 ex dj b9 dm;refine ρ ?_;refine Qg (GrN.by b9 λj ej=>by rw[<-b6]at ej;exact ej) ?_;obtain⟨c1,c2,c3,es,ce⟩:=an.pushAt ax dj b9 dm;rw[bd]at c1 c2 es ce;have cp:=Zq an.at_ (an.lists.own vi ax) b9 rfl;rw[bz,bd]at cp;refine ρn ?_;refine nix vi (Rd.own cp) am ?_;refine ρn ?_;refine Xm ?_;refine sto c1 c2 ?_ (hv:=c3);have de:Ext w (ex.setCell (adr Ba vi) v4):=ce.old ((ah.trans a2).trans af) (λk hk=>by
     rcases hk with hk|hk
     .exact cz (an.lists.own vi ax) k hk
     exact cz an.at_ k (by rw[bd];exact hk))
    refine ω5 ?_;refine Uf ?_;refine ρn ?_;refine ρ ?_;refine Qv (t+1) (upd vt vi v4) sO ⟨om,de,?_⟩ om;have di:(vars q).take (t+1)=(vars q).take t++[vi]:=by rw[Xu 0 lt,cv]
    have f3:vi ∉ (vars q).take t:=λhm=>by
     have U:((vars q).take (t+1)).Nodup:=(Jtn (hok.asc q lq)).sublist (List.take_sublist _ _);rw[di,List.nodup_append]at U;exact U.2.2 _ hm _ (List.mem_singleton.2 rfl) rfl
    have e:upd (λv=>Xa vars S.G q v++if v∈(vars q).take t then[itp g] else[]) vi ((Xa vars S.G q vi++if vi∈(vars q).take t then[itp g] else[])++[.pointer (some ⟨g,0,none⟩)])=(λv=>Xa vars S.G q v++if v∈(vars q).take (t+1) then[itp g] else[]):=by
     funext v
     rw[di];by_cases e:v=vi
     .subst e;rw[Qw,if_neg f3,if_pos (by simp)];simp[itp]
     rw[Jm _ _ e];congr 1
     by_cases U:v∈(vars q).take t
     .rw[if_pos U,if_pos (by simp[U])]
     rw[if_neg U,if_neg (by simp[U,e])]
    rw[<-e];exact es
   have cw:t=(vars q).length:=by have:=oF h;omega
   subst cw;clear h;refine ρ ?_;refine Qv (q+1) ⟨upd S.G q g,upd S.A q bn,upd S.lo q w8.heap.size,upd S.hi q w9.heap.size,cr,vt⟩ sO ⟨om,ah,?_⟩ om;have e1:(λv=>Xa vars S.G q v++if v∈(vars q).take (vars q).length then[itp g] else[])=Xa vars (upd S.G q g) (q+1):=by
    funext v
    rw[Qlw,List.take_length,Qw,Qlz (G':=upd S.G q g) (λj hj=>(Jm _ _ om).symm)]
   have e2:((List.range q).map λj=>itp (S.G j))++[itp g]=(List.range (q+1)).map λj=>itp (upd S.G q g j):=by
    rw[List.range_succ,List.map_append,List.map_singleton,Qw];congr 1
    refine List.map_congr_left λj hj=>?_;have:=List.mem_range.1 hj;rw[Jm _ _ om]
   rw[e1,e2]at ao;exact ao
  have f2:q=ts.length:=by have:=oF h;omega
  subst f2;clear h;subst hK;obtain⟨h0,bu⟩:∃ h0,h0=w4.heap.size:=⟨_,rfl⟩;obtain⟨a9,ak⟩:∃ a9:Nat->Prop,a9=λk=>k=J∨(∃ i,i<ts.length/\k=S.G i)∨(Value.slice Ra n n).ownBlock=some k:=⟨_,rfl⟩;obtain⟨c,hc⟩:∃ c:JC,c=⟨⟨S.G,S.A,λi=>(vars i).length,rs⟩,n,ts.length,vars,J,Ra,w.heap.size,.slice Ba n n,.func (.func bl) first bm,S.vat,λk=>bx' k∨h0<=k∨a9 k⟩:=⟨_,rfl⟩;have d7:∀ k,c.NI k↔a9 k:=λk=>by subst hc;subst ak;exact Iff.rfl
  have bw:∀ k,c.N k↔bx' k∨h0<=k∨a9 k:=λk=>by subst hc;exact Iff.rfl
  have ee:J<h0:=by rw[bu];exact H4.jb.lt
  have c7:∀ {e sz m':Nat} {v:Value} {xs:List Value},w4.ownsRow w.heap.size e sz v m' xs->∀ k,v.ownBlock=some k->w.heap.size<=k/\k<h0:=λho k ek=>by
   obtain⟨_,_,_,_,hf⟩:=Jy ho;rw[bu];exact hf k ek
  have bc:∀ k,a9 k->w.heap.size<=k/\k<h0:=λk hk=>by
   subst ak;rcases hk with hk|⟨i,hi,hk⟩|hk
   .subst hk;exact⟨e6,ee⟩
   .subst hk;have U:=(H4.its i hi).lt;have h2:=H4.jg i hi;simp only at h2;omega
   exact c7 H4.row k hk
  have fa:∀ k,k<h0->¬ bx' k->¬ a9 k->¬ c.N k:=λk U h2 h3 h4=>by
   rcases(bw k).1 h4 with h5|h5|h5
   .exact h2 h5
   .omega
   exact h3 h5
  have ch:∀ k,w.heap.size<=k->¬ bx' k:=λk hk hb=>by have:=hbx k hb;omega
  have aa:∀ {e sz m':Nat} {v:Value} {xs:List Value},w4.ownsRow w.heap.size e sz v m' xs->Nat.beq e 191=false->Nat.beq e 224=false->Nat.beq 75 e=false->∀ k,v.ownBlock=some k->¬ c.N k:=λho e1 e2 e3 k ek=>by
   have U:=c7 ho k ek;refine fa k U.2 (ch k U.1) λh2=>?_;subst ak;rcases h2 with h2|⟨i,hi,h2⟩|h2
   .subst h2;exact H4.jb.ne_own ho e1 ek.symm
   .subst h2;exact(H4.its i hi).ne_own ho e2 ek.symm
   exact Iv H4.row ho e3 h2 ek
  have fc:∀ v,c.I v=(List.range ts.length).filter λi=>decide (v∈vars i):=λv=>by subst hc;rfl
  have c8:∀ v,Ik c.F (c.I v)=Xa vars S.G ts.length v:=λv=>by rw[fc];subst hc;rfl
  have ef:∀ v,(c.I v).length=(Xa vars S.G ts.length v).length:=λv=>by rw[<-c8];simp[Ik]
  have be:JOk c:=by
   have dt:∀ i j,i<ts.length->j<ts.length->S.G i=S.G j->i=j:=λi j hi hj e=>by
    rcases Nat.lt_trichotomy i j with U|U|U
    .have:=H4.ginj i j U hj;omega
    .exact U
    have:=H4.ginj j i U hi;omega
   have f7:∀ i,i<ts.length->S.G i≠J:=λi hi e=>by have:=H4.jg i hi;simp only at this;omega
   have dz:∀ i,i<ts.length->(vars i).length<=32:=λi hi=>by have:=Jjm (hok.asc i hi) (hok.lt i hi);omega
   subst hc;exact⟨dl,dn,hok.asc,hok.lt,λi _=>rfl,dz,cb,hok.srt,hok.len,hok.big,dt,f7,hok.cov,λk hk=>.inr (.inr ((d7 k).1 hk))⟩
  have d9:JEnv c w4:=by
   refine⟨λi hi=>?_,⟨Ba,n,by subst hc;rfl,?_⟩,λv hv=>?_⟩
   .have bt:i<ts.length:=by subst hc;exact hi
    have U:=H4.tri i bt;have h2:Off c.N w4 (λu=>TriA u (S.A i) (vars i).length (rs i)):=U.mono λk hk h=>by
     have h3:=(H4.jlo i bt);have h4:=H4.iv i k bt;simp only at h3;rcases(bw k).1 h with h5|h5|h5
     .have:=hbx k h5;exact .inl om
     .omega
     subst ak;rcases h5 with h5|⟨i',d0,h5⟩|h5
     .exact h4 (.inl h5)
     .subst h5;exact H4.gi i' i d0 bt
     exact h4 (.inr (.inl h5))
    subst hc;exact h2
   .have U:=Jqk H4.at_ (aa H4.at_ rfl rfl rfl);have h2:=U.imp (Ψ:=λu=>Rd u 1 Ba n ((List.range n).map S.vat)) λu h=>Rd.own h;have:c.n=n/\c.vat=S.vat:=by subst hc;exact⟨rfl,rfl⟩
    rw[this.1,this.2];exact h2
   have am:v<n:=by subst hc;exact hv
   have ho:=H4.lists.own v am;obtain⟨B,cc,e1,e2,e3⟩:=Jy ho;have:c.vat v=S.vat v:=by subst hc;rfl
   refine⟨B,cc,by rw[this,e1,ef],?_⟩;rw[c8,ef];refine(Jqk ho (aa ho rfl rfl rfl)).imp λu h=>?_;rw[e1]at h;exact Rd.own h
  have d6:YC c (λl u=>Y h0 l u/\h0<=u.heap.size) (λk=>bx' k∨h0<=k):=by
   refine⟨λk hk=>(bw k).2 (by rcases hk with h|h;(exact .inl h);exact .inr (.inl h)),λk hk h=>?_,λl u u' h hg=>⟨hY.keep _ _ _ _ h.1 (hg.mono λk _ hk=>?_),Nat.le_trans h.2 hg.size⟩,bl,first,bm,by subst hc;rfl,λl u vr z h hr hl=>?_⟩
   .have U:=bc k ((d7 k).1 h);rcases hk with h2|h2
    .exact ch k U.1 h2
    omega
   .have U:=bc k ((d7 k).1 hk);exact U
   refine(d5 h0 l u vr z h.2 h.1 hr hl).mono ?_;rintro r u' ⟨U,h2,h3⟩;exact⟨U,⟨h2,Nat.le_trans h.2 h3.size⟩,h3⟩
  have e0:c.n=n:=by subst hc;rfl
  have e4:c.m=ts.length:=by subst hc;rfl
  have ei:Cfg c (λl u=>Y h0 l u/\h0<=u.heap.size) w4 (List.replicate n V0) (λi=>lv (c.vars i) 0) (λ_=>0) (λ_=>0) (λ_ _=>0) (λ_ _=>0) []:=by
   refine⟨d9,λi hi=>⟨0,?_⟩,?_,by rw[e0];simp,⟨0,?_⟩,by rw[bu];exact hY0 w4 a5,by rw[bu];exact nR _⟩
   .simp only[Jqr];rw[e4]at hi;have:=H4.its i hi;subst hc;exact this
   .have:=H4.row;subst hc;exact this
   have:=H4.jb;subst hc;exact this
  have co:∀ x,c.Ans x↔Gy n ts.length vars rs x:=λx=>by subst hc;exact Iff.rfl
  have ed:Pth c 0 (List.replicate n V0) (λ_=>0) (λ_=>0):=by
   refine⟨λi hi=>?_,λi hi h=>?_⟩
   .rw[Jqr,Vv,if_pos rfl,List.take_zero]
   rw[Jqr]at h;omega
  have ba:c.J=J:=by subst hc;rfl
  refine ρ ?_;have cg:=Qgs be d6 (λl U h2=>hcap l U λx hx=>(co x).1 (h2 x hx)) n 0 (List.replicate n V0) (λ_=>0) (λ_=>0) (λ_ _=>0) (λ_ _=>0) [] w4 (by rw[e0];omega) ei ed List.Pairwise.nil (λx hx=>by cases hx) (λx hx=>by cases hx);rw[ba]at cg;refine cl cg ?_;rintro u w5 ⟨rfl,d1,z5,f5,h5,l5,H5,_,_,dq,f4⟩;have bb:w5.ownsRow w.heap.size 198 1 S.va ts.length ((List.range ts.length).map λj=>itp (S.G j)):=by
   have U:=H4.all;rw[List.length_map,List.length_range]at U;exact Jo U d1 (aa H4.all rfl rfl rfl)
  obtain⟨VA,vc,ep,_,_⟩:=Jy bb;rw[ep]at bb ⊢;have cx:Off c.N w5 (λu=>Rd u 1 VA ts.length ((List.range ts.length).map λj=>itp (S.G j))):=by
   refine(Jqk bb λg eg=>?_).imp λu h=>Rd.own h;exact aa H4.all rfl rfl rfl g (by rw[ep];exact eg)
  refine ρ ?_;refine Jl (fun (i:Nat)=>[(8,.pointer (some ⟨J,0,none⟩)),(104,.slice VA ts.length vc),(105,.int .i64 (ts.length:Int)),(106,.int .i64 (i:Int))])
   (λi w'=>i<=ts.length/\GrN c.N w5 w'/\Cfg c (λl u=>Y h0 l u/\h0<=u.heap.size) w' z5 (λi=>lv (c.vars i) 0) (λ_=>0) (λ_=>0) f5 h5 l5) (λi=>ts.length-i) 0 sB ⟨Nat.zero_le _,GrN.refl _ _,H5⟩ ?_
  rintro i w6 ⟨hi,bv,H6⟩;refine ρ ?_;refine ci (λh=>?_) (λh=>?_)
  .have li:i<ts.length:=by have:=oT h;omega
   clear h;have e9:=cx w6 bv;refine ρ ?_;refine ix i e9 li ?_;refine ρ ?_;refine ld (e9.cell (show((List.range ts.length).map λj=>itp (S.G j))[i]?=some (.pointer (some ⟨S.G i,0,none⟩)) by simp[li,itp])) ?_;obtain⟨sj,bf⟩:=H6.jb;rw[ba]at bf;refine ρ ?_;refine drN (λ_=>False) 10 [(0,0),(0,1),(0,2),(0,3),(0,4),(1,5),(0,6),(0,7),(0,8),(2,9)] kr ?_;have aq:Ext w6 w6.drew:=(Ext.refl w6).drew;have er:=H6.ext d6 aq;have a4:=bf.ext aq;obtain⟨si,eh⟩:=er.its i (by rw[e4];exact li);have fd:c.F.G i=S.G i:=by subst hc;rfl
   rw[fd]at eh;refine ρn ?_;refine nld (Qf (a4.at (i:=2) rfl) (λe=>e)) ?_;refine ρn ?_;refine nop ?_;refine cl (Qfj eh) ?_;rintro u w7 ⟨rfl,rfl⟩;refine ρ ?_;refine Qg (GrN.refl _ _) ?_;refine ρn ?_;refine Xm ?_;refine sto (p:=⟨J,2,none⟩) (a4.cell 2) (a4.frozen _) ?_;rw[<-ba]at a4;obtain⟨H8,du⟩:=er.steps be d6 a4 (IntKind.i64.wrap (sj+si));rw[ba]at H8 du;refine ω5 ?_;refine Uf ?_;refine ρn ?_;refine ρ ?_;exact Jg (i+1) sO ⟨om,(bv.trans (GrN.ext aq)).trans (du.mono λk _ hk=>be.sub k hk),H8⟩ om
  clear h;obtain⟨sj,bf⟩:=H6.jb;rw[ba]at bf;refine ρ ?_;refine ld (bf.at (i:=2) rfl) ?_;refine ρ ?_;refine Xx ⟨GrN.cut a5 (d1.trans bv) λk hk h=>?_,sj,h0,l5,rfl,H6.y.2,H6.y.1,dq,λx=>?_⟩
  .rcases(bw k).1 h with U|U|U
   .exact U
   .have:=a5.size;omega
   have:=(bc k U).1;omega
  rw[f4,<-co x];constructor
  .rintro(U|U)
   .cases U
   exact U.1
  intro U;exact .inr ⟨U,rfl⟩
 intro rest;refine gtwo 1 3 kr rfl rfl rfl ?_ ?_
 .refine ρ ?_;refine mkn EV n om (by unfold maxLen;omega) ?_;intro w2 A2 a1 bs _;refine Qk (Jnk a1 ?_);refine gpre (fuel':=3) [(1,3)] #[true,true,true,true,true,false,false,false] kr kr rfl ?_;refine Jkx ?_;refine mkn EIts n om (by unfold maxLen;omega) ?_;intro w3 A3 Z br _;refine Qk (Jkw Z ?_);refine dnil (Jkn ?_);refine rest (A2,A3) _ _ ⟨a1.trans Z,?_,?_⟩ sB
  .rw[Yj,List.length_replicate,<-Jvx];exact Jb bs Z
  rw[Jdf]at br;exact Jyp br a1.size
 refine ρ ?_;refine mkn EIts n om (by unfold maxLen;omega) ?_;intro w2 A2 a1 bs _;refine Qk (Jnk a1 ?_);refine gpre (fuel':=3) [(1,1)] #[true,true,true,true,true,false,false,false] kr kr rfl ?_;refine Jkx ?_;refine mkn EV n om (by unfold maxLen;omega) ?_;intro w3 A3 Z br _;refine Qk (Jkw Z ?_);refine dnil (Jkn ?_);refine rest (A3,A2) _ _ ⟨a1.trans Z,?_,?_⟩ sB
 .rw[Yj,List.length_replicate,<-Jvx];exact Jyp br a1.size
 rw[Jdf]at bs;exact Jb bs Z
end Go.Proofs.YtebiphhfkdbpfaaGreat
namespace Go.Wk
open Go.RowKit
variable {d n t t2 ty:Nat}
theorem fnl{P:Program}{al:AL}{w:World}{Q:Exit->Act->World->Prop}{ops:Array Oper}{rest:List Oper}{pos:String}{aft:Array Edge}{tt:TT}[h:Tab P tt]{x:Operand}{k:TK}{ps rs:Array TypeId}{va:Bool}{f:Fn}{first cap:Array Value}(kk:WL P n ops Q rest ((d,.bool false)::al) w)(ht:tk tt t=some k:=by rfl)(hk:k.desc=.func ps rs va:=by rfl)(hx:ev al x=some (.func f first cap):=by rfl)(hd:Nat.blt d n=true:=by rfl):
  WL P n ops Q (⟨some d,.binOp .eql t x (.const .nilFunc) t2,ty,pos,aft,none⟩::rest) al w :=
 wop hd (λa y=>by
  have u:=Yl h.ok ht hk rfl;have F:a.eval (.const .nilFunc)=.nilFunc:=rfl;have D:∀ d:Nat,(Op.equalIn (d+1) t (.func f first cap) .nilFunc).run P w=.ok false w:=λd=>by simp[Op.equalIn,run_underlying u]
  simp[execOp,y.ev hx,F,eqGuard,binOp,Op.equal,Op.maxDepth,D 9999]) kk
end Go.Wk
namespace Go.Proofs.YtebiphhfkdbpfaaGreat
open Go.RowKit Pl Go.Wk
attribute [local irreducible] WC WL QX WD WDB WP WN WG
variable {b ca n s:Nat}{Y:Nat->List Row->World->Prop}{yv:Value}
structure YZ(s:Nat)(yv:Value)(bx:Nat->Prop)(Y:Nat->List Row->World->Prop): Prop where
 keep:∀ base l w w',Y base l w->GrN (λk=>s<=k/\k<base) w w'->Y base l w'
 call:∃ fid first cap,yv=.func (.func fid) first cap/\∀ base l w w1 vr z,base<=w.heap.size->Y base l w->Ext w w1->RowX w1 (λk=>k<w.heap.size) vr z->l.length<65536->Ret Tryz.prog fid (first.toList++[vr]++cap.toList) w1 λr w'=>r=.bool true/\Y base (l++[z]) w'/\GrN (λk=>bx k∨base<=k) w1 w'
theorem Qhc{bx:Nat->Prop}(hY:YZ s yv bx Y)(hb:s<=b)(hbx:∀ k,bx k->k<s):
  YS (b+1) (.func (.func 67) #[] #[.pointer (some ⟨b,0,none⟩)]) bx (λbase l w=>(Y base l w/\Blk w b 103 [yv])/\b<base):=by
 obtain⟨a6,first,a7,a1,F⟩:=hY.call;subst a1;refine⟨λbase l w w' h O=>⟨⟨hY.keep _ _ _ _ h.1.1 (O.mono λk _ Z=>⟨om,Z.2⟩),Ja h.1.2 O (λZ=>om)⟩,h.2⟩,_,_,_,rfl,λbase l w vr z G h hr hl=>?_⟩;obtain⟨⟨hy,hB⟩,a4⟩:=h;have U:¬ (bx b∨base<=b):=by grind
 refine Jz Tryz.func67 Tryz.ntmps67 rfl kr rfl ?_;refine ρ ?_;refine drN (λk=>bx k∨base<=k) 8 [(0,0),(0,1),(1,2),(1,3),(0,4)] kr ?_;have y:Ext w w.drew:=(Ext.refl w).drew;have a5:=hB.ext y;have a2:=hY.keep _ _ _ _ hy (GrN.ext y);refine ρn ?_;refine nld (Qf (a5.at (i:=0) rfl) U) ?_;refine ρn ?_;refine nop ?_;refine cl (Jcm (hr.ext y) (λk=>k<w.drew.heap.size) (λk Z=>Z)) ?_;rintro u w1 ⟨hu,D⟩;refine ρ ?_;refine Qg (GrN.ext D) ?_;refine nop ?_;refine clv (F base l w.drew w1 u z G a2 D hu hl) ?_;rintro r w2 ⟨rfl,a3,J⟩;refine ρ ?_;refine Qg J ?_;refine ρn ?_;refine ρ ?_;have O:GrN (λk=>bx k∨base<=k) w w2:=(GrN.ext (y.trans D)).trans J;exact Jq ⟨rfl,⟨⟨a3,Ja hB O U⟩,a4⟩,O⟩
theorem Qhb{w:World}{ts:List TA}{Aa:Option Addr}{vars:Nat->List Nat}{rs:Nat->List Row}{bx':Nat->Prop}(hok:RunOk n ts vars rs)(hR:Rd w 3 Aa ts.length (atC ts))(hle:ts.length<=ca)(hat:∀ p∈ts,AtV w p.1 p.2)(hchk:Jxh n (ts.map (·.2)))(hbx:∀ k,bx' k->k<w.heap.size)(hY:YZ w.heap.size yv bx' Y)(hY0:∀ w',Ext w w'->Y w'.heap.size [] w')(hcap:∀ l:List Row,Lt [] l->(∀ x∈l,Gy n ts.length vars rs x)->l.length<=65536):
  Ret Tryz.prog 36 [.int .i64 (n:Int),yv,.slice Aa ts.length ca] w λu w'=>GrN bx' w w'/\∃ st base l,u=.tuple #[.int .i64 st,.int .i64 0]/\w.heap.size<=base/\base<=w'.heap.size/\Y base l w'/\Lt [] l/\∀ x,x∈l↔Gy n ts.length vars rs x:=by
 have a4:=hok.m32;obtain⟨a2,first,a3,Z,_⟩:=hY.call;subst Z;refine Jz Tryz.func36 Tryz.ntmps36 rfl kr rfl ?_;refine ρ ?_;refine bx ?_;intro w1 b D hb hB;refine ρ ?_;refine cl (Jnh (n:=(n:Int)) (ats:=ts.map (·.2)) ⟨ts,Aa,ca,rfl,rfl,hle,om,hR.ext D,λp hp=>(hat p hp).ext D⟩) ?_
 rintro u w2 ⟨J,e,rfl,he⟩;have e0:=he.2 hchk;subst e0;have G:=hB.ext J;refine ρ ?_;refine ld (G.at (i:=0) rfl) ?_;refine ρ ?_;refine fnl ?_;have y:=D.trans J;have a5:b+1<=w2.heap.size:=G.lt;refine ρ ?_;refine cl (Qkm (bx':=bx') (Y:=λbase l w=>(Y base l w/\Blk w b 103 [.func (.func a2) first a3])/\b<base) hok (hR.ext y) (λp hp=>(hat p hp).ext y) (λk O=>nM (hbx k O) y.size) ?_ (λw' F=>⟨⟨hY0 w' (y.trans F),G.ext F⟩,by have:=F.size;omega⟩) hcap) ?_
 .have U:=Qhc hY hb hbx;exact⟨λbase l u u' h hg=>U.keep base l u u' h (hg.mono λk _ O=>⟨om,O.2⟩),U.call⟩
 rintro u w3 ⟨a1,st,base,l,rfl,U,⟨⟨h2,_⟩,h3⟩,h4,h5⟩;refine ρ ?_;exact Xx ⟨GrN.cut y a1 λk _ O=>O,st,base,l,rfl,om,U,h2,h4,h5⟩
end Go.Proofs.YtebiphhfkdbpfaaGreat
namespace Go.Wk
open Go.RowKit
variable {e:Act}{parts:Array (Nat×Operand)}{pw:Array (Nat×Value)}{a b:Int}{k1 k2:IntKind}{vs:List Value}{i s t:Nat}{x y:Operand}{yt:TypeId}{v:Value}
section
variable {N:Nat->Prop} {P:Program} {n:Nat} {al:AL} {w:World} {Q:Exit->Act->World->Prop} {ops:Array Oper} {rest:List Oper} {drest:List (Nat×Oper)}
variable {d ty:Nat} {pos:String} {aft:Array Edge}
theorem Jgq{t:TypeId}(hx:ev al x=some (.int k1 a))(hy:ev al y=some (.int k2 b))(h0:0<=b)(he:Fr n al e)(dst:Option Nat)(w:World):
  (execOp e.eval ⟨dst,.binOp .shr t x y yt,ty,pos,aft,none⟩).run P w=.ok (.value (.int k1 (a.fdiv (2^(min b.toNat k1.bits))))) w:=by
 have u:¬ b<0:=om
 simp[execOp,he.ev hx,he.ev hy,eqGuard,binOp,Op.shift,u]
theorem Jgr{t:TypeId}(hx:ev al x=some (.int k1 a))(hy:ev al y=some (.int k2 b))(h0:0<=b)(he:Fr n al e)(dst:Option Nat)(w:World):
  (execOp e.eval ⟨dst,.binOp .shl t x y yt,ty,pos,aft,none⟩).run P w=.ok (.value (.int k1 (k1.wrap (a*2^(min b.toNat k1.bits))))) w:=by
 have u:¬ b<0:=om
 simp[execOp,he.ev hx,he.ev hy,eqGuard,binOp,Op.shift,u]
theorem Jgj(s v:Nat)(hv:v<=32): ((s:Int)).fdiv (2^(min ((v:Nat):Int).toNat 32))=((s / 2^v:Nat):Int):=by grind
theorem Qvs{v:Nat}(hv:v<32): 2^v<4294967296:=nM (Nat.pow_lt_pow_right (by decide:1<2) hv) (by decide)
theorem Qzs{v:Nat}(hv:v<32): IntKind.u32.wrap (1*2^(min ((v:Nat):Int).toNat 32))=((2^v:Nat):Int):=by
 have h:=Qvs hv;rw[Int.toNat_natCast,Nat.min_eq_left om,Int.one_mul];have:((2:Int)^v)=((2^v:Nat):Int):=by simp
 rw[this,IntKind.wrap_u32];grind
theorem sr32{t:TypeId}{v:Nat}(hv:v<=32)(kk:WL P n ops Q rest ((d,.int .u32 ((s / 2^v:Nat):Int))::al) w)(hx:ev al x=some (.int .u32 (s:Int)):=by rfl)(hy:ev al y=some (.int .i64 (v:Int)):=by rfl)(hd:Nat.blt d n=true:=by rfl):
  WL P n ops Q (⟨some d,.binOp .shr t x y yt,ty,pos,aft,none⟩::rest) al w:=by
 rw[<-Jgj s v hv]at kk;exact wop hd (λa u=>Jgq hx hy om u (some d) w) kk
end
section
variable {N:Nat->Prop} {P:Program} {n:Nat} {al:AL} {w:World} {Q:Exit->Act->World->Prop} {ops:Array Oper} {drest:List (Nat×Oper)}
variable {d ty:Nat} {pos:String} {aft:Array Edge}
theorem Jgx(hb:∀ w,(Instr.build t pw).run P w=.ok v w)(hx:evs al (parts.toList.map (·.2))=some vs)(hp:((parts.toList.map (·.1)).zip vs).toArray=pw){a:Act}(ha:Fr n al a)(dst:Option Nat)(w:World):
  (execOp a.eval ⟨dst,.build t parts,ty,pos,aft,none⟩).run P w=.ok (.value v) w:=by
 subst hp;have y:=ha.evs hx;have u:(parts.map fun (i,x)=>(i,a.eval x))=((parts.toList.map (·.1)).zip vs).toArray:=by grind
 simp only[execOp,u,Sem.run_bind,hb w];rfl
theorem nbld(hb:∀ w,(Instr.build t pw).run P w=.ok v w)(kk:WN N P n ops Q drest ((d,v)::al) w)(hx:evs al (parts.toList.map (·.2))=some vs:=by rfl)(hp:((parts.toList.map (·.1)).zip vs).toArray=pw:=by rfl)(hd:Nat.blt d n=true:=by rfl): WN N P n ops Q ((0,⟨some d,.build t parts,ty,pos,aft,none⟩)::drest) al w :=
 ny_ (λw' _ a u=>Jgx hb hx hp u (some d) w') hd kk
theorem dbld(hb:∀ w,(Instr.build t pw).run P w=.ok v w)(kk:WD P n ops Q drest ((d,v)::al) w)(hx:evs al (parts.toList.map (·.2))=some vs:=by rfl)(hp:((parts.toList.map (·.1)).zip vs).toArray=pw:=by rfl)(hd:Nat.blt d n=true:=by rfl): WD P n ops Q ((0,⟨some d,.build t parts,ty,pos,aft,none⟩)::drest) al w :=
 dy (λw' _ a u=>Jgx hb hx hp u (some d) w') hd kk
end
theorem Jxj{v:Nat}(hs:s<4294967296): (bits .and .u32 ((s / 2^v:Nat):Int) 1 == 1)=s.testBit v:=by
 have u:s / 2^v<4294967296:=nN (Nat.div_le_self _ _) hs;have y:=u32_and_nat (s / 2^v) 1 u om;grind
def Jxk(s t:Nat): Nat:=s &&& (4294967295-t)
theorem Jtq(hs:s<4294967296)(ht:t<4294967296): (Jxk s t).testBit i=(s.testBit i && !t.testBit i):=by
 unfold Jxk;have e:4294967295-t=2^32-(t+1):=om
 rw[Nat.testBit_and,e,Nat.testBit_two_pow_sub_succ om];by_cases hi:i<32
 .grind
 have:s.testBit i=false:=Nat.testBit_lt_two_pow (nM hs (Nat.pow_le_pow_right (n:=2) (by decide) (show 32<=i by omega)));rw[this];rfl
theorem Jcw(hs:s<4294967296)(ht:t<4294967296): bits .andNot .u32 (s:Int) (t:Int)=((Jxk s t:Nat):Int):=u32_andNot_nat s t hs ht
theorem Qnl(hs:s<4294967296)(ht:t<4294967296): bits .or .u32 (s:Int) (t:Int)=((s ||| t:Nat):Int):=u32_or_nat s t hs ht
theorem Qbb(hs:s<4294967296)(ht:t<4294967296): s ||| t<4294967296:=Nat.or_lt_two_pow (n:=32) hs ht
end Go.Wk
