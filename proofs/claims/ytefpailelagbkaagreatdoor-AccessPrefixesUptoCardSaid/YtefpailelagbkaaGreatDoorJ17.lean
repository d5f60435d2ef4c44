/- Part 17 of the proof: It2, It3, It4, Lf. -/
import Derived.Test.YtefpailelagbkaaGreatDoorJ16
set_option linter.unusedVariables false
set_option maxRecDepth 100000
set_option maxHeartbeats 40000000
namespace Go.Proofs.YtefpailelagbkaaGreatDoor
open Go.RowKit Pl Go.Wk
attribute [local irreducible] WC WL QX WD WDB WP WN
theorem Qpl: Jxc Tryz.prog 71=some V0.val:=by kernel_rfl
section
variable {w:World} {g:Nat} {A:Option Addr} {d L p e:Nat} {f h:Nat->Nat} {st:Int} {rs:List Row}
theorem Jmt{q:Nat}{qi:Int}(hB:ItB w g A d L p e f h st)(hT:TriA w A d rs)(hL:0<L)(hLd:L<=d)(hd:d<=32)(hq:q<(lvl rs (L-1)).length)(hqi:qi=(q:Int)): Ret Tryz.prog 217 [.pointer (some ⟨g,0,none⟩),.int .i64 qi] w λu w'=>u=((lvl rs (L-1)).getD q V0).val/\Ext w w':=by
 subst hqi;obtain ⟨vv,fv,fs,hR,hv,hf,hc⟩:=hT;have lL:L-1<d:=by omega
 obtain ⟨B,c,hvB,hRB⟩:=hv (L-1) lL;refine Jjb Tryz.func217 Tryz.ntmps217 rfl (by kernel_rfl) rfl ?_;refine ρ ?_;refine alc (cs:=V0.cells) Qpl ?_;intro w1 b hx1 hb hBb;refine ρ ?_;refine drN (λ_=>False) 4 [(0,0),(0,1),(0,2),(0,3),(0,4),(0,5),(0,6),(0,7),(0,8),(0,9),(0,10),(0,11),(0,12),(0,13),(0,14),(0,15),(2,16)] (by kernel_rfl) ?_;have hxd:=hx1.drew;have hB1:=hB.ext hxd;have hR1:=hR.ext hxd;have hRB1:RdR _ B (lvl rs (L-1)):=Rd.ext hRB hxd;have hc0:w1.drew.cell? ((adr A ((L-1)*2)).add 0)=some (vv (L-1)):=by rw [add_zero];exact hR1.cell (Jkb d vv fv lL).1
 refine ρn ?_;refine nld (Jjg (hB1.at (i:=0) rfl) (λe=>e)) ?_;refine ρn ?_;refine nld (Jjg (hB1.at (i:=1) rfl) (λe=>e)) ?_;refine ρn ?_;refine Qyn 2 (L-1) hR1 lL ?_;refine ρn ?_;refine nld (Jjg hc0 (λe=>e)) ?_;rw [hvB];refine ρn ?_;refine Qyn 3 q hRB1 hq ?_;refine ρn ?_;refine Jfd (cs:=((lvl rs (L-1)).getD q V0).cells) (λw' hg j u hu=>RdR.cell (Rd.ext hRB1 hg.toExt) hq hu) ?_;refine ρn ?_;refine Jkj ?_;refine stb (cs':=((lvl rs (L-1)).getD q V0).cells) (hBb.ext (Ext.refl w1).drew) ?_ (V.one _);intro w2 hB2 hg2 hx2;refine ρ ?_;exact Qwd hB2 ⟨rfl,hx2 w hxd hb⟩
theorem Jgf{q:Nat}{qi:Int}{v:V}(hB:ItB w g A d L p e f h st)(hT:Off (λk=>k=g) w (λu=>TriA u A d rs))(hL:0<L)(hLd:L<=d)(hd:d<=32)(hq:q<(lvl rs (L-1)).length)(hqi:qi=(q:Int)): Ret Tryz.prog 222 [.pointer (some ⟨g,0,none⟩),.int .i64 qi,v.val] w λu w'=>u=.bool (decide (cmpV ((lvl rs (L-1)).getD q V0) v<0))/\GrN (λk=>k=g) w w'/\∃ st',ItB w' g A d L p e f h st':=by
 refine Jjb Tryz.func222 Tryz.ntmps222 rfl (by kernel_rfl) rfl ?_;refine ρ ?_;refine bx (cs:=v.cells) ?_;intro w1 b hx1 hb hBb;have hB1:=hB.ext hx1;refine ρ ?_;refine ld (hB1.at (i:=68) (Qlw _ _ _ _ _ _ _ _)) ?_;refine ρ ?_;have h68:w1.cell? ⟨g,0+68,none⟩=some (.int .i64 st):=by rw [hB1.cell];exact Qlw _ _ _ _ _ _ _ _
 refine sto h68 (hB1.frozen _) ?_;obtain ⟨st',hst'⟩:∃ st':Int,st'=IntKind.i64.wrap (st+1):=⟨_,rfl⟩;rw [<-hst'];have hB2:=hB1.set (0+68) (.int .i64 st');rw [show (0:Nat)+68=68 from rfl,Qdp]at hB2;have hg2:GrN (λk=>k=g) w (w1.setCell ⟨g,68,none⟩ (.int .i64 st')):=(GrN.ext hx1).trans (GrN.set _ rfl);have hBb2:Blk (w1.setCell ⟨g,68,none⟩ (.int .i64 st')) b 71 v.cells:=hBb.far (by simp only;have:=hB.lt;omega) _;refine ρ ?_;generalize hw2:w1.setCell ⟨g,68,none⟩ (.int .i64 st')=w2 at *
 refine dr [(0,0),(0,1),(0,3),(1,2),(1,4),(0,5),(0,6)] (by kernel_rfl) ?_;have hxd:Ext w2 w2.drew:=(Ext.refl w2).drew;refine ρd ?_;refine Jwv (cs:=v.cells) (λj u hu=>(hBb2.ext hxd).at hu) ?_;refine ρd ?_;refine dcl (Jmt (hB2.ext hxd) (hT _ (hg2.trans (GrN.ext hxd))) hL hLd hd hq hqi) ?_;rintro u w3 ⟨rfl,hx3⟩;refine ⟨hx3,?_⟩;refine ρd ?_;refine dcl (Jxk _ v _) ?_;rintro u w4 ⟨rfl,hx4⟩;refine ⟨hx4,?_⟩;refine ρd ?_;refine ρ ?_;have hx24:=(hxd.trans hx3).trans hx4;exact Jjq ⟨rfl,hg2.trans (GrN.ext hx24),st',hB2.ext hx24⟩
theorem Jmv(hB:ItB w g A d L p e f h st)(hT:TriA w A d rs)(hLd:L<=d)(hd:d<=32)(he:0<L->e<=(lvl rs (L-1)).length): Ret Tryz.prog 207 [.pointer (some ⟨g,0,none⟩)] w λu w'=>Ext w w'/\∃ v:V,u=.tuple #[v.val,.bool (decide (0<L/\p<e))]/\(0<L/\p<e->v=(lvl rs (L-1)).getD p V0):=by
 refine Jjb Tryz.func207 Tryz.ntmps207 rfl (by kernel_rfl) rfl ?_;refine ρ ?_;refine alc (cs:=V0.cells) Qpl ?_;intro w1 b hx1 hb hBb;refine ρ ?_;refine cl (Jkh (hB.ext hx1)) ?_;rintro u w2 ⟨rfl,hx2⟩;have hxw2:=hx1.trans hx2;refine ρ ?_;refine ci (λh1=>?_) (λh1=>?_)
 ·have hno:¬ (0<L/\p<e):=of_decide_eq_false (by rw [Bool.not_eq_true']at h1;exact h1);refine ρ ?_;refine bld (v:=V0.val) (by kernel_rfl) ?_;refine ρ ?_;refine stb (cs':=V0.cells) (hBb.ext hx2) ?_ (V.one _);intro w3 hB3 hg3 hx3;refine ρ ?_;refine Jyf hB3 ⟨hx3 w hxw2 hb,V0,?_,λh'=>absurd h' hno⟩;rw [decide_eq_false hno];rfl
 ·have hyes:0<L/\p<e:=of_decide_eq_true (by rw [Bool.not_eq_false']at h1;exact h1);have hB2:=hB.ext hxw2;refine ρ ?_;refine ld (hB2.at (i:=2) rfl) ?_;refine ρ ?_;refine cl (Jmt (q:=p) (qi:=(p:Int)) hB2 (hT.ext hxw2) hyes.1 hLd hd (by have:=he hyes.1;omega) rfl) ?_;rintro u w3 ⟨rfl,hx3⟩;refine ρ ?_;refine stb (cs':=((lvl rs (L-1)).getD p V0).cells) ((hBb.ext hx2).ext hx3) ?_ (V.one _);intro w4 hB4 hg4 hx4;refine ρ ?_;refine Jyf hB4 ⟨hx4 w (hxw2.trans hx3) hb,_,?_,λ_=>rfl⟩;rw [decide_eq_true hyes];rfl
theorem Qdn(hB:ItB w g A d L p e f h st)(hL:0<L)(hp:p<e)(hpe:e<=1000000): Ret Tryz.prog 206 [.pointer (some ⟨g,0,none⟩)] w λu w'=>u=.bool (decide (p+1<e))/\GrN (λk=>k=g) w w'/\ItB w' g A d L (p+1) e f h st:=by
 refine Jjb Tryz.func206 Tryz.ntmps206 rfl (by kernel_rfl) rfl ?_;refine ρ ?_;refine cl (Jkh hB) ?_;rintro u w1 ⟨rfl,hx1⟩;refine ρ ?_;refine cf ?_ ?_
 ·simp [hL,hp]
 have hB1:=hB.ext hx1;refine ρ ?_;refine ld (hB1.at (i:=2) rfl) ?_;refine ρ ?_;refine sto (p:=⟨g,2,none⟩) (hB1.cell 2) (hB1.frozen _) ?_;have hB2:ItB (w1.setCell ⟨g,2,none⟩ (.int .i64 ((p:Int)+1))) g A d L (p+1) e f h st:=by
  have:=hB1.set 2 (.int .i64 ((p:Int)+1));exact this
 have hg2:GrN (λk=>k=g) w (w1.setCell ⟨g,2,none⟩ (.int .i64 ((p:Int)+1))):=(GrN.ext hx1).trans (GrN.set _ rfl);refine ρ ?_;refine cl (Jkh hB2) ?_;rintro u w3 ⟨rfl,hx3⟩;refine ρ ?_;refine Jjq ⟨?_,hg2.trans (GrN.ext hx3),hB2.ext hx3⟩;congr 1
 exact decide_eq_decide.2 ⟨λh'=>h'.2,λh'=>⟨hL,h'⟩⟩
theorem Xwc(hB:ItB w g A d L p e f h st){k:Nat}(hk:k<32){j:Nat}{u:Value}(hu:[Value.int .i64 (f k:Int),.int .i64 (h k:Int)][j]?=some u): w.cell? (((⟨g,0+4,none⟩:Addr).add (k*2)).add j)=some u:=by
 have hab:=Xbk A d L p e f h st hk;rw [Jzn,Jzn,hB.cell];match j,hu with
 | 0,hu=>rw [<-hu];exact hab.1
 | 1,hu=>rw [<-hu];exact hab.2
 | j+2,hu=>simp at hu
theorem Qsb(hB:ItB w g A d (L+1) p e f h st)(hL:L<32): Ret Tryz.prog 208 [.pointer (some ⟨g,0,none⟩)] w λu w'=>GrN (λk=>k=g) w w'/\ItB w' g A d L (f L) (h L) f h st:=by
 refine Jjb Tryz.func208 Tryz.ntmps208 rfl (by kernel_rfl) rfl ?_;refine ρ ?_;refine pnl ?_;refine ρ ?_;refine ld (hB.at (i:=1) rfl) ?_;refine ρ ?_;refine ld (hB.at (i:=1) rfl) ?_;refine ρ ?_;refine sto (p:=⟨g,1,none⟩) (hB.cell 1) (hB.frozen _) ?_;have eL:((L+1:Nat):Int)-1=(L:Int):=by omega
 rw [eL];have hB2:ItB (w.setCell ⟨g,1,none⟩ (.int .i64 (L:Int))) g A d L p e f h st:=hB.set 1 (.int .i64 (L:Int));have hg2:GrN (λk=>k=g) w (w.setCell ⟨g,1,none⟩ (.int .i64 (L:Int))):=GrN.set _ rfl;refine ρ ?_;generalize w.setCell ⟨g,1,none⟩ (.int .i64 (L:Int))=w2 at *
 refine drN (λ_=>False) 4 [(0,0),(0,1),(0,2),(0,3),(0,4),(0,5),(0,6),(0,7),(0,8),(0,9),(0,10),(0,11),(2,12)] (by kernel_rfl) ?_;have hxd:Ext w2 w2.drew:=(Ext.refl w2).drew;have hB3:=hB2.ext hxd;refine ρn ?_;refine nld (Jjg (hB3.at (i:=1) rfl) (λe=>e)) ?_;refine ρn ?_;refine nixa L hL ?_;refine ρn ?_;refine Jfd (cs:=[.int .i64 (f L:Int),.int .i64 (h L:Int)]) (λw' hg j u hu=>Xwc (Jqb hB3 hg (λe=>e)) hL hu) ?_;refine ρn ?_;refine Jkj ?_;refine stB (o:=2) (us:=[.int .i64 (f L:Int),.int .i64 (h L:Int)]) hB3 (by rw [Jtf];simp) (λu hu=>by simp at hu;rcases hu with rfl|rfl<;>rfl) ?_;intro w4 hB4 hg4;refine ρ ?_;exact Jjq ⟨hg2.trans ((GrN.ext hxd).trans (GrN.by hg4 λk e=>by injection e with e;exact e.symm)),hB4⟩
theorem Qkx(hB:ItB w g A d L p e f h st): Ret Tryz.prog 195 [.pointer (some ⟨g,0,none⟩)] w λu w'=>u=.int .i64 st/\w'=w:=by
 refine Jjb Tryz.func195 Tryz.ntmps195 rfl (by kernel_rfl) rfl ?_;refine ρ ?_;refine pnl ?_;refine ρ ?_;refine ld (hB.at (i:=68) (Qlw _ _ _ _ _ _ _ _)) ?_;refine ρ ?_;exact Jjq ⟨rfl,rfl⟩
theorem Xkm(A:Option Addr)(d:Nat)(w:World): (Instr.build 295 #[(0,.agg #[.slice A d d])]).run Tryz.prog w=.ok (.agg (itC A d 0 0 0 (λ_=>0) (λ_=>0) 0).toArray) w:=by kernel_rfl
theorem Qzt(w:World): Ret Tryz.prog 193 [.agg #[.slice A d d]] w λu w'=>Ext w w'/\∃ g,u=.pointer (some ⟨g,0,none⟩)/\w.heap.size<=g/\ItB w' g A d 0 0 0 (λ_=>0) (λ_=>0) 0:=by
 refine Jjb Tryz.func193 Tryz.ntmps193 rfl (by kernel_rfl) rfl ?_;refine ρ ?_;refine bx (cs:=[.slice A d d]) ?_;intro w1 b hx1 hb hB;refine ρ ?_;refine lds (cs:=[.slice A d d]) (λj u hu=>hB.at hu) ?_;refine ρ ?_;refine bld (Xkm A d _) ?_;refine ρ ?_;refine bx (cs:=itC A d 0 0 0 (λ_=>0) (λ_=>0) 0) ?_;intro w2 b2 hx2 hb2 hB2;refine ρ ?_;exact Jjq ⟨hx1.trans hx2,b2,rfl,Nat.le_trans hx1.size hb2,hB2⟩
end
open Go.RowKit Pl Go.Wk
section
variable {w:World} {g:Nat} {A:Option Addr} {d L p e:Nat} {f h:Nat->Nat} {st:Int} {rs:List Row}
theorem Qdl{v:V}(hB:ItB w g A d L p e f h st)(hT:Off (λk=>k=g) w (λu=>TriA u A d rs))(hL:0<L)(hLd:L<=d)(hd:d<=32)(hpe:p<e)(he:e<=(lvl rs (L-1)).length)(hm:e<=1000000)(hs:∀ i j,p<=i->i<j->j<e->cmpV ((lvl rs (L-1)).getD i V0) ((lvl rs (L-1)).getD j V0)<0):
  Ret Tryz.prog 216 [.pointer (some ⟨g,0,none⟩),v.val] w λu w'=>GrN (λk=>k=g) w w'/\∃ q st',u=.bool (decide (q<e))/\p<=q/\q<=e/\(∀ i,p<=i->i<q->cmpV ((lvl rs (L-1)).getD i V0) v<0)/\(q<e->¬ cmpV ((lvl rs (L-1)).getD q V0) v<0)/\ItB w' g A d L q e f h st':=by
 obtain ⟨val,hval⟩:∃ val:Nat->V,val=λi=>(lvl rs (L-1)).getD i V0:=⟨_,rfl⟩;have hvi:∀ i,(lvl rs (L-1)).getD i V0=val i:=λi=>by rw [hval]
 simp only [hvi]at hs ⊢;have below:∀ {low i:Nat},p<=i->i<=low->low<e->cmpV (val low) v<0->cmpV (val i) v<0:=fun {low i} h1 h2 h3 h4=>by
  by_cases e':i=low
  ·subst e';exact h4
  ·exact cmp_V.lt_trans (hs i low h1 (by omega) h3) h4
 refine Jjb Tryz.func216 Tryz.ntmps216 rfl (by kernel_rfl) rfl ?_;refine ρ ?_;refine bx (cs:=v.cells) ?_;intro w1 b hx1 hb hBb;have hgb:b≠g:=by have:=hB.lt;omega
 have hnb:¬ (λk=>k=g) b:=hgb;refine ρ ?_;refine cl (Jkh (hB.ext hx1)) ?_;rintro u w2 ⟨rfl,hx2⟩;have hxw2:=hx1.trans hx2;have hB2:=hB.ext hxw2;have hg2:GrN (λk=>k=g) w w2:=GrN.ext hxw2;refine ρ ?_;refine cf ?_ ?_
 ·simp [hL,hpe]
 refine ρ ?_;refine drN (λ_=>False) 10 [(0,0),(0,1),(0,2),(0,3),(0,4),(0,5),(0,6),(2,7),(2,8)] (by kernel_rfl) ?_;have hxd:Ext w2 w2.drew:=(Ext.refl w2).drew;have hB3:=hB2.ext hxd;have hBb3:=(hBb.ext hx2).ext hxd;have hg3:=hg2.trans (GrN.ext hxd);refine ρn ?_;refine nld (Jjg (hB3.at (i:=2) rfl) (λe=>e)) ?_;refine ρn ?_;refine Jfd (cs:=v.cells) (λw' hg j u hu=>(Jqb hBb3 hg (λe=>e)).at hu) ?_;refine ρn ?_;refine Jkj ?_;refine cl (Jgf (q:=p) (qi:=(p:Int)) hB3 (hT.gr hg3) hL hLd hd (by omega) rfl) ?_;rintro u w4 ⟨rfl,hg4,st4,hB4⟩;have hBb4:=Jqb hBb3 hg4 hnb;have hgw4:=hg3.trans hg4;refine ρ ?_;refine Jch ?_;refine Jkj ?_;refine ρ ?_;rw [hvi];refine ci (λh1=>?_) (λh1=>?_)
 ·have h2:¬ cmpV (val p) v<0:=by simpa using h1
  refine ρ ?_;refine Jjq ⟨hgw4,p,st4,by rw [decide_eq_true hpe],Nat.le_refl _,by omega,λi h1 h2=>by omega,λ_=>h2,hB4⟩
 have h2:cmpV (val p) v<0:=by simpa using h1
 clear h1;refine ρ ?_;refine ld (hB4.at (i:=2) rfl) ?_;refine ρ ?_;refine Jzk (fun (low step:Nat) (st:Int)=>[(0,.pointer (some ⟨g,0,none⟩)),(3,.pointer (some ⟨b,0,none⟩)),(5,.int .i64 (low:Int)),(6,.int .i64 (step:Int))])
  (λlow step st w'=>GrN (λk=>k=g) w w'/\ItB w' g A d L p e f h st/\Blk w' b 71 v.cells/\p<=low/\low<e/\cmpV (val low) v<0/\1<=step/\step<=2000000) (λlow _ _=>e-low) p 1 st4 sB
  ⟨hgw4,hB4,hBb4,Nat.le_refl _,hpe,h2,Nat.le_refl _,by omega⟩ ?_
 clear hB4 hBb4 hgw4 hg4 hB3 hBb3 hg3;rintro low step st5 w5 ⟨hg5,hB5,hBb5,hl1,hl2,hl3,hs1,hs2⟩;refine ρ ?_;refine ld (hB5.at (i:=3) rfl) ?_;refine ρ ?_;refine Qgc (fun (t:Bool) (st:Int)=>[(0,.pointer (some ⟨g,0,none⟩)),(3,.pointer (some ⟨b,0,none⟩)),(5,.int .i64 (low:Int)),(6,.int .i64 (step:Int)),(42,.bool t)])
  (λt st w'=>GrN (λk=>k=g) w w'/\ItB w' g A d L p e f h st/\Blk w' b 71 v.cells/\(t=true->low+step<e/\cmpV (val (low+step)) v<0)/\(t=false->e<=low+step∨¬ cmpV (val (low+step)) v<0)) ?_ ?_
 ·refine ki 35 (λh1=>?_) (λh1=>?_)
  ·have h3:low+step<e:=by have:=of_decide_eq_true h1;omega
   refine ρ ?_;refine lds (cs:=v.cells) (λj u hu=>hBb5.at hu) ?_;refine ρ ?_;refine cl (Jgf (q:=low+step) (qi:=(low:Int)+(step:Int)) hB5 (hT.gr hg5) hL hLd hd (by omega) (by omega)) ?_;rintro u w6 ⟨rfl,hg6,st6,hB6⟩;refine ρ ?_;rw [hvi];refine Jkd _ st6 sB ⟨hg5.trans hg6,hB6,Jqb hBb5 hg6 hnb,λh'=>⟨h3,of_decide_eq_true h'⟩,λh'=>.inr (of_decide_eq_false h')⟩
  ·refine ρ ?_;exact Jkd false st5 sB ⟨hg5,hB5,hBb5,λh'=>(by cases h'),λ_=>.inl (by have:=of_decide_eq_false h1;omega)⟩
 clear hg5 hB5 hBb5;rintro t st6 w6 ⟨hg6,hB6,hBb6,ht1,ht2⟩;refine ci (λh1=>?_) (λh1=>?_)
 ·obtain ⟨h3,h4⟩:=ht1 h1;refine ρ ?_;exact Jqf (low+step) (step*2) st6 sO ⟨hg6,hB6,hBb6,by omega,by omega,h4,by omega,by omega⟩ (by omega)
 have h3:=ht2 h1;clear ht1 ht2 h1;refine ρ ?_;refine ld (hB6.at (i:=3) rfl) ?_;refine ρ ?_;have hhi:∃ hi:Nat,(if (e:Int)<(low:Int)+(step:Int) then (e:Int) else (low:Int)+(step:Int))=(hi:Int)/\low<hi/\hi<=e/\(hi<e->¬ cmpV (val hi) v<0):=by
  by_cases h4:e<low+step
  ·exact ⟨e,by rw [if_pos (by omega)],hl2,Nat.le_refl _,λh'=>by omega⟩
  ·refine ⟨low+step,by rw [if_neg (by omega)];omega,by omega,by omega,λh'=>?_⟩;rcases h3 with h5|h5
   ·omega
   ·exact h5
 obtain ⟨hi,ehi,hh1,hh2,hh3⟩:=hhi;rw [ehi];refine Jzk (fun (low hi:Nat) (st:Int)=>[(0,.pointer (some ⟨g,0,none⟩)),(3,.pointer (some ⟨b,0,none⟩)),(5,.int .i64 (low:Int)),(7,.int .i64 (hi:Int))])
  (λlow hi st w'=>GrN (λk=>k=g) w w'/\ItB w' g A d L p e f h st/\Blk w' b 71 v.cells/\p<=low/\cmpV (val low) v<0/\low<hi/\hi<=e/\(hi<e->¬ cmpV (val hi) v<0)) (λlow hi _=>hi-low) low hi st6 sB
  ⟨hg6,hB6,hBb6,hl1,hl3,hh1,hh2,hh3⟩ ?_
 clear hg6 hB6 hBb6 hl1 hl2 hl3 hs1 hs2 h3 hh1 hh2 hh3 ehi;rintro low2 hi2 st7 w7 ⟨hg7,hB7,hBb7,hl1,hl3,hh1,hh2,hh3⟩;refine ρ ?_;refine ci (λh1=>?_) (λh1=>?_)
 ·have hgap:low2+1<hi2:=by have:=of_decide_eq_true h1;omega
  refine ρ ?_;refine qn (hi2-low2) 2 ?_;refine ρ ?_;have hmid:low2<low2+(hi2-low2) / 2/\low2+(hi2-low2) / 2<hi2:=by omega
  generalize hmm:(hi2-low2) / 2=m at *
  refine lds (cs:=v.cells) (λj u hu=>hBb7.at hu) ?_;refine ρ ?_;refine cl (Jgf (q:=low2+m) (qi:=(low2:Int)+(m:Int)) hB7 (hT.gr hg7) hL hLd hd (by omega) (by omega)) ?_;rintro u w8 ⟨rfl,hg8,st8,hB8⟩;refine ρ ?_;rw [hvi];refine ci (λh2=>?_) (λh2=>?_)
  ·refine ρ ?_;exact Jqf (low2+m) hi2 st8 sO ⟨hg7.trans hg8,hB8,Jqb hBb7 hg8 hnb,by omega,of_decide_eq_true h2,by omega,hh2,hh3⟩ (by omega)
  ·refine ρ ?_;exact Jqf low2 (low2+m) st8 sO ⟨hg7.trans hg8,hB8,Jqb hBb7 hg8 hnb,hl1,hl3,by omega,by omega,λ_=>of_decide_eq_false h2⟩ (by omega)
 ·have ehi:hi2=low2+1:=by have:=of_decide_eq_false h1;omega
  refine ρ ?_;refine sto (p:=⟨g,2,none⟩) (hB7.cell 2) (hB7.frozen _) ?_;have hB8:ItB (w7.setCell ⟨g,2,none⟩ (.int .i64 (hi2:Int))) g A d L hi2 e f h st7:=hB7.set 2 (.int .i64 (hi2:Int));have hg8:GrN (λk=>k=g) w (w7.setCell ⟨g,2,none⟩ (.int .i64 (hi2:Int))):=hg7.trans (GrN.set _ rfl);refine ρ ?_;refine cl (Jkh hB8) ?_;rintro u w9 ⟨rfl,hx9⟩;refine ρ ?_;refine Jjq ⟨hg8.trans (GrN.ext hx9),hi2,st7,?_,by omega,hh2,λi h1 h2=>below h1 (show i<=low2 by omega) (by omega) hl3,hh3,hB8.ext hx9⟩;congr 1
  exact decide_eq_decide.2 ⟨λh'=>h'.2,λh'=>⟨hL,h'⟩⟩
end
open Go.RowKit Pl Go.Wk
theorem Xww: Jxc Tryz.prog 292=some (.agg #[.int .i64 0,.int .i64 0]):=by kernel_rfl
theorem Qbs(x y:Int)(w:World): (Instr.build 292 #[(0,.int .i64 x),(1,.int .i64 y)]).run Tryz.prog w=.ok (.agg #[.int .i64 x,.int .i64 y]) w:=by kernel_rfl
theorem Qrq{x y:Int}: ∀ u∈[Value.int .i64 x,.int .i64 y],u.oneCell'=true:=by intro u hu;simp at hu;rcases hu with rfl|rfl<;>rfl
section
variable {w:World} {g:Nat} {A:Option Addr} {d L p e:Nat} {f h:Nat->Nat} {st:Int} {rs:List Row}
theorem Jgn(w:World): Ret Tryz.prog 215 [.agg #[.slice A d d]] w λu w'=>u=.int .i64 (d:Int)/\Ext w w':=by
 refine Jjb Tryz.func215 Tryz.ntmps215 rfl (by kernel_rfl) rfl ?_;refine ρ ?_;refine bx (cs:=[.slice A d d]) ?_;intro w1 b hx1 hb hB;refine ρ ?_;refine ld (hB.at (i:=0) rfl) ?_;refine ρ ?_;exact Jjq ⟨rfl,hx1⟩
def Jvm(rs:List Row)(L p:Nat): Row:=if L=0 then [] else (pfx rs L).getD p []
theorem Qlv(hB:ItB w g A d L p e f h st){j:Nat}{u:Value}(hu:[Value.slice A d d][j]?=some u): w.cell? (((⟨g,0,none⟩:Addr).add 0).add j)=some u:=by
 match j,hu with
 | 0,hu=>rw [add_zero,add_zero,hB.cell];exact hu
 | j+1,hu=>simp at hu
theorem it_at(hB:ItB w g A d L p e f h st){j:Nat}{u:Value}(hu:[Value.int .i64 (p:Int),.int .i64 (e:Int)][j]?=some u): w.cell? (((⟨g,0,none⟩:Addr).add 2).add j)=some u:=by
 match j,hu with
 | 0,hu=>rw [add_zero,Jzn,hB.cell];exact hu
 | 1,hu=>rw [Jzn,Jzn,hB.cell];exact hu
 | j+2,hu=>simp at hu
theorem Qdm(hB:ItB w g A d L p e f h st)(hT:Off (λk=>k=g) w (λu=>TriA u A d rs))(hLd:L<d)(hd:d<=32)(hpe:0<L->p<e/\e<=(pfx rs L).length)(hrs:rs≠[])(hsrt:Srt [] rs)(hm:rs.length<=1000000)(hlen:∀ r∈rs,r.length=d):
  Ret Tryz.prog 204 [.pointer (some ⟨g,0,none⟩)] w λu w'=>u=.bool true/\GrN (λk=>k=g) w w'/\∃ lo hi,lo<hi/\hi<=(pfx rs (L+1)).length/\(∀ i,i<(pfx rs (L+1)).length->(((pfx rs (L+1)).getD i []).take L=Jvm rs L p↔lo<=i/\i<hi))/\ItB w' g A d (L+1) lo hi (upd f L p) (upd h L e) st:=by
 refine Jjb Tryz.func204 Tryz.ntmps204 rfl (by kernel_rfl) rfl ?_;refine ρ ?_;refine Xvc [(0,.pointer (some ⟨g,0,none⟩)),(30,.bool false)] (λw'=>Ext w w') ?_ ?_
 ·refine dr [(0,0),(0,1),(0,2),(0,3),(0,4),(0,5),(0,6),(0,7),(0,8),(0,9),(1,10),(0,11),(0,12),(0,13),(0,14),(0,15),(0,16),(0,17),(0,18),(0,19),(0,20),(0,21),(0,22),(1,23),(0,24),(0,25)] (by kernel_rfl) ?_;have hxd:Ext w w.drew:=(Ext.refl w).drew;have hBd:=hB.ext hxd;refine ρd ?_;refine dpnl ?_;refine ρd ?_;refine dld (hBd.at (i:=1) rfl) ?_;refine ρd ?_;have rest:∀ (al:AL) (w2:World),True:=λ_ _=>trivial;refine dki 13 (λh1=>?_) (λh1=>?_)
  ·have hL0:0<L:=by have:=of_decide_eq_true h1;omega
   refine ρd ?_;refine dcl (Jkh hBd) ?_;rintro u w2 ⟨rfl,hx2⟩;refine ⟨hx2,?_⟩;have hB2:=hBd.ext hx2;refine ρd ?_;refine dkf 19 ?_ ?_
   ·have:=hpe hL0;simp [hL0,this.1]
   refine ρd ?_;refine dld (hB2.at (i:=1) rfl) ?_;refine ρd ?_;refine Jwv (cs:=[.slice A d d]) (λj u hu=>Qlv hB2 hu) ?_;refine ρd ?_;refine dcl (Jgn _) ?_;rintro u w3 ⟨rfl,hx3⟩;refine ⟨hx3,?_⟩;refine ρd ?_;refine ρ ?_;refine Xjj (Sub.cons rfl (Sub.cons ?_ Sub.nil)) ((hxd.trans hx2).trans hx3);exact congrArg (λz=>some (Value.bool z)) (decide_eq_false (by omega))
  ·have hL0:L=0:=by have:=of_decide_eq_false h1;omega
   refine ρd ?_;refine dld (hBd.at (i:=1) rfl) ?_;refine ρd ?_;refine Jwv (cs:=[.slice A d d]) (λj u hu=>Qlv hBd hu) ?_;refine ρd ?_;refine dcl (Jgn _) ?_;rintro u w3 ⟨rfl,hx3⟩;refine ⟨hx3,?_⟩;refine ρd ?_;refine ρ ?_;refine Xjj (Sub.cons rfl (Sub.cons ?_ Sub.nil)) (hxd.trans hx3);exact congrArg (λz=>some (Value.bool z)) (decide_eq_false (by omega))
 intro w1 hx1;have hB1:=hB.ext hx1;obtain ⟨vv,fv,fs,hR,hv,hf,hc⟩:=(hT.ext hx1).here;have hp1:(pfx rs (L+1)).length<=1000000:=by
  have:=Jnj (rs.map (List.take (L+1)));rw [List.length_map]at this;exact Nat.le_trans this hm
 refine ρ ?_;refine lds (cs:=[.slice A d d]) (λj u hu=>Qlv hB1 hu) ?_;refine ρ ?_;refine cl (Jcq (l:=0) (vs:=lvl rs) hR (λl hl=>by obtain ⟨B,c,e,_⟩:=hv l hl;exact ⟨B,c,e⟩) rfl hd) ?_;rintro u w2 ⟨rfl,hx2⟩;rw [if_pos (show 0<d by omega),Jfz];refine ρ ?_;refine bld (Qbs _ _ _) ?_;refine ρ ?_;refine alc (cs:=[.int .i64 0,.int .i64 0]) Xww ?_;intro w3 b hx3 hb hBb;refine ρ ?_;refine stb hBb ?_ (Qrq (x:=0) (y:=((pfx rs (0+1)).length:Int)));intro w4 hBb4 hg4 hx4;have hx14:Ext w1 w4:=(hx2.trans (hx4 w2 hx3 hb));have hB4:=hB1.ext hx14;have hgb:b≠g:=by have:=hB1.lt;have:=hx2.size;omega
 refine ρ ?_;refine ld (hB4.at (i:=1) rfl) ?_;refine ρ ?_;refine Jlc (fun (lo hi:Nat)=>[(0,.pointer (some ⟨g,0,none⟩)),(3,.pointer (some ⟨b,0,none⟩))])
  (λlo hi w'=>Ext w1 w'/\Blk w' b 292 [.int .i64 (lo:Int),.int .i64 (hi:Int)]/\hi<=(pfx rs (L+1)).length/\∀ i,i<(pfx rs (L+1)).length->(((pfx rs (L+1)).getD i []).take L=Jvm rs L p↔lo<=i/\i<hi)) ?_ ?_
 ·refine ci (λh1=>?_) (λh1=>?_)
  ·have hL0:0<L:=by have:=of_decide_eq_true h1;omega
   obtain ⟨k,rfl⟩:∃ k,L=k+1:=⟨L-1,by omega⟩;have lk:k<d:=by omega
   obtain ⟨hpe1,hpe2⟩:=hpe hL0;obtain ⟨F,fc,hfF,hRF⟩:=hf k lk;have hch:=hc k (by omega);obtain ⟨c1,c2,c3⟩:=hch;have hpm:p<=1000000:=by
    have:=Jnj (rs.map (List.take (k+1)));rw [List.length_map]at this;have h4:(pfx rs (k+1)).length<=rs.length:=this;omega
   have lp:p<(fs k).length:=by omega
   have lp1:p+1<(fs k).length:=by omega
   refine ρ ?_;refine drN (λ_=>False) 10 [(0,0),(0,1),(0,2),(0,3),(0,4),(0,5),(0,6),(0,7),(0,8),(0,9),(0,10),(0,11),(0,12),(0,13)] (by kernel_rfl) ?_;have hx1d:=hx14.drew;have hBd:=hB1.ext hx1d;have hRd:=hR.ext hx1d;have hcf:w4.drew.cell? ((adr A (k*2)).add 1)=some (fv k):=by rw [Jqw];exact hRd.cell (Jkb d vv fv lk).2
   refine ρn ?_;refine nld (Jjg (hBd.at (i:=0) rfl) (λe=>e)) ?_;refine ρn ?_;refine nld (Jjg (hBd.at (i:=1) rfl) (λe=>e)) ?_;refine ρn ?_;refine Qyn 2 k hRd lk ?_;refine ρn ?_;refine nld (Jjg hcf (λe=>e)) ?_;rw [hfF];refine ρn ?_;refine ρ ?_;refine drN (λ_=>False) 10 [(0,0),(0,1),(0,2),(0,3),(0,4),(0,5),(0,6),(0,7),(0,8),(0,9),(0,10),(0,11),(0,12),(0,13),(0,14),(0,15),(0,16),(1,17),(2,18)] (by kernel_rfl) ?_;have hx1e:=hx1d.drew;have hBe:=hB1.ext hx1e;have hRe:=hRF.ext hx1e;have hBbe:=(hBb4.ext (Ext.refl w4).drew).ext (Ext.refl w4.drew).drew;refine ρn ?_;refine nld (Jjg (hBe.at (i:=2) rfl) (λe=>e)) ?_;refine ρn ?_;refine nix p hRe lp ?_;refine ρn ?_;refine nld (Jjg (hRe.cell (Jxw lp)) (λe=>e)) ?_;refine ρn ?_;refine nld (Jjg (hBe.at (i:=2) rfl) (λe=>e)) ?_;refine ρn ?_;refine nix (p+1) hRe lp1 ?_;refine ρn ?_;refine nld (Jjg (hRe.cell (Jxw lp1)) (λe=>e)) ?_
   refine ρn ?_;refine nop ?_;refine bld (Qbs _ _ _) ?_;refine ρ ?_;refine Jqm (GrN.refl _ _) ?_;refine ρn ?_;refine Jkj ?_;refine stb hBbe ?_ (Qrq (x:=(((fs k).getD p 0:Nat):Int)) (y:=(((fs k).getD (p+1) 0:Nat):Int)));intro w5 hBb5 hg5 hx5;refine ρ ?_;refine Jkd ((fs k).getD p 0) ((fs k).getD (p+1) 0) sB ⟨hx5 w1 hx1e (Nat.le_trans hx2.size hb),hBb5,c2 _ lp1,λi hi=>?_⟩;rw [c3 p i lp1 hi |>.symm,Jvm,if_neg (by omega)]
  ·have hL0:L=0:=by have:=of_decide_eq_false h1;omega
   subst hL0;refine ρ ?_;refine Jkd 0 (pfx rs (0+1)).length sB ⟨hx14,hBb4,Nat.le_refl _,λi hi=>?_⟩;rw [Jvm,if_pos rfl,List.take_zero];exact ⟨λ_=>⟨Nat.zero_le _,hi⟩,λ_=>rfl⟩
 clear hg4 hx4 hB4 hx14 hBb4;rintro lo hi w5 ⟨hx15,hBb5,hhi,hch⟩;have hlohi:lo<hi:=by
  have hex:∃ i,i<(pfx rs (L+1)).length/\((pfx rs (L+1)).getD i []).take L=Jvm rs L p:=by
   have hr:∃ r∈rs,r.take L=Jvm rs L p:=by
    by_cases hL0:L=0
    ·subst hL0;obtain ⟨r,hr⟩:=List.exists_mem_of_ne_nil rs hrs;exact ⟨r,hr,by rw [Jvm,if_pos rfl,List.take_zero]⟩
    ·have:=hpe (by omega);rw [Jvm,if_neg hL0];exact (Jft hsrt).1 (getD_mem' [] _ (by omega))
   obtain ⟨r,hr,er⟩:=hr;obtain ⟨i,hi,ei⟩:=List.getElem_of_mem ((Jft hsrt (l:=L+1)).2 ⟨r,hr,rfl⟩);refine ⟨i,hi,?_⟩;rw [Jjh [] _ hi,ei,List.take_take,Nat.min_eq_left (by omega),er]
  obtain ⟨i,hi,ei⟩:=hex;have:=(hch i hi).1 ei;omega
 have hB5:=hB1.ext hx15;refine ρ ?_;refine ld (hBb5.at (i:=0) rfl) ?_;refine ρ ?_;refine ld (hBb5.at (i:=1) rfl) ?_;refine ρ ?_;refine cf ?_ ?_
 ·exact Qfl (by omega)
 refine ρ ?_;refine drN (λ_=>False) 10 [(0,0),(0,1),(0,2),(0,3),(0,4),(0,5),(0,6),(0,7),(0,8),(0,9),(0,10),(0,11),(2,12)] (by kernel_rfl) ?_;have hxd:Ext w5 w5.drew:=(Ext.refl w5).drew;have hB6:=hB5.ext hxd;have hBb6:=hBb5.ext hxd;refine ρn ?_;refine nld (Jjg (hB6.at (i:=1) rfl) (λe=>e)) ?_;refine ρn ?_;refine Jfd (cs:=[.int .i64 (p:Int),.int .i64 (e:Int)]) (λw' hg j u hu=>it_at (Jqb hB6 hg (λe=>e)) hu) ?_;refine ρn ?_;refine nixa L (show L<32 by omega) ?_;refine ρn ?_;refine Jkj ?_;have hseg:=seg2 (cs:=itC A d L p e f h st) (o:=4+L*2) (u:=.int .i64 (p:Int)) (v:=.int .i64 (e:Int)) (by rw [Jtf];omega);refine stB (o:=4+L*2) (us:=[.int .i64 (p:Int),.int .i64 (e:Int)]) hB6 (by rw [Jtf];simp only [List.length_cons,List.length_nil];omega) Qrq ?_ (hp:=(Jzn g (0+4) (L*2)).trans (by rw [Nat.zero_add]));intro w7 hB7 hg7;have hB7':ItB w7 g A d L p e (upd f L p) (upd h L e) st:=by
  have e1:(itC A d L p e f h st).take (4+L*2)++[Value.int .i64 (p:Int),.int .i64 (e:Int)]++(itC A d L p e f h st).drop (4+L*2+[Value.int .i64 (p:Int),.int .i64 (e:Int)].length)=itC A d L p e (upd f L p) (upd h L e) st:=by
   rw [<-Qdq A d L p e f h st (show L<32 by omega) p e];exact hseg
  rw [e1]at hB7;exact hB7
 have hBb7:=hBb6.grown hg7 (λe=>hgb (by injection e));have hgw7:GrN (λk=>k=g) w w7:=(GrN.ext ((hx1.trans hx15).trans hxd)).trans (GrN.by hg7 λk e=>by injection e with e;exact e.symm);refine ρ ?_;refine lds (cs:=[.int .i64 (lo:Int),.int .i64 (hi:Int)]) (λj u hu=>hBb7.at hu) ?_;refine ρ ?_;refine stB (o:=2) (us:=[.int .i64 (lo:Int),.int .i64 (hi:Int)]) hB7' (by rw [Jtf];simp) Qrq ?_;intro w8 hB8 hg8;have hB8':ItB w8 g A d L lo hi (upd f L p) (upd h L e) st:=hB8;have hgw8:=hgw7.trans (GrN.by hg8 λk e=>by injection e with e;exact e.symm);refine ρ ?_;refine ld (hB8'.at (i:=1) rfl) ?_;refine ρ ?_;refine sto (p:=⟨g,1,none⟩) (hB8'.cell 1) (hB8'.frozen _) ?_;have hB9:ItB (w8.setCell ⟨g,1,none⟩ (.int .i64 ((L:Int)+1))) g A d (L+1) lo hi (upd f L p) (upd h L e) st:=hB8'.set 1 (.int .i64 ((L:Int)+1));have hgw9:GrN (λk=>k=g) w (w8.setCell ⟨g,1,none⟩ (.int .i64 ((L:Int)+1))):=hgw8.trans (GrN.set _ rfl)
 refine ρ ?_;exact Jjq ⟨rfl,hgw9,lo,hi,hlohi,hhi,hch,hB9⟩
end
open Go.RowKit Pl Go.Wk
def gtN(U:List V)(key:V): Nat:=(U.filter λy=>decide (cmpV key y<0)).length
theorem Xbp(U:List V)(key:V): gtN U key<=U.length:=List.length_filter_le _ _
theorem Xjt: ∀ {U:List V} {key key':V},key'∈U->cmpV key key'<0->gtN U key'<gtN U key
 | [],_,_,h,_=>by cases h
 | x::U,key,key',h,hlt=>by
  have mono:∀ U:List V,gtN U key'<=gtN U key:=λU=>by
   induction U with
   | nil=>exact Nat.le_refl _
   | cons y U ih=>
    unfold gtN at *;by_cases e:cmpV key' y<0
    ·have:=cmp_V.lt_trans hlt e;rw [List.filter_cons_of_pos (by simpa using e),List.filter_cons_of_pos (by simpa using this)];simp only [List.length_cons];omega
    ·rw [List.filter_cons_of_neg (by simpa using e)];by_cases e2:cmpV key y<0
     ·rw [List.filter_cons_of_pos (by simpa using e2)];simp only [List.length_cons];omega
     ·rw [List.filter_cons_of_neg (by simpa using e2)];exact ih
  rcases List.mem_cons.1 h with rfl|h'
  ·have:=mono U;unfold gtN at *;rw [List.filter_cons_of_neg (by rw [Jqk];simp),List.filter_cons_of_pos (by simpa using hlt)];simp only [List.length_cons];omega
  ·have ih:=Xjt h' hlt;unfold gtN at *;by_cases e:cmpV key' x<0
   ·have:=cmp_V.lt_trans hlt e;rw [List.filter_cons_of_pos (by simpa using e),List.filter_cons_of_pos (by simpa using this)];simp only [List.length_cons];omega
   ·rw [List.filter_cons_of_neg (by simpa using e)];by_cases e2:cmpV key x<0
    ·rw [List.filter_cons_of_pos (by simpa using e2)];simp only [List.length_cons];omega
    ·rw [List.filter_cons_of_neg (by simpa using e2)];exact ih
structure Fix where
 G: Nat->Nat
 A:Nat->Option Addr
 d:Nat->Nat
 rs:Nat->List Row
structure Lev where
 L: Nat->Nat
 lo:Nat->Nat
 e:Nat->Nat
 f:Nat->Nat->Nat
 h:Nat->Nat->Nat
def Fix.val(F:Fix)(V':Lev)(i a:Nat): V:=(lvl (F.rs i) (V'.L i-1)).getD a V0
def Xwk(F:Fix)(I:List Nat): List Value:=I.map λi=>.pointer (some ⟨F.G i,0,none⟩)
theorem Jbj{F:Fix}{I:List Nat}{k:Nat}(h:k<I.length): (Xwk F I)[k]?=some (.pointer (some ⟨F.G (I.getD k 0),0,none⟩)):=by simp [Xwk,List.getD,List.getElem?_eq_getElem h]
structure OnS(F:Fix)(V':Lev)(I:List Nat): Prop where
 lev:∀ i∈I,0<V'.L i/\V'.L i<=F.d i/\F.d i<=32
 rng:∀ i∈I,V'.e i<=(lvl (F.rs i) (V'.L i-1)).length/\V'.e i<=1000000
 srt:∀ i∈I,∀ a b,V'.lo i<=a->a<b->b<V'.e i->cmpV (F.val V' i a) (F.val V' i b)<0
 inj:∀ i∈I,∀ j∈I,F.G i=F.G j->i=j
 len:I.length<=32
def NG(F:Fix)(I:List Nat)(J:Nat)(k:Nat): Prop:=k=J∨∃ i∈I,k=F.G i
def Its(F:Fix)(V':Lev)(I:List Nat)(w:World)(p:Nat->Nat): Prop:=∀ i∈I,∃ st,ItB w (F.G i) (F.A i) (F.d i) (V'.L i) (p i) (V'.e i) (V'.f i) (V'.h i) st
def Cmn(F:Fix)(V':Lev)(I:List Nat)(y:V): Prop:=∀ i∈I,∃ a,V'.lo i<=a/\a<V'.e i/\F.val V' i a=y
def JB(w:World)(J:Nat)(jr ja yv:Value): Prop:=∃ st:Int,Blk w J 272 [jr,ja,.int .i64 st,yv]
def Xkz(F:Fix)(V':Lev)(I:List Nat): List V:=I.flatMap λi=>(List.range (V'.e i-V'.lo i)).map λa=>F.val V' i (V'.lo i+a)
theorem Qtm{F:Fix}{V':Lev}{I:List Nat}{i a:Nat}(hi:i∈I)(h1:V'.lo i<=a)(h2:a<V'.e i): F.val V' i a∈Xkz F V' I:=by
 refine List.mem_flatMap.2 ⟨i,hi,List.mem_map.2 ⟨a-V'.lo i,List.mem_range.2 (by omega),?_⟩⟩;congr 1;omega
theorem Qbx{F:Fix}{V':Lev}: ∀ {I:List Nat},(∀ i∈I,V'.e i<=1000000)->(Xkz F V' I).length<=I.length*1000000
 | [],_=>Nat.le_refl _
 | i::I,h=>by
  have ih:=Qbx (F:=F) (V':=V') (I:=I) (λj hj=>h j (List.mem_cons_of_mem _ hj));have h1:=h i (List.mem_cons_self ..);simp only [Xkz,List.flatMap_cons,List.length_append,List.length_map,List.length_range,List.length_cons]at ih ⊢;omega
theorem Jts{a b c:V}(h1:cmpV a b<=0)(h2:cmpV b c<=0): cmpV a c<=0:=cmp_V.trans a b c h1 h2
theorem Qpv(k n:Nat): (k:Int).tmod (n:Int)=((k % n:Nat):Int):=by rw [Int.tmod_eq_emod_of_nonneg (by omega)];rfl
end Go.Proofs.YtefpailelagbkaaGreatDoor
