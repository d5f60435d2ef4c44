/- Part 17 of the proof: It3, It4, Lf, Lf2. -/
import Derived.Test.YtefpailelagbkaaGreatDoorJ16
set_option linter.unusedVariables false
set_option maxRecDepth 100000
set_option maxHeartbeats 40000000
namespace Go.Proofs.YtefpailelagbkaaGreatDoor
open Go.RowKit Pl Go.Wk
attribute [local irreducible] WC WL QX WD WDB WP WN
section
variable {w:World} {g:Nat} {A:Option Addr} {d L p e:Nat} {f h:Nat->Nat} {st:Int} {rs:List Row}
theorem itSeek_any{v:V}(hB:ItB w g A d L p e f h st)(hT:Off (λk=>k=g) w (λu=>TriA u A d rs))(hL:0<L)(hLd:L<=d)(hd:d<=32)(hpe:p<e)(he:e<=(lvl rs (L-1)).length)(hm:e<=1000000)(hs:∀ i j,p<=i->i<j->j<e->Jqh ((lvl rs (L-1)).getD i V0) ((lvl rs (L-1)).getD j V0)<0):
  Ret Tryz.prog 216 [.pointer (some ⟨g,0,none⟩),v.val] w λu w'=>GrN (λk=>k=g) w w'/\∃ q st',u=.bool (decide (q<e))/\p<=q/\q<=e/\(∀ i,p<=i->i<q->Jqh ((lvl rs (L-1)).getD i V0) v<0)/\(q<e->¬ Jqh ((lvl rs (L-1)).getD q V0) v<0)/\ItB w' g A d L q e f h st':=by
 obtain ⟨val,hval⟩:∃ val:Nat->V,val=λi=>(lvl rs (L-1)).getD i V0:=⟨_,rfl⟩;have hvi:∀ i,(lvl rs (L-1)).getD i V0=val i:=λi=>by rw [hval]
 simp only [hvi]at hs ⊢;have below:∀ {low i:Nat},p<=i->i<=low->low<e->Jqh (val low) v<0->Jqh (val i) v<0:=fun {low i} h1 h2 h3 h4=>by
  by_cases e':i=low
  ·subst e';exact h4
  ·exact cmp_V.lt_trans (hs i low h1 (by omega) h3) h4
 refine Jjb Tryz.func216 Tryz.ntmps216 rfl (by kernel_rfl) rfl ?_;refine ρ ?_;refine bx (cs:=v.cells) ?_;intro w1 b hx1 hb hBb;have hgb:b≠g:=by have:=hB.lt;omega
 have hnb:¬ (λk=>k=g) b:=hgb;refine ρ ?_;refine cl (Jkl (hB.ext hx1)) ?_;rintro u w2 ⟨rfl,hx2⟩;have hxw2:=hx1.trans hx2;have hB2:=hB.ext hxw2;have hg2:GrN (λk=>k=g) w w2:=GrN.ext hxw2;refine ρ ?_;refine cf ?_ ?_
 ·simp [hL,hpe]
 refine ρ ?_;refine drN (λ_=>False) 10 [(0,0),(0,1),(0,2),(0,3),(0,4),(0,5),(0,6),(2,7),(2,8)] (by kernel_rfl) ?_;have hxd:Ext w2 w2.drew:=(Ext.refl w2).drew;have hB3:=hB2.ext hxd;have hBb3:=(hBb.ext hx2).ext hxd;have hg3:=hg2.trans (GrN.ext hxd);refine ρn ?_;refine nld (Jjg (hB3.at (i:=2) rfl) (λe=>e)) ?_;refine ρn ?_;refine nlds (cs:=v.cells) (λw' hg j u hu=>(Jqb hBb3 hg (λe=>e)).at hu) ?_;refine ρn ?_;refine Jkm ?_;refine cl (itLess_any (q:=p) (qi:=(p:Int)) hB3 (hT.gr hg3) hL hLd hd (by omega) rfl) ?_;rintro u w4 ⟨rfl,hg4,st4,hB4⟩;have hBb4:=Jqb hBb3 hg4 hnb;have hgw4:=hg3.trans hg4;refine ρ ?_;refine Qqm ?_;refine Jkm ?_;refine ρ ?_;rw [hvi];refine ci (λh1=>?_) (λh1=>?_)
 ·have h2:¬ Jqh (val p) v<0:=by simpa using h1
  refine ρ ?_;refine Jjq ⟨hgw4,p,st4,by rw [decide_eq_true hpe],Nat.le_refl _,by omega,λi h1 h2=>by omega,λ_=>h2,hB4⟩
 have h2:Jqh (val p) v<0:=by simpa using h1
 clear h1;refine ρ ?_;refine ld (hB4.at (i:=2) rfl) ?_;refine ρ ?_;refine Jzk (fun (low step:Nat) (st:Int)=>[(0,.pointer (some ⟨g,0,none⟩)),(3,.pointer (some ⟨b,0,none⟩)),(5,.int .i64 (low:Int)),(6,.int .i64 (step:Int))])
  (λlow step st w'=>GrN (λk=>k=g) w w'/\ItB w' g A d L p e f h st/\Blk w' b 71 v.cells/\p<=low/\low<e/\Jqh (val low) v<0/\1<=step/\step<=2000000) (λlow _ _=>e-low) p 1 st4 sB
  ⟨hgw4,hB4,hBb4,Nat.le_refl _,hpe,h2,Nat.le_refl _,by omega⟩ ?_
 clear hB4 hBb4 hgw4 hg4 hB3 hBb3 hg3;rintro low step st5 w5 ⟨hg5,hB5,hBb5,hl1,hl2,hl3,hs1,hs2⟩;refine ρ ?_;refine ld (hB5.at (i:=3) rfl) ?_;refine ρ ?_;refine wljoin2 (fun (t:Bool) (st:Int)=>[(0,.pointer (some ⟨g,0,none⟩)),(3,.pointer (some ⟨b,0,none⟩)),(5,.int .i64 (low:Int)),(6,.int .i64 (step:Int)),(42,.bool t)])
  (λt st w'=>GrN (λk=>k=g) w w'/\ItB w' g A d L p e f h st/\Blk w' b 71 v.cells/\(t=true->low+step<e/\Jqh (val (low+step)) v<0)/\(t=false->e<=low+step∨¬ Jqh (val (low+step)) v<0)) ?_ ?_
 ·refine ki 35 (λh1=>?_) (λh1=>?_)
  ·have h3:low+step<e:=by have:=of_decide_eq_true h1;omega
   refine ρ ?_;refine lds (cs:=v.cells) (λj u hu=>hBb5.at hu) ?_;refine ρ ?_;refine cl (itLess_any (q:=low+step) (qi:=(low:Int)+(step:Int)) hB5 (hT.gr hg5) hL hLd hd (by omega) (by omega)) ?_;rintro u w6 ⟨rfl,hg6,st6,hB6⟩;refine ρ ?_;rw [hvi];refine Jkf _ st6 sB ⟨hg5.trans hg6,hB6,Jqb hBb5 hg6 hnb,λh'=>⟨h3,of_decide_eq_true h'⟩,λh'=>.inr (of_decide_eq_false h')⟩
  ·refine ρ ?_;exact Jkf false st5 sB ⟨hg5,hB5,hBb5,λh'=>(by cases h'),λ_=>.inl (by have:=of_decide_eq_false h1;omega)⟩
 clear hg5 hB5 hBb5;rintro t st6 w6 ⟨hg6,hB6,hBb6,ht1,ht2⟩;refine ci (λh1=>?_) (λh1=>?_)
 ·obtain ⟨h3,h4⟩:=ht1 h1;refine ρ ?_;exact Jqf (low+step) (step*2) st6 sO ⟨hg6,hB6,hBb6,by omega,by omega,h4,by omega,by omega⟩ (by omega)
 have h3:=ht2 h1;clear ht1 ht2 h1;refine ρ ?_;refine ld (hB6.at (i:=3) rfl) ?_;refine ρ ?_;have hhi:∃ hi:Nat,(if (e:Int)<(low:Int)+(step:Int) then (e:Int) else (low:Int)+(step:Int))=(hi:Int)/\low<hi/\hi<=e/\(hi<e->¬ Jqh (val hi) v<0):=by
  by_cases h4:e<low+step
  ·exact ⟨e,by rw [if_pos (by omega)],hl2,Nat.le_refl _,λh'=>by omega⟩
  ·refine ⟨low+step,by rw [if_neg (by omega)];omega,by omega,by omega,λh'=>?_⟩;rcases h3 with h5|h5
   ·omega
   ·exact h5
 obtain ⟨hi,ehi,hh1,hh2,hh3⟩:=hhi;rw [ehi];refine Jzk (fun (low hi:Nat) (st:Int)=>[(0,.pointer (some ⟨g,0,none⟩)),(3,.pointer (some ⟨b,0,none⟩)),(5,.int .i64 (low:Int)),(7,.int .i64 (hi:Int))])
  (λlow hi st w'=>GrN (λk=>k=g) w w'/\ItB w' g A d L p e f h st/\Blk w' b 71 v.cells/\p<=low/\Jqh (val low) v<0/\low<hi/\hi<=e/\(hi<e->¬ Jqh (val hi) v<0)) (λlow hi _=>hi-low) low hi st6 sB
  ⟨hg6,hB6,hBb6,hl1,hl3,hh1,hh2,hh3⟩ ?_
 clear hg6 hB6 hBb6 hl1 hl2 hl3 hs1 hs2 h3 hh1 hh2 hh3 ehi;rintro low2 hi2 st7 w7 ⟨hg7,hB7,hBb7,hl1,hl3,hh1,hh2,hh3⟩;refine ρ ?_;refine ci (λh1=>?_) (λh1=>?_)
 ·have hgap:low2+1<hi2:=by have:=of_decide_eq_true h1;omega
  refine ρ ?_;refine qn (hi2-low2) 2 ?_;refine ρ ?_;have hmid:low2<low2+(hi2-low2) / 2/\low2+(hi2-low2) / 2<hi2:=by omega
  generalize hmm:(hi2-low2) / 2=m at *
  refine lds (cs:=v.cells) (λj u hu=>hBb7.at hu) ?_;refine ρ ?_;refine cl (itLess_any (q:=low2+m) (qi:=(low2:Int)+(m:Int)) hB7 (hT.gr hg7) hL hLd hd (by omega) (by omega)) ?_;rintro u w8 ⟨rfl,hg8,st8,hB8⟩;refine ρ ?_;rw [hvi];refine ci (λh2=>?_) (λh2=>?_)
  ·refine ρ ?_;exact Jqf (low2+m) hi2 st8 sO ⟨hg7.trans hg8,hB8,Jqb hBb7 hg8 hnb,by omega,of_decide_eq_true h2,by omega,hh2,hh3⟩ (by omega)
  ·refine ρ ?_;exact Jqf low2 (low2+m) st8 sO ⟨hg7.trans hg8,hB8,Jqb hBb7 hg8 hnb,hl1,hl3,by omega,by omega,λ_=>of_decide_eq_false h2⟩ (by omega)
 ·have ehi:hi2=low2+1:=by have:=of_decide_eq_false h1;omega
  refine ρ ?_;refine sto (p:=⟨g,2,none⟩) (hB7.cell 2) (hB7.frozen _) ?_;have hB8:ItB (w7.setCell ⟨g,2,none⟩ (.int .i64 (hi2:Int))) g A d L hi2 e f h st7:=hB7.set 2 (.int .i64 (hi2:Int));have hg8:GrN (λk=>k=g) w (w7.setCell ⟨g,2,none⟩ (.int .i64 (hi2:Int))):=hg7.trans (GrN.set _ rfl);refine ρ ?_;refine cl (Jkl hB8) ?_;rintro u w9 ⟨rfl,hx9⟩;refine ρ ?_;refine Jjq ⟨hg8.trans (GrN.ext hx9),hi2,st7,?_,by omega,hh2,λi h1 h2=>below h1 (show i<=low2 by omega) (by omega) hl3,hh3,hB8.ext hx9⟩;congr 1
  exact decide_eq_decide.2 ⟨λh'=>h'.2,λh'=>⟨hL,h'⟩⟩
end
open Go.RowKit Pl Go.Wk
theorem zFrame: Jxd Tryz.prog 292=some (.agg #[.int .i64 0,.int .i64 0]):=by kernel_rfl
theorem bldFrame(x y:Int)(w:World): (Instr.build 292 #[(0,.int .i64 x),(1,.int .i64 y)]).run Tryz.prog w=.ok (.agg #[.int .i64 x,.int .i64 y]) w:=by kernel_rfl
theorem oneI2{x y:Int}: ∀ u∈[Value.int .i64 x,.int .i64 y],u.oneCell'=true:=by intro u hu;simp at hu;rcases hu with rfl|rfl<;>rfl
section
variable {w:World} {g:Nat} {A:Option Addr} {d L p e:Nat} {f h:Nat->Nat} {st:Int} {rs:List Row}
theorem triDepth_any(w:World): Ret Tryz.prog 215 [.agg #[.slice A d d]] w λu w'=>u=.int .i64 (d:Int)/\Ext w w':=by
 refine Jjb Tryz.func215 Tryz.ntmps215 rfl (by kernel_rfl) rfl ?_;refine ρ ?_;refine bx (cs:=[.slice A d d]) ?_;intro w1 b hx1 hb hB;refine ρ ?_;refine ld (hB.at (i:=0) rfl) ?_;refine ρ ?_;exact Jjq ⟨rfl,hx1⟩
def Jvr(rs:List Row)(L p:Nat): Row:=if L=0 then [] else (pfx rs L).getD p []
theorem it_tri(hB:ItB w g A d L p e f h st){j:Nat}{u:Value}(hu:[Value.slice A d d][j]?=some u): w.cell? (((⟨g,0,none⟩:Addr).add 0).add j)=some u:=by
 match j,hu with
 | 0,hu=>rw [add_zero,add_zero,hB.cell];exact hu
 | j+1,hu=>simp at hu
theorem it_at(hB:ItB w g A d L p e f h st){j:Nat}{u:Value}(hu:[Value.int .i64 (p:Int),.int .i64 (e:Int)][j]?=some u): w.cell? (((⟨g,0,none⟩:Addr).add 2).add j)=some u:=by
 match j,hu with
 | 0,hu=>rw [add_zero,Jzn,hB.cell];exact hu
 | 1,hu=>rw [Jzn,Jzn,hB.cell];exact hu
 | j+2,hu=>simp at hu
theorem itOpen_any(hB:ItB w g A d L p e f h st)(hT:Off (λk=>k=g) w (λu=>TriA u A d rs))(hLd:L<d)(hd:d<=32)(hpe:0<L->p<e/\e<=(pfx rs L).length)(hrs:rs≠[])(hsrt:Srt [] rs)(hm:rs.length<=1000000)(hlen:∀ r∈rs,r.length=d):
  Ret Tryz.prog 204 [.pointer (some ⟨g,0,none⟩)] w λu w'=>u=.bool true/\GrN (λk=>k=g) w w'/\∃ lo hi,lo<hi/\hi<=(pfx rs (L+1)).length/\(∀ i,i<(pfx rs (L+1)).length->(((pfx rs (L+1)).getD i []).take L=Jvr rs L p↔lo<=i/\i<hi))/\ItB w' g A d (L+1) lo hi (upd f L p) (upd h L e) st:=by
 refine Jjb Tryz.func204 Tryz.ntmps204 rfl (by kernel_rfl) rfl ?_;refine ρ ?_;refine wjoin0 [(0,.pointer (some ⟨g,0,none⟩)),(30,.bool false)] (λw'=>Ext w w') ?_ ?_
 ·refine dr [(0,0),(0,1),(0,2),(0,3),(0,4),(0,5),(0,6),(0,7),(0,8),(0,9),(1,10),(0,11),(0,12),(0,13),(0,14),(0,15),(0,16),(0,17),(0,18),(0,19),(0,20),(0,21),(0,22),(1,23),(0,24),(0,25)] (by kernel_rfl) ?_;have hxd:Ext w w.drew:=(Ext.refl w).drew;have hBd:=hB.ext hxd;refine ρd ?_;refine dpnl ?_;refine ρd ?_;refine dld (hBd.at (i:=1) rfl) ?_;refine ρd ?_;have rest:∀ (al:AL) (w2:World),True:=λ_ _=>trivial;refine dki 13 (λh1=>?_) (λh1=>?_)
  ·have hL0:0<L:=by have:=of_decide_eq_true h1;omega
   refine ρd ?_;refine dcl (Jkl hBd) ?_;rintro u w2 ⟨rfl,hx2⟩;refine ⟨hx2,?_⟩;have hB2:=hBd.ext hx2;refine ρd ?_;refine dkf 19 ?_ ?_
   ·have:=hpe hL0;simp [hL0,this.1]
   refine ρd ?_;refine dld (hB2.at (i:=1) rfl) ?_;refine ρd ?_;refine Jvb (cs:=[.slice A d d]) (λj u hu=>it_tri hB2 hu) ?_;refine ρd ?_;refine dcl (triDepth_any _) ?_;rintro u w3 ⟨rfl,hx3⟩;refine ⟨hx3,?_⟩;refine ρd ?_;refine ρ ?_;refine qjoin0 (Sub.cons rfl (Sub.cons ?_ Sub.nil)) ((hxd.trans hx2).trans hx3);exact congrArg (λz=>some (Value.bool z)) (decide_eq_false (by omega))
  ·have hL0:L=0:=by have:=of_decide_eq_false h1;omega
   refine ρd ?_;refine dld (hBd.at (i:=1) rfl) ?_;refine ρd ?_;refine Jvb (cs:=[.slice A d d]) (λj u hu=>it_tri hBd hu) ?_;refine ρd ?_;refine dcl (triDepth_any _) ?_;rintro u w3 ⟨rfl,hx3⟩;refine ⟨hx3,?_⟩;refine ρd ?_;refine ρ ?_;refine qjoin0 (Sub.cons rfl (Sub.cons ?_ Sub.nil)) (hxd.trans hx3);exact congrArg (λz=>some (Value.bool z)) (decide_eq_false (by omega))
 intro w1 hx1;have hB1:=hB.ext hx1;obtain ⟨vv,fv,fs,hR,hv,hf,hc⟩:=(hT.ext hx1).here;have hp1:(pfx rs (L+1)).length<=1000000:=by
  have:=ddF_len (rs.map (List.take (L+1)));rw [List.length_map]at this;exact Nat.le_trans this hm
 refine ρ ?_;refine lds (cs:=[.slice A d d]) (λj u hu=>it_tri hB1 hu) ?_;refine ρ ?_;refine cl (triSize_any (l:=0) (vs:=lvl rs) hR (λl hl=>by obtain ⟨B,c,e,_⟩:=hv l hl;exact ⟨B,c,e⟩) rfl hd) ?_;rintro u w2 ⟨rfl,hx2⟩;rw [if_pos (show 0<d by omega),lvl_len];refine ρ ?_;refine bld (bldFrame _ _ _) ?_;refine ρ ?_;refine alc (cs:=[.int .i64 0,.int .i64 0]) zFrame ?_;intro w3 b hx3 hb hBb;refine ρ ?_;refine stb hBb ?_ (oneI2 (x:=0) (y:=((pfx rs (0+1)).length:Int)));intro w4 hBb4 hg4 hx4;have hx14:Ext w1 w4:=(hx2.trans (hx4 w2 hx3 hb));have hB4:=hB1.ext hx14;have hgb:b≠g:=by have:=hB1.lt;have:=hx2.size;omega
 refine ρ ?_;refine ld (hB4.at (i:=1) rfl) ?_;refine ρ ?_;refine wjoin2 (fun (lo hi:Nat)=>[(0,.pointer (some ⟨g,0,none⟩)),(3,.pointer (some ⟨b,0,none⟩))])
  (λlo hi w'=>Ext w1 w'/\Blk w' b 292 [.int .i64 (lo:Int),.int .i64 (hi:Int)]/\hi<=(pfx rs (L+1)).length/\∀ i,i<(pfx rs (L+1)).length->(((pfx rs (L+1)).getD i []).take L=Jvr rs L p↔lo<=i/\i<hi)) ?_ ?_
 ·refine ci (λh1=>?_) (λh1=>?_)
  ·have hL0:0<L:=by have:=of_decide_eq_true h1;omega
   obtain ⟨k,rfl⟩:∃ k,L=k+1:=⟨L-1,by omega⟩;have lk:k<d:=by omega
   obtain ⟨hpe1,hpe2⟩:=hpe hL0;obtain ⟨F,fc,hfF,hRF⟩:=hf k lk;have hch:=hc k (by omega);obtain ⟨c1,c2,c3⟩:=hch;have hpm:p<=1000000:=by
    have:=ddF_len (rs.map (List.take (k+1)));rw [List.length_map]at this;have h4:(pfx rs (k+1)).length<=rs.length:=this;omega
   have lp:p<(fs k).length:=by omega
   have lp1:p+1<(fs k).length:=by omega
   refine ρ ?_;refine drN (λ_=>False) 10 [(0,0),(0,1),(0,2),(0,3),(0,4),(0,5),(0,6),(0,7),(0,8),(0,9),(0,10),(0,11),(0,12),(0,13)] (by kernel_rfl) ?_;have hx1d:=hx14.drew;have hBd:=hB1.ext hx1d;have hRd:=hR.ext hx1d;have hcf:w4.drew.cell? ((adr A (k*2)).add 1)=some (fv k):=by rw [Jqx];exact hRd.cell (Jkc d vv fv lk).2
   refine ρn ?_;refine nld (Jjg (hBd.at (i:=0) rfl) (λe=>e)) ?_;refine ρn ?_;refine nld (Jjg (hBd.at (i:=1) rfl) (λe=>e)) ?_;refine ρn ?_;refine nixq 2 k hRd lk ?_;refine ρn ?_;refine nld (Jjg hcf (λe=>e)) ?_;rw [hfF];refine ρn ?_;refine ρ ?_;refine drN (λ_=>False) 10 [(0,0),(0,1),(0,2),(0,3),(0,4),(0,5),(0,6),(0,7),(0,8),(0,9),(0,10),(0,11),(0,12),(0,13),(0,14),(0,15),(0,16),(1,17),(2,18)] (by kernel_rfl) ?_;have hx1e:=hx1d.drew;have hBe:=hB1.ext hx1e;have hRe:=hRF.ext hx1e;have hBbe:=(hBb4.ext (Ext.refl w4).drew).ext (Ext.refl w4.drew).drew;refine ρn ?_;refine nld (Jjg (hBe.at (i:=2) rfl) (λe=>e)) ?_;refine ρn ?_;refine nix p hRe lp ?_;refine ρn ?_;refine nld (Jjg (hRe.cell (Jxz lp)) (λe=>e)) ?_;refine ρn ?_;refine nld (Jjg (hBe.at (i:=2) rfl) (λe=>e)) ?_;refine ρn ?_;refine nix (p+1) hRe lp1 ?_;refine ρn ?_;refine nld (Jjg (hRe.cell (Jxz lp1)) (λe=>e)) ?_
   refine ρn ?_;refine nop ?_;refine bld (bldFrame _ _ _) ?_;refine ρ ?_;refine Jql (GrN.refl _ _) ?_;refine ρn ?_;refine Jkm ?_;refine stb hBbe ?_ (oneI2 (x:=(((fs k).getD p 0:Nat):Int)) (y:=(((fs k).getD (p+1) 0:Nat):Int)));intro w5 hBb5 hg5 hx5;refine ρ ?_;refine Jkf ((fs k).getD p 0) ((fs k).getD (p+1) 0) sB ⟨hx5 w1 hx1e (Nat.le_trans hx2.size hb),hBb5,c2 _ lp1,λi hi=>?_⟩;rw [c3 p i lp1 hi |>.symm,Jvr,if_neg (by omega)]
  ·have hL0:L=0:=by have:=of_decide_eq_false h1;omega
   subst hL0;refine ρ ?_;refine Jkf 0 (pfx rs (0+1)).length sB ⟨hx14,hBb4,Nat.le_refl _,λi hi=>?_⟩;rw [Jvr,if_pos rfl,List.take_zero];exact ⟨λ_=>⟨Nat.zero_le _,hi⟩,λ_=>rfl⟩
 clear hg4 hx4 hB4 hx14 hBb4;rintro lo hi w5 ⟨hx15,hBb5,hhi,hch⟩;have hlohi:lo<hi:=by
  have hex:∃ i,i<(pfx rs (L+1)).length/\((pfx rs (L+1)).getD i []).take L=Jvr rs L p:=by
   have hr:∃ r∈rs,r.take L=Jvr rs L p:=by
    by_cases hL0:L=0
    ·subst hL0;obtain ⟨r,hr⟩:=List.exists_mem_of_ne_nil rs hrs;exact ⟨r,hr,by rw [Jvr,if_pos rfl,List.take_zero]⟩
    ·have:=hpe (by omega);rw [Jvr,if_neg hL0];exact (pfx_mem hsrt).1 (getD_mem' [] _ (by omega))
   obtain ⟨r,hr,er⟩:=hr;obtain ⟨i,hi,ei⟩:=List.getElem_of_mem ((pfx_mem hsrt (l:=L+1)).2 ⟨r,hr,rfl⟩);refine ⟨i,hi,?_⟩;rw [Jjh [] _ hi,ei,List.take_take,Nat.min_eq_left (by omega),er]
  obtain ⟨i,hi,ei⟩:=hex;have:=(hch i hi).1 ei;omega
 have hB5:=hB1.ext hx15;refine ρ ?_;refine ld (hBb5.at (i:=0) rfl) ?_;refine ρ ?_;refine ld (hBb5.at (i:=1) rfl) ?_;refine ρ ?_;refine cf ?_ ?_
 ·exact beq_f (by omega)
 refine ρ ?_;refine drN (λ_=>False) 10 [(0,0),(0,1),(0,2),(0,3),(0,4),(0,5),(0,6),(0,7),(0,8),(0,9),(0,10),(0,11),(2,12)] (by kernel_rfl) ?_;have hxd:Ext w5 w5.drew:=(Ext.refl w5).drew;have hB6:=hB5.ext hxd;have hBb6:=hBb5.ext hxd;refine ρn ?_;refine nld (Jjg (hB6.at (i:=1) rfl) (λe=>e)) ?_;refine ρn ?_;refine nlds (cs:=[.int .i64 (p:Int),.int .i64 (e:Int)]) (λw' hg j u hu=>it_at (Jqb hB6 hg (λe=>e)) hu) ?_;refine ρn ?_;refine nixa L (show L<32 by omega) ?_;refine ρn ?_;refine Jkm ?_;have hseg:=seg2 (cs:=itC A d L p e f h st) (o:=4+L*2) (u:=.int .i64 (p:Int)) (v:=.int .i64 (e:Int)) (by rw [itC_len];omega);refine stB (o:=4+L*2) (us:=[.int .i64 (p:Int),.int .i64 (e:Int)]) hB6 (by rw [itC_len];simp only [List.length_cons,List.length_nil];omega) oneI2 ?_ (hp:=(Jzn g (0+4) (L*2)).trans (by rw [Nat.zero_add]));intro w7 hB7 hg7;have hB7':ItB w7 g A d L p e (upd f L p) (upd h L e) st:=by
  have e1:(itC A d L p e f h st).take (4+L*2)++[Value.int .i64 (p:Int),.int .i64 (e:Int)]++(itC A d L p e f h st).drop (4+L*2+[Value.int .i64 (p:Int),.int .i64 (e:Int)].length)=itC A d L p e (upd f L p) (upd h L e) st:=by
   rw [<-itC_set_ab A d L p e f h st (show L<32 by omega) p e];exact hseg
  rw [e1]at hB7;exact hB7
 have hBb7:=hBb6.grown hg7 (λe=>hgb (by injection e));have hgw7:GrN (λk=>k=g) w w7:=(GrN.ext ((hx1.trans hx15).trans hxd)).trans (GrN.by hg7 λk e=>by injection e with e;exact e.symm);refine ρ ?_;refine lds (cs:=[.int .i64 (lo:Int),.int .i64 (hi:Int)]) (λj u hu=>hBb7.at hu) ?_;refine ρ ?_;refine stB (o:=2) (us:=[.int .i64 (lo:Int),.int .i64 (hi:Int)]) hB7' (by rw [itC_len];simp) oneI2 ?_;intro w8 hB8 hg8;have hB8':ItB w8 g A d L lo hi (upd f L p) (upd h L e) st:=hB8;have hgw8:=hgw7.trans (GrN.by hg8 λk e=>by injection e with e;exact e.symm);refine ρ ?_;refine ld (hB8'.at (i:=1) rfl) ?_;refine ρ ?_;refine sto (p:=⟨g,1,none⟩) (hB8'.cell 1) (hB8'.frozen _) ?_;have hB9:ItB (w8.setCell ⟨g,1,none⟩ (.int .i64 ((L:Int)+1))) g A d (L+1) lo hi (upd f L p) (upd h L e) st:=hB8'.set 1 (.int .i64 ((L:Int)+1));have hgw9:GrN (λk=>k=g) w (w8.setCell ⟨g,1,none⟩ (.int .i64 ((L:Int)+1))):=hgw8.trans (GrN.set _ rfl)
 refine ρ ?_;exact Jjq ⟨rfl,hgw9,lo,hi,hlohi,hhi,hch,hB9⟩
end
open Go.RowKit Pl Go.Wk
def gtN(U:List V)(key:V): Nat:=(U.filter λy=>decide (Jqh key y<0)).length
theorem gtN_le(U:List V)(key:V): gtN U key<=U.length:=List.length_filter_le _ _
theorem gtN_lt: ∀ {U:List V} {key key':V},key'∈U->Jqh key key'<0->gtN U key'<gtN U key
 | [],_,_,h,_=>by cases h
 | x::U,key,key',h,hlt=>by
  have mono:∀ U:List V,gtN U key'<=gtN U key:=λU=>by
   induction U with
   | nil=>exact Nat.le_refl _
   | cons y U ih=>
    unfold gtN at *;by_cases e:Jqh key' y<0
    ·have:=cmp_V.lt_trans hlt e;rw [List.filter_cons_of_pos (by simpa using e),List.filter_cons_of_pos (by simpa using this)];simp only [List.length_cons];omega
    ·rw [List.filter_cons_of_neg (by simpa using e)];by_cases e2:Jqh key y<0
     ·rw [List.filter_cons_of_pos (by simpa using e2)];simp only [List.length_cons];omega
     ·rw [List.filter_cons_of_neg (by simpa using e2)];exact ih
  rcases List.mem_cons.1 h with rfl|h'
  ·have:=mono U;unfold gtN at *;rw [List.filter_cons_of_neg (by rw [Jqn];simp),List.filter_cons_of_pos (by simpa using hlt)];simp only [List.length_cons];omega
  ·have ih:=gtN_lt h' hlt;unfold gtN at *;by_cases e:Jqh key' x<0
   ·have:=cmp_V.lt_trans hlt e;rw [List.filter_cons_of_pos (by simpa using e),List.filter_cons_of_pos (by simpa using this)];simp only [List.length_cons];omega
   ·rw [List.filter_cons_of_neg (by simpa using e)];by_cases e2:Jqh key x<0
    ·rw [List.filter_cons_of_pos (by simpa using e2)];simp only [List.length_cons];omega
    ·rw [List.filter_cons_of_neg (by simpa using e2)];exact ih
structure Fix where
 G: Nat->Nat
 A:Nat->Option Addr
 d:Nat->Nat
 rs:Nat->List Row
structure Lev where
 L: Nat->Nat
 lo:Nat->Nat
 e:Nat->Nat
 f:Nat->Nat->Nat
 h:Nat->Nat->Nat
def Fix.val(F:Fix)(V':Lev)(i a:Nat): V:=(lvl (F.rs i) (V'.L i-1)).getD a V0
def ptrs(F:Fix)(I:List Nat): List Value:=I.map λi=>.pointer (some ⟨F.G i,0,none⟩)
theorem Qjm{F:Fix}{I:List Nat}{k:Nat}(h:k<I.length): (ptrs F I)[k]?=some (.pointer (some ⟨F.G (I.getD k 0),0,none⟩)):=by simp [ptrs,List.getD,List.getElem?_eq_getElem h]
structure OnS(F:Fix)(V':Lev)(I:List Nat): Prop where
 lev:∀ i∈I,0<V'.L i/\V'.L i<=F.d i/\F.d i<=32
 rng:∀ i∈I,V'.e i<=(lvl (F.rs i) (V'.L i-1)).length/\V'.e i<=1000000
 srt:∀ i∈I,∀ a b,V'.lo i<=a->a<b->b<V'.e i->Jqh (F.val V' i a) (F.val V' i b)<0
 inj:∀ i∈I,∀ j∈I,F.G i=F.G j->i=j
 len:I.length<=32
def NG(F:Fix)(I:List Nat)(J:Nat)(k:Nat): Prop:=k=J∨∃ i∈I,k=F.G i
def Its(F:Fix)(V':Lev)(I:List Nat)(w:World)(p:Nat->Nat): Prop:=∀ i∈I,∃ st,ItB w (F.G i) (F.A i) (F.d i) (V'.L i) (p i) (V'.e i) (V'.f i) (V'.h i) st
def Cmn(F:Fix)(V':Lev)(I:List Nat)(y:V): Prop:=∀ i∈I,∃ a,V'.lo i<=a/\a<V'.e i/\F.val V' i a=y
def JB(w:World)(J:Nat)(jr ja yv:Value): Prop:=∃ st:Int,Blk w J 272 [jr,ja,.int .i64 st,yv]
def allV(F:Fix)(V':Lev)(I:List Nat): List V:=I.flatMap λi=>(List.range (V'.e i-V'.lo i)).map λa=>F.val V' i (V'.lo i+a)
theorem allV_mem{F:Fix}{V':Lev}{I:List Nat}{i a:Nat}(hi:i∈I)(h1:V'.lo i<=a)(h2:a<V'.e i): F.val V' i a∈allV F V' I:=by
 refine List.mem_flatMap.2 ⟨i,hi,List.mem_map.2 ⟨a-V'.lo i,List.mem_range.2 (by omega),?_⟩⟩;congr 1;omega
theorem allV_len{F:Fix}{V':Lev}: ∀ {I:List Nat},(∀ i∈I,V'.e i<=1000000)->(allV F V' I).length<=I.length*1000000
 | [],_=>Nat.le_refl _
 | i::I,h=>by
  have ih:=allV_len (F:=F) (V':=V') (I:=I) (λj hj=>h j (List.mem_cons_of_mem _ hj));have h1:=h i (List.mem_cons_self ..);simp only [allV,List.flatMap_cons,List.length_append,List.length_map,List.length_range,List.length_cons]at ih ⊢;omega
theorem cmpV_le_trans{a b c:V}(h1:Jqh a b<=0)(h2:Jqh b c<=0): Jqh a c<=0:=cmp_V.trans a b c h1 h2
theorem tmod_nat(k n:Nat): (k:Int).tmod (n:Int)=((k % n:Nat):Int):=by rw [Int.tmod_eq_emod_of_nonneg (by omega)];rfl
open Go.RowKit Pl Go.Wk
theorem _root_.Go.Wk.GrN.newBy{N:Nat->Prop}{w w' w'':World}{b:Nat}(h:GrN N w w')(hg:w'.grownBy w'' (some b))(hb:w.heap.size<=b): GrN N w w'' :=
 ⟨hg.os.trans h.os,hg.tape.trans h.tape,hg.output.trans h.output,Nat.le_trans h.size hg.size,λk hk hn=>(hg.block k (Nat.lt_of_lt_of_le hk h.size) (λe=>by injection e with e;omega)).trans (h.block k hk hn)⟩
theorem nodup_inj{α:Type}{l:List α}(h:l.Nodup){i j:Nat}(hi:i<l.length)(hj:j<l.length)(e:l[i]=l[j]): i=j:=by
 have h':=List.pairwise_iff_getElem.1 h;rcases Nat.lt_trichotomy i j with h1|h1|h1
 ·exact absurd e (h' i j hi hj h1)
 ·exact h1
 ·exact absurd e.symm (h' j i hj hi h1)
theorem mod_ne{n k s:Nat}(h1:1<=s)(h2:s<n)(h3:s<=k): (k-s) % n≠k % n:=by
 intro e;have h4:(k-s+s) % n=(k-s) % n:=by rw [Nat.sub_add_cancel h3];exact e.symm
 have h5:((k-s) % n+s) % n=(k-s) % n:=by rw [Nat.mod_add_mod];exact h4
 generalize hx:(k-s) % n=x at *
 have hxn:x<n:=by rw [<-hx];exact Nat.mod_lt _ (by omega)
 rcases Nat.lt_or_ge (x+s) n with h6|h6
 ·rw [Nat.mod_eq_of_lt h6]at h5;omega
 ·rw [Nat.mod_eq_sub_mod h6,Nat.mod_eq_of_lt (by omega)]at h5;omega
theorem mod_all{n k r:Nat}(hr:r<n)(hk:n<=k): ∃ s,1<=s/\s<=n/\(k-s) % n=r:=by
 have hm:k % n<n:=Nat.mod_lt _ (by omega);have hdm:=Nat.div_add_mod k n;by_cases h:r<k % n
 ·refine ⟨k % n-r,by omega,by omega,?_⟩;have:k-(k % n-r)=n*(k / n)+r:=by omega
  rw [this,Nat.mul_add_mod,Nat.mod_eq_of_lt hr]
 ·refine ⟨k % n+n-r,by omega,by omega,?_⟩;have hq:1<=k / n:=(Nat.one_le_div_iff (by omega)).2 hk;obtain ⟨q,hq'⟩:∃ q,k / n=q+1:=⟨k / n-1,by omega⟩;rw [hq',Nat.mul_succ]at hdm;have:k-(k % n+n-r)=n*q+r:=by omega
  rw [this,Nat.mul_add_mod,Nat.mod_eq_of_lt hr]
theorem meet_any{w:World}{F:Fix}{V':Lev}{I:List Nat}{J:Nat}{p:Nat->Nat}{jr ja yv:Value}{B:Option Addr}{c:Nat}(hO:OnS F V' I)(hne:0<I.length)(hnd:I.Nodup)(hIts:Its F V' I w p)(hJ:JB w J jr ja yv)(hJG:∀ i∈I,F.G i≠J)(hT:∀ i∈I,Off (NG F I J) w (λu=>TriA u (F.A i) (F.d i) (F.rs i)))(hB:Off (NG F I J) w (λu=>Rd u 1 B I.length (ptrs F I)))(hp:∀ i∈I,V'.lo i<=p i/\p i<V'.e i)(hK:∀ i∈I,∀ a,V'.lo i<=a->a<p i->Jqh (F.val V' i a) (F.val V' (I.getD 0 0) (p (I.getD 0 0)))<0):
  Ret Tryz.prog 205 [.pointer (some ⟨J,0,none⟩),.slice B I.length c] w λu w'=>GrN (NG F I J) w w'/\JB w' J jr ja yv/\∃ p' t,u=.bool t/\Its F V' I w' p'/\(∀ i∈I,V'.lo i<=p' i/\p' i<=V'.e i) /\
   (t=true->∃ x,(∀ i∈I,p' i<V'.e i/\F.val V' i (p' i)=x)/\Jqh (F.val V' (I.getD 0 0) (p (I.getD 0 0))) x<=0/\∀ y,Cmn F V' I y->Jqh (F.val V' (I.getD 0 0) (p (I.getD 0 0))) y<=0->Jqh x y<=0) /\
   (t=false->∀ y,Cmn F V' I y->¬ Jqh (F.val V' (I.getD 0 0) (p (I.getD 0 0))) y<=0):=by
 have hm0:I.getD 0 0∈I:=getD_mem' 0 I hne;obtain ⟨K0,hK0⟩:∃ K0,K0=F.val V' (I.getD 0 0) (p (I.getD 0 0)):=⟨_,rfl⟩;rw [<-hK0]at hK ⊢;have hlen:=hO.len;have hGlt:∀ i∈I,F.G i<w.heap.size:=λi hi=>by obtain ⟨st,h1⟩:=hIts i hi;exact h1.lt
 have hJlt:J<w.heap.size:=by obtain ⟨st,h1⟩:=hJ;exact h1.lt
 refine Jjb Tryz.func205 Tryz.ntmps205 rfl (by kernel_rfl) rfl ?_;refine ρ ?_;refine ix 0 hB.here hne ?_;refine ρ ?_;refine ld (hB.here.cell (Qjm hne)) ?_;refine ρ ?_;obtain ⟨st0,hI0⟩:=hIts _ hm0;have hl0:=hO.lev _ hm0;have hp0:=hp _ hm0;have hr0:=hO.rng _ hm0;refine cl (itKey_any hI0 (hT _ hm0).here hl0.2.1 hl0.2.2 (λ_=>hr0.1)) ?_;rintro u w1 ⟨hx1,v,rfl,hv⟩;have hv':=hv ⟨hl0.1,hp0.2⟩;have hvK:v=K0:=by rw [hv',hK0];rfl
 subst hvK;rw [decide_eq_true (show 0<V'.L (I.getD 0 0)/\p (I.getD 0 0)<V'.e (I.getD 0 0) from ⟨hl0.1,hp0.2⟩)];refine ρ ?_;refine alc (cs:=V0.cells) zVal ?_;intro w2 bk hx2 hbk hBk;refine ρ ?_;refine stb (cs':=v.cells) hBk ?_ (V.one _);intro w3 hBk3 hg3 hx3;have hx13:Ext w1 w3:=hx3 w1 hx2 hbk;have hxw3:=hx1.trans hx13;have hbkw:w.heap.size<=bk:=Nat.le_trans hx1.size hbk;refine ρ ?_;refine wloop4 (fun (same k:Nat) (key:V) (p:Nat->Nat)=>[(0,.pointer (some ⟨J,0,none⟩)),(1,.slice B I.length c),(5,.pointer (some ⟨bk,0,none⟩)),(7,.int .i64 (same:Int)),(8,.int .i64 (k:Int))])
  (λsame k key p w'=>GrN (NG F I J) w w'/\JB w' J jr ja yv/\Its F V' I w' p/\Blk w' bk 71 key.cells/\(∀ i∈I,V'.lo i<=p i/\p i<V'.e i)/\(∀ i∈I,∀ a,V'.lo i<=a->a<p i->Jqh (F.val V' i a) key<0)/\Jqh v key<=0/\(∀ y,Cmn F V' I y->Jqh v y<=0->Jqh key y<=0) /\
   1<=same/\same<=I.length/\same<=k/\k+(gtN (allV F V' I) key*33+(I.length-same))<=2000000000/\(∀ s,1<=s->s<=same->F.val V' (I.getD ((k-s) % I.length) 0) (p (I.getD ((k-s) % I.length) 0))=key)) (λsame k key p=>gtN (allV F V' I) key*33+(I.length-same)) 1 1 v p sB
  ⟨GrN.ext hxw3,?_,λi hi=>?_,hBk3,hp,hK,by rw [Jqn];omega,λy _ h'=>h',Nat.le_refl _,hne,Nat.le_refl _,?_,λs h1 h2=>?_⟩ ?_
 ·obtain ⟨st,hJ⟩:=hJ;exact ⟨st,hJ.ext hxw3⟩
 ·obtain ⟨st,hI⟩:=hIts i hi;exact ⟨st,hI.ext hxw3⟩
 ·have h1:=gtN_le (allV F V' I) v;have h2:=allV_len (F:=F) (V':=V') (I:=I) (λi hi=>(hO.rng i hi).2);omega
 ·have:s=1:=by omega
  subst this;rw [Nat.sub_self,Nat.zero_mod];exact hK0.symm
 clear hBk3 hg3 hx3 hBk hx13 hxw3 hx2 hbk hJ hIts hp hK hI0 hp0;rintro same k key p w4 ⟨hg4,⟨sj,hJ4⟩,hIts4,hBk4,hp4,hK4,hv4,hmin,hs1,hs2,hsk,hbd,hsm⟩;refine ρ ?_;refine ci (λh1=>?_) (λh1=>?_)
 ·have hlt:same<I.length:=by have:=of_decide_eq_true h1;omega
  clear h1;have hB4:=hB w4 hg4;refine ρ ?_;refine rem (show ((I.length:Nat):Int)≠0 by omega) ?_;rw [tmod_nat];have lr:k % I.length<I.length:=Nat.mod_lt _ hne;refine ρ ?_;refine ix (k % I.length) hB4 lr ?_;refine ρ ?_;refine ld (hB4.cell (Qjm lr)) ?_;refine ρ ?_;obtain ⟨i,hi⟩:∃ i,i=I.getD (k % I.length) 0:=⟨_,rfl⟩;rw [<-hi];have him:i∈I:=by rw [hi];exact getD_mem' 0 I lr
  refine lds (cs:=key.cells) (λj u hu=>hBk4.at hu) ?_;refine ρ ?_;obtain ⟨sti,hIi⟩:=hIts4 i him;have hli:=hO.lev i him;have hri:=hO.rng i him;have hpi:=hp4 i him;have hTi:Off (λk=>k=F.G i) w4 (λu=>TriA u (F.A i) (F.d i) (F.rs i)):=((hT i him).gr hg4).mono λj _ ej=>.inr ⟨i,him,ej⟩;refine cl (itSeek_any (v:=key) hIi hTi hli.1 hli.2.1 hli.2.2 hpi.2 hri.1 hri.2 (λa b h1 h2 h3=>hO.srt i him a b (by omega) h2 h3)) ?_;rintro u w5 ⟨hg5,q,st5,rfl,hq1,hq2,hq3,hq4,hI5⟩;have hGi:∀ j∈I,j≠i->¬ (λk=>k=F.G i) (F.G j):=λj hj hji e=>hji (hO.inj j hj i him e);have hg45:GrN (NG F I J) w4 w5:=hg5.mono λj _ ej=>.inr ⟨i,him,ej⟩;have hIts5:Its F V' I w5 (upd p i q):=λj hj=>by
   by_cases e:j=i
   ·subst e;rw [Jjp];exact ⟨st5,hI5⟩
   ·rw [Jjl _ _ e];obtain ⟨st,hIj⟩:=hIts4 j hj;exact ⟨st,Jqb hIj hg5 (hGi j hj e)⟩
  have hJ5:=Jqb hJ4 hg5 (λe=>hJG i him e.symm);have hbkG:¬ (λk=>k=F.G i) bk:=λe=>by have h1:=hGlt i him;omega
  have hBk5:=Jqb hBk4 hg5 hbkG;have hgw5:=hg4.trans hg45;have before:∀ a,V'.lo i<=a->a<q->Jqh (F.val V' i a) key<0:=λa h1 h2=>by
   by_cases h3:a<p i
   ·exact hK4 i him a h1 h3
   ·exact hq3 a (by omega) h2
  refine ρ ?_;refine ci (λh1=>?_) (λh1=>?_)
  ·have hqe:¬ q<V'.e i:=by simpa using h1
   refine ρ ?_;refine Jjq ⟨hgw5,⟨sj,hJ5⟩,upd p i q,false,rfl,hIts5,λj hj=>?_,λe=>(by cases e),λ_ y hy hvy=>?_⟩
   ·by_cases e:j=i
    ·subst e;rw [Jjp];omega
    ·rw [Jjl _ _ e];have:=hp4 j hj;omega
   ·obtain ⟨a,h2,h3,h4⟩:=hy i him;have h5:=hmin y hy hvy;have h6:=before a h2 (by omega);rw [h4]at h6;have:=cmp_V.anti key y;omega
  have hqe:q<V'.e i:=by simpa using h1
  have hq5:=hq4 hqe;clear h1;refine ρ ?_;refine cl (itKey_any hI5 (hTi w5 hg5) hli.2.1 hli.2.2 (λ_=>hri.1)) ?_;rintro u w6 ⟨hx6,nx,rfl,hnx⟩;have hnx':nx=F.val V' i q:=hnx ⟨hli.1,hqe⟩;rw [decide_eq_true (show 0<V'.L i/\q<V'.e i from ⟨hli.1,hqe⟩)];refine ρ ?_;refine alc (cs:=V0.cells) zVal ?_;intro w7 b7 hx7 hb7 hB7;refine ρ ?_;refine stb (cs':=nx.cells) hB7 ?_ (V.one _);intro w8 hB8 hg8 hx8;have hx58:Ext w5 w8:=hx6.trans (hx8 w6 hx7 hb7);have hJ8:=hJ5.ext hx58;refine ρ ?_;refine ld (hJ8.at (i:=2) rfl) ?_;refine ρ ?_;refine sto (p:=⟨J,2,none⟩) (hJ8.cell 2) (hJ8.frozen _) ?_;have hJ9:=hJ8.set 2 (.int .i64 (IntKind.i64.wrap (sj+1)));have hgJ:GrN (NG F I J) w8 (w8.setCell ⟨J,2,none⟩ (.int .i64 (IntKind.i64.wrap (sj+1)))):=GrN.set _ (.inl rfl);have hb7w:w.heap.size<=b7:=Nat.le_trans hgw5.size (Nat.le_trans hx6.size hb7);have hB9:Blk (w8.setCell ⟨J,2,none⟩ (.int .i64 (IntKind.i64.wrap (sj+1)))) b7 71 nx.cells:=hB8.far (by simp only;omega) _
  have hBk9:Blk (w8.setCell ⟨J,2,none⟩ (.int .i64 (IntKind.i64.wrap (sj+1)))) bk 71 key.cells:=(hBk5.ext hx58).far (by simp only;omega) _;have hIts9:Its F V' I (w8.setCell ⟨J,2,none⟩ (.int .i64 (IntKind.i64.wrap (sj+1)))) (upd p i q):=λj hj=>by
   obtain ⟨st,hIj⟩:=hIts5 j hj;exact ⟨st,(hIj.ext hx58).far (hJG j hj) _⟩
  have hgw9:=(hgw5.trans (GrN.ext hx58)).trans hgJ;clear hg8 hx8 hB8 hB7 hx7 hx6 hJ8;generalize w8.setCell ⟨J,2,none⟩ (.int .i64 (IntKind.i64.wrap (sj+1)))=w9 at *
  have hpu:∀ j∈I,V'.lo j<=upd p i q j/\upd p i q j<V'.e j:=λj hj=>by
   by_cases e:j=i
   ·subst e;rw [Jjp];have:=hp4 j hj;omega
   ·rw [Jjl _ _ e];exact hp4 j hj
  refine ρ ?_;refine lds (cs:=nx.cells) (λj u hu=>hB9.at hu) ?_;refine ρ ?_;refine lds (cs:=key.cells) (λj u hu=>hBk9.at hu) ?_;refine ρ ?_;refine cl (Jxl nx key _) ?_;rintro u w10 ⟨rfl,hx10⟩;refine ρ ?_;have hJ10:JB w10 J jr ja yv:=⟨_,hJ9.ext hx10⟩;have hIts10:Its F V' I w10 (upd p i q):=λj hj=>by
   obtain ⟨st,hIj⟩:=hIts9 j hj;exact ⟨st,hIj.ext hx10⟩
  refine ci (λh1=>?_) (λh1=>?_)
  ·have henx:nx=key:=cmp_V.zero _ _ (Jqj h1);refine ρ ?_;refine Jyd (same+1) (k+1) key (upd p i q) sO ⟨hgw9.trans (GrN.ext hx10),hJ10,hIts10,hBk9.ext hx10,hpu,λj hj a h2 h3=>?_,hv4,hmin,by omega,by omega,by omega,by omega,λs h2 h3=>?_⟩ (by omega)
   ·by_cases e:j=i
    ·subst e;rw [Jjp]at h3;exact before a h2 h3
    ·rw [Jjl _ _ e]at h3;exact hK4 j hj a h2 h3
   ·by_cases e:s=1
    ·subst e;rw [Nat.add_sub_cancel,<-hi,Jjp,<-hnx',henx]
    ·have h4:k+1-s=k-(s-1):=by omega
     rw [h4];have h5:(k-(s-1)) % I.length<I.length:=Nat.mod_lt _ hne;have h6:I.getD ((k-(s-1)) % I.length) 0≠i:=λe2=>by
      rw [hi,Jjh 0 I h5,Jjh 0 I lr]at e2;have e3:=nodup_inj hnd h5 lr e2;exact mod_ne (n:=I.length) (k:=k) (s:=s-1) (by omega) (by omega) (by omega) e3
     rw [Jjl _ _ h6];exact hsm (s-1) (by omega) (by omega)
  ·have hne':=Jqk h1;have hlt':Jqh key nx<0:=by
    have h2:=cmp_V.anti nx key;have h3:¬ Jqh nx key<0:=by rw [hnx'];exact hq5
    omega
   have hgt:=gtN_lt (U:=allV F V' I) (by rw [hnx'];exact allV_mem him (by omega) hqe) hlt';have hBk10:=hBk9.ext hx10;refine ρ ?_;refine lds (cs:=nx.cells) (λj u hu=>(hB9.ext hx10).at hu) ?_;refine ρ ?_;refine stb (cs':=nx.cells) hBk10 ?_ (V.one _);intro w11 hBk11 hg11 hx11;have hnbk:∀ {g:Nat},g<w.heap.size->some g≠some bk:=fun {g} hg e=>by injection e with e;omega
   refine ρ ?_;refine Jyd 1 (k+1) nx (upd p i q) sO ⟨(hgw9.trans (GrN.ext hx10)).newBy hg11 hbkw,?_,λj hj=>?_,hBk11,hpu,λj hj a h2 h3=>?_,?_,λy hy hvy=>?_,Nat.le_refl _,hne,by omega,by omega,λs h2 h3=>?_⟩ (by omega)
   ·obtain ⟨st,hJ⟩:=hJ10;exact ⟨st,hJ.grown hg11 (hnbk hJlt)⟩
   ·obtain ⟨st,hIj⟩:=hIts10 j hj;exact ⟨st,hIj.grown hg11 (hnbk (hGlt j hj))⟩
   ·by_cases e:j=i
    ·subst e;rw [Jjp]at h3;exact cmp_V.lt_trans (before a h2 h3) hlt'
    ·rw [Jjl _ _ e]at h3;exact cmp_V.lt_trans (hK4 j hj a h2 h3) hlt'
   ·exact cmpV_le_trans hv4 (by omega)
   ·obtain ⟨a,h2,h3,h4⟩:=hy i him;have h5:=hmin y hy hvy;have h6:q<=a:=by
     rcases Nat.lt_or_ge a q with h7|h7
     ·have h8:=before a h2 h7;rw [h4]at h8;have:=cmp_V.anti key y;omega
     ·exact h7
    rw [hnx',<-h4];by_cases e:a=q
    ·subst e;rw [Jqn];omega
    ·have:=hO.srt i him q a (by omega) (by omega) h3;omega
   ·have:s=1:=by omega
    subst this;rw [Nat.add_sub_cancel,<-hi,Jjp];exact hnx'.symm
 ·have heq:same=I.length:=by have:=of_decide_eq_false h1;omega
  refine ρ ?_;refine Jjq ⟨hg4,⟨sj,hJ4⟩,p,true,rfl,hIts4,λi hi=>⟨(hp4 i hi).1,Nat.le_of_lt (hp4 i hi).2⟩,λ_=>⟨key,λi hi=>⟨(hp4 i hi).2,?_⟩,hv4,hmin⟩,λe=>by cases e⟩;obtain ⟨r,hr,er⟩:=List.getElem_of_mem hi;obtain ⟨s,h1,h2,h3⟩:=mod_all hr (show I.length<=k by omega);have:=hsm s h1 (by omega);rw [h3,Jjh 0 I hr,er]at this;exact this
end Go.Proofs.YtefpailelagbkaaGreatDoor
