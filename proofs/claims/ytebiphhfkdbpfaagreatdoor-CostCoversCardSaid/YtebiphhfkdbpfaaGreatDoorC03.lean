/- Part 3. -/
import Derived.Test.YtebiphhfkdbpfaaGreatDoorC02
import Derived.Maps.RangeWalk
import Derived.Laws.BitsAllLaws
set_option linter.unusedVariables false
set_option maxRecDepth 100000
set_option maxHeartbeats 40000000
namespace Go.Proofs.YtebiphhfkdbpfaaGreatDoor
open Go.RowKit Pl Go.Wk
attribute [local irreducible] WC WL QX WD WDB WP WN
section
variable {w:World} {g:Nat} {A:Option Addr} {d L p e:Nat} {f h:Nat->Nat} {st:Int} {rs:List Row}
theorem Qsd{v:V}(hB:ItB w g A d L p e f h st)(hT:Off (λk=>k=g) w (λu=>TriA u A d rs))(hL:0<L)(hLd:L<=d)(hd:d<=32)(hpe:p<e)(he:e<=(lvl rs (L-1)).length)(hm:e<=1000000)(hs:∀ i j,p<=i->i<j->j<e->cmpV ((lvl rs (L-1)).getD i V0) ((lvl rs (L-1)).getD j V0)<0):
  Ret Tryz.prog 242 [.pointer (some ⟨g,0,none⟩),v.val] w λu w'=>GrN (λk=>k=g) w w'/\∃ q st',u=.bool (decide (q<e))/\p<=q/\q<=e/\(∀ i,p<=i->i<q->cmpV ((lvl rs (L-1)).getD i V0) v<0)/\(q<e->¬ cmpV ((lvl rs (L-1)).getD q V0) v<0)/\ItB w' g A d L q e f h st':=by
 obtain⟨val,ax⟩:∃ val:Nat->V,val=λi=>(lvl rs (L-1)).getD i V0:=⟨_,rfl⟩;have a9:∀ i,(lvl rs (L-1)).getD i V0=val i:=λi=>by rw[ax]
 simp only[a9]at hs ⊢;have below:∀ {y i:Nat},p<=i->i<=y->y<e->cmpV (val y) v<0->cmpV (val i) v<0:=fun {y i} G h2 h3 h4=>by
  by_cases e':i=y
  .subst e';exact h4
  exact cmp_V.lt_trans (hs i y G om h3) h4
 refine Jz Tryz.func242 Tryz.ntmps242 rfl kr rfl ?_;refine ρ ?_;refine bx (cs:=v.cells) ?_;intro w1 b aw hb b7;have b6:b≠g:=by have:=hB.lt;omega
 have aa:¬ (λk=>k=g) b:=b6;refine ρ ?_;refine cl (Jxl (hB.ext aw)) ?_;rintro u w2 ⟨rfl,av⟩;have ag:=aw.trans av;have b8:=hB.ext ag;have hg2:GrN (λk=>k=g) w w2:=GrN.ext ag;refine ρ ?_;refine cf ?_ ?_
 .simp[hL,hpe]
 refine ρ ?_;refine drN (λ_=>False) 10 [(0,0),(0,1),(0,2),(0,3),(0,4),(0,5),(0,6),(2,7),(2,8)] kr ?_;have ai:Ext w2 w2.drew:=(Ext.refl w2).drew;have an:=b8.ext ai;have a6:=(b7.ext av).ext ai;have am:=hg2.trans (GrN.ext ai);refine ρn ?_;refine nld (Qy (an.at (i:=2) rfl) (λe=>e)) ?_;refine ρn ?_;refine Vu (cs:=v.cells) (λw' hg j u hu=>(Jr a6 hg (λe=>e)).at hu) ?_;refine ρn ?_;refine Xu ?_;refine cl (Jhg (q:=p) (qi:=(p:Int)) an (hT.gr am) hL hLd hd om rfl) ?_;rintro u w4 ⟨rfl,ak,ar,af⟩;have ah:=Jr a6 ak aa;have a3:=am.trans ak;refine ρ ?_;refine Uh ?_;refine Xu ?_;refine ρ ?_;rw[a9];refine ci (λG=>?_) (λG=>?_)
 .have h2:¬ cmpV (val p) v<0:=by simpa using G
  refine ρ ?_;refine Jq ⟨a3,p,ar,by rw[decide_eq_true hpe],Nat.le_refl _,om,λi G h2=>om,λ_=>h2,af⟩
 have h2:cmpV (val p) v<0:=by simpa using G
 clear G;refine ρ ?_;refine ld (af.at (i:=2) rfl) ?_;refine ρ ?_;refine Xf (fun (y step:Nat) (st:Int)=>[(0,.pointer (some ⟨g,0,none⟩)),(3,.pointer (some ⟨b,0,none⟩)),(5,.int .i64 (y:Int)),(6,.int .i64 (step:Int))])
  (λy step st w'=>GrN (λk=>k=g) w w'/\ItB w' g A d L p e f h st/\Blk w' b 102 v.cells/\p<=y/\y<e/\cmpV (val y) v<0/\1<=step/\step<=2000000) (λy _ _=>e-y) p 1 ar sB
  ⟨a3,af,ah,Nat.le_refl _,hpe,h2,Nat.le_refl _,om⟩ ?_
 clear af ah a3 ak an a6 am;rintro y step b1 w5 ⟨ac,ae,J,ab,b4,Z,b3,b2⟩;refine ρ ?_;refine ld (ae.at (i:=3) rfl) ?_;refine ρ ?_;refine Qyv (fun (t:Bool) (st:Int)=>[(0,.pointer (some ⟨g,0,none⟩)),(3,.pointer (some ⟨b,0,none⟩)),(5,.int .i64 (y:Int)),(6,.int .i64 (step:Int)),(42,.bool t)])
  (λt st w'=>GrN (λk=>k=g) w w'/\ItB w' g A d L p e f h st/\Blk w' b 102 v.cells/\(t=true->y+step<e/\cmpV (val (y+step)) v<0)/\(t=false->e<=y+step∨¬ cmpV (val (y+step)) v<0)) ?_ ?_
 .refine ki 35 (λG=>?_) (λG=>?_)
  .have h3:y+step<e:=by have:=oT G;omega
   refine ρ ?_;refine lds (cs:=v.cells) (λj u hu=>J.at hu) ?_;refine ρ ?_;refine cl (Jhg (q:=y+step) (qi:=(y:Int)+(step:Int)) ae (hT.gr ac) hL hLd hd om om) ?_;rintro u w6 ⟨rfl,hg6,a8,U⟩;refine ρ ?_;rw[a9];refine Xe _ a8 sB ⟨ac.trans hg6,U,Jr J hg6 aa,λh'=>⟨h3,of_decide_eq_true h'⟩,λh'=>.inr (oF h')⟩
  refine ρ ?_;exact Xe false b1 sB ⟨ac,ae,J,λh'=>(by cases h'),λ_=>.inl (by grind)⟩
 clear ac ae J;rintro t a8 w6 ⟨hg6,U,a5,az,ay⟩;refine ci (λG=>?_) (λG=>?_)
 .obtain⟨h3,h4⟩:=az G;refine ρ ?_;exact Qn (y+step) (step*2) a8 sO ⟨hg6,U,a5,om,om,h4,om,om⟩ om
 have h3:=ay G;clear az ay G;refine ρ ?_;refine ld (U.at (i:=3) rfl) ?_;refine ρ ?_;have b5:∃ hi:Nat,(if(e:Int)<(y:Int)+(step:Int) then(e:Int) else(y:Int)+(step:Int))=(hi:Int)/\y<hi/\hi<=e/\(hi<e->¬ cmpV (val hi) v<0):=by
  by_cases h4:e<y+step
  repeat grind
 obtain⟨hi,ao,aj,a2,a1⟩:=b5;rw[ao];refine Xf (fun (y hi:Nat) (st:Int)=>[(0,.pointer (some ⟨g,0,none⟩)),(3,.pointer (some ⟨b,0,none⟩)),(5,.int .i64 (y:Int)),(7,.int .i64 (hi:Int))])
  (λy hi st w'=>GrN (λk=>k=g) w w'/\ItB w' g A d L p e f h st/\Blk w' b 102 v.cells/\p<=y/\cmpV (val y) v<0/\y<hi/\hi<=e/\(hi<e->¬ cmpV (val hi) v<0)) (λy hi _=>hi-y) y hi a8 sB
  ⟨hg6,U,a5,ab,Z,aj,a2,a1⟩ ?_
 clear hg6 U a5 ab b4 Z b3 b2 h3 aj a2 a1 ao;rintro B D aq w7 ⟨hg7,ad,a4,ab,Z,aj,a2,a1⟩;refine ρ ?_;refine ci (λG=>?_) (λG=>?_)
 .have ba:B+1<D:=by have:=oT G;omega
  refine ρ ?_;refine qn (D-B) 2 ?_;refine ρ ?_;have b9:B<B+(D-B) / 2/\B+(D-B) / 2<D:=om
  generalize hmm:(D-B) / 2=m at *
  refine lds (cs:=v.cells) (λj u hu=>a4.at hu) ?_;refine ρ ?_;refine cl (Jhg (q:=B+m) (qi:=(B:Int)+(m:Int)) ad (hT.gr hg7) hL hLd hd om om) ?_;rintro u w8 ⟨rfl,O,ap,a7⟩;refine ρ ?_;rw[a9];refine ci (λh2=>?_) (λh2=>?_)
  .refine ρ ?_;exact Qn (B+m) D ap sO ⟨hg7.trans O,a7,Jr a4 O aa,om,of_decide_eq_true h2,om,a2,a1⟩ om
  refine ρ ?_;exact Qn B (B+m) ap sO ⟨hg7.trans O,a7,Jr a4 O aa,ab,Z,om,om,λ_=>oF h2⟩ om
 have ao:D=B+1:=by have:=oF G;omega
 refine ρ ?_;refine sto (p:=⟨g,2,none⟩) (ad.cell 2) (ad.frozen _) ?_;have a7:ItB (w7.setCell ⟨g,2,none⟩ (.int .i64 (D:Int))) g A d L D e f h aq:=ad.set 2 (.int .i64 (D:Int));have O:GrN (λk=>k=g) w (w7.setCell ⟨g,2,none⟩ (.int .i64 (D:Int))):=hg7.trans (GrN.set _ rfl);refine ρ ?_;refine cl (Jxl a7) ?_;rintro u w9 ⟨rfl,au⟩;refine ρ ?_;refine Jq ⟨O.trans (GrN.ext au),D,aq,?_,om,a2,λi G h2=>below G (show i<=B by omega) om Z,a1,a7.ext au⟩;grind
end
open Go.RowKit Pl Go.Wk
variable {j:Nat}{u:Value}
theorem Qyk: Qe Tryz.prog 316=some (.agg #[.int .i64 0,.int .i64 0]):=kr
theorem Qvg(x y:Int)(w:World): (Instr.build 316 #[(0,.int .i64 x),(1,.int .i64 y)]).run Tryz.prog w=.ok (.agg #[.int .i64 x,.int .i64 y]) w:=kr
theorem Jys{x y:Int}: ∀ u∈[Value.int .i64 x,.int .i64 y],u.oneCell'=true:=by intro u i;simp at i;rcases i with rfl|rfl<;>rfl
section
variable {w:World} {g:Nat} {A:Option Addr} {d L p e:Nat} {f h:Nat->Nat} {st:Int} {rs:List Row}
theorem Jpd(w:World): Ret Tryz.prog 241 [.agg #[.slice A d d]] w λu w'=>u=.int .i64 (d:Int)/\Ext w w':=by
 refine Jz Tryz.func241 Tryz.ntmps241 rfl kr rfl ?_;refine ρ ?_;refine bx ?_;intro w1 b j B y;refine ρ ?_;refine ld (y.at (i:=0) rfl) ?_;refine ρ ?_;exact Jq ⟨rfl,j⟩
def Yn(rs:List Row)(L p:Nat): Row:=if L=0 then[] else(pfx rs L).getD p []
theorem Jhf(hB:ItB w g A d L p e f h st)(hu:[Value.slice A d d][j]?=some u): w.cell? (((⟨g,0,none⟩:Addr).add 0).add j)=some u:=by
 match j,hu with
 | 0,hu=>rw[add_zero,add_zero,hB.cell];exact hu
 | j+1,hu=>simp at hu
theorem it_at(hB:ItB w g A d L p e f h st)(hu:[Value.int .i64 (p:Int),.int .i64 (e:Int)][j]?=some u): w.cell? (((⟨g,0,none⟩:Addr).add 2).add j)=some u:=by
 match j,hu with
 | 0,hu=>rw[add_zero,Zm,hB.cell];exact hu
 | 1,hu=>rw[Zm,Zm,hB.cell];exact hu
 | j+2,hu=>simp at hu
theorem Qsf(hB:ItB w g A d L p e f h st)(hT:Off (λk=>k=g) w (λu=>TriA u A d rs))(hLd:L<d)(hd:d<=32)(hpe:0<L->p<e/\e<=(pfx rs L).length)(hrs:rs≠[])(hsrt:Srt [] rs)(hm:rs.length<=1000000)(hlen:∀ r∈rs,r.length=d):
  Ret Tryz.prog 225 [.pointer (some ⟨g,0,none⟩)] w λu w'=>u=.bool true/\GrN (λk=>k=g) w w'/\∃ lo hi,lo<hi/\hi<=(pfx rs (L+1)).length/\(∀ i,i<(pfx rs (L+1)).length->(((pfx rs (L+1)).getD i []).take L=Yn rs L p↔lo<=i/\i<hi))/\ItB w' g A d (L+1) lo hi (upd f L p) (upd h L e) st:=by
 refine Jz Tryz.func225 Tryz.ntmps225 rfl kr rfl ?_;refine ρ ?_;refine Qyw [(0,.pointer (some ⟨g,0,none⟩)),(30,.bool false)] (λw'=>Ext w w') ?_ ?_
 .refine dr [(0,0),(0,1),(0,2),(0,3),(0,4),(0,5),(0,6),(0,7),(0,8),(0,9),(1,10),(0,11),(0,12),(0,13),(0,14),(0,15),(0,16),(0,17),(0,18),(0,19),(0,20),(0,21),(0,22),(1,23),(0,24),(0,25)] kr ?_;have O:Ext w w.drew:=(Ext.refl w).drew;have G:=hB.ext O;refine ρd ?_;refine dpnl ?_;refine ρd ?_;refine dld (G.at (i:=1) rfl) ?_;refine ρd ?_;have rest:∀(al:AL) (w2:World),True:=λ_ _=>trivial;refine dki 13 (λh1=>?_) (λh1=>?_)
  .have D:0<L:=by have:=oT h1;omega
   refine ρd ?_;refine dcl (Jxl G) ?_;rintro u w2 ⟨rfl,Z⟩;refine⟨Z,?_⟩;have au:=G.ext Z;refine ρd ?_;refine dkf 19 ?_ ?_
   .have:=hpe D;simp[D,this.1]
   refine ρd ?_;refine dld (au.at (i:=1) rfl) ?_;refine ρd ?_;refine Qb (cs:=[.slice A d d]) (λj u hu=>Jhf au hu) ?_;refine ρd ?_;refine dcl (Jpd _) ?_;rintro u w3 ⟨rfl,U⟩;refine⟨U,?_⟩;refine ρd ?_;refine ρ ?_;refine Jsk (Sub.cons rfl (Sub.cons ?_ Sub.nil)) ((O.trans Z).trans U);exact congrArg (λz=>some (Value.bool z)) (dF om)
  have D:L=0:=by have:=oF h1;omega
  refine ρd ?_;refine dld (G.at (i:=1) rfl) ?_;refine ρd ?_;refine Qb (cs:=[.slice A d d]) (λj u hu=>Jhf G hu) ?_;refine ρd ?_;refine dcl (Jpd _) ?_;rintro u w3 ⟨rfl,U⟩;refine⟨U,?_⟩;refine ρd ?_;refine ρ ?_;refine Jsk (Sub.cons rfl (Sub.cons ?_ Sub.nil)) (O.trans U);exact congrArg (λz=>some (Value.bool z)) (dF om)
 intro w1 ab;have a3:=hB.ext ab;obtain⟨vv,fv,fs,hR,hv,hf,hc⟩:=(hT.ext ab).here;have bc:(pfx rs (L+1)).length<=1000000:=by
  have:=Jwv (rs.map (List.take (L+1)));rw[List.length_map]at this;exact nL this hm
 refine ρ ?_;refine lds (cs:=[.slice A d d]) (λj u hu=>Jhf a3 hu) ?_;refine ρ ?_;refine cl (Jdk (l:=0) (vs:=lvl rs) hR (λl hl=>by obtain⟨B,c,e,_⟩:=hv l hl;exact⟨B,c,e⟩) rfl hd) ?_;rintro u w2 ⟨rfl,Z⟩;rw[if_pos (show 0<d by omega),Jxv];refine ρ ?_;refine bld (Qvg _ _ _) ?_;refine ρ ?_;refine alc Qyk ?_;intro w3 b U hb b5;refine ρ ?_;refine stb b5 ?_ (Jys (x:=0) (y:=((pfx rs (0+1)).length:Int)));intro w4 a6 az ae;have a1:Ext w1 w4:=(Z.trans (ae w2 U hb));have ar:=a3.ext a1;have ax:b≠g:=by have:=a3.lt;have:=Z.size;omega
 refine ρ ?_;refine ld (ar.at (i:=1) rfl) ?_;refine ρ ?_;refine Gn (fun (lo hi:Nat)=>[(0,.pointer (some ⟨g,0,none⟩)),(3,.pointer (some ⟨b,0,none⟩))])
  (λlo hi w'=>Ext w1 w'/\Blk w' b 316 [.int .i64 (lo:Int),.int .i64 (hi:Int)]/\hi<=(pfx rs (L+1)).length/\∀ i,i<(pfx rs (L+1)).length->(((pfx rs (L+1)).getD i []).take L=Yn rs L p↔lo<=i/\i<hi)) ?_ ?_
 .refine ci (λh1=>?_) (λh1=>?_)
  .have D:0<L:=by have:=oT h1;omega
   obtain⟨k,rfl⟩:∃ k,L=k+1:=⟨L-1,om⟩;have lk:k<d:=om
   obtain⟨ba,b9⟩:=hpe D;obtain⟨F,fc,b1,b4⟩:=hf k lk;have a8:=hc k om;obtain⟨c1,c2,c3⟩:=a8;have bb:p<=1000000:=by
    have:=Jwv (rs.map (List.take (k+1)));rw[List.length_map]at this;have h4:(pfx rs (k+1)).length<=rs.length:=this;omega
   have lp:p<(fs k).length:=om
   have a7:p+1<(fs k).length:=om
   refine ρ ?_;refine drN (λ_=>False) 10 [(0,0),(0,1),(0,2),(0,3),(0,4),(0,5),(0,6),(0,7),(0,8),(0,9),(0,10),(0,11),(0,12),(0,13)] kr ?_;have a5:=a1.drew;have G:=a3.ext a5;have aj:=hR.ext a5;have b3:w4.drew.cell? ((adr A (k*2)).add 1)=some (fv k):=by rw[Gh];exact aj.cell (Gb d vv fv lk).2
   refine ρn ?_;refine nld (Qy (G.at (i:=0) rfl) (λe=>e)) ?_;refine ρn ?_;refine nld (Qy (G.at (i:=1) rfl) (λe=>e)) ?_;refine ρn ?_;refine Ul 2 k aj lk ?_;refine ρn ?_;refine nld (Qy b3 (λe=>e)) ?_;rw[b1];refine ρn ?_;refine ρ ?_;refine drN (λ_=>False) 10 [(0,0),(0,1),(0,2),(0,3),(0,4),(0,5),(0,6),(0,7),(0,8),(0,9),(0,10),(0,11),(0,12),(0,13),(0,14),(0,15),(0,16),(1,17),(2,18)] kr ?_;have a4:=a5.drew;have ak:=a3.ext a4;have a9:=b4.ext a4;have am:=(a6.ext (Ext.refl w4).drew).ext (Ext.refl w4.drew).drew;refine ρn ?_;refine nld (Qy (ak.at (i:=2) rfl) (λe=>e)) ?_;refine ρn ?_;refine nix p a9 lp ?_;refine ρn ?_;refine nld (Qy (a9.cell (Qs lp)) (λe=>e)) ?_;refine ρn ?_;refine nld (Qy (ak.at (i:=2) rfl) (λe=>e)) ?_;refine ρn ?_;refine nix (p+1) a9 a7 ?_;refine ρn ?_;refine nld (Qy (a9.cell (Qs a7)) (λe=>e)) ?_;refine ρn ?_;refine nop ?_
   refine bld (Qvg _ _ _) ?_;refine ρ ?_;refine Qg (GrN.refl _ _) ?_;refine ρn ?_;refine Xu ?_;refine stb am ?_ (Jys (x:=(((fs k).getD p 0:Nat):Int)) (y:=(((fs k).getD (p+1) 0:Nat):Int)));intro w5 J bd av;refine ρ ?_;refine Xe ((fs k).getD p 0) ((fs k).getD (p+1) 0) sB ⟨av w1 a4 (nL Z.size hb),J,c2 _ a7,λi hi=>?_⟩;rw[c3 p i a7 hi |>.symm,Yn,if_neg om]
  have D:L=0:=by have:=oF h1;omega
  subst D;refine ρ ?_;refine Xe 0 (pfx rs (0+1)).length sB ⟨a1,a6,Nat.le_refl _,λi hi=>?_⟩;rw[Yn,if_pos rfl,List.take_zero];exact⟨λ_=>⟨Nat.zero_le _,hi⟩,λ_=>rfl⟩
 clear az ae ar a1 a6;rintro lo hi w5 ⟨aa,J,aw,a8⟩;have ac:lo<hi:=by
  have b2:∃ i,i<(pfx rs (L+1)).length/\((pfx rs (L+1)).getD i []).take L=Yn rs L p:=by
   have hr:∃ r∈rs,r.take L=Yn rs L p:=by
    by_cases D:L=0
    .subst D;obtain⟨r,hr⟩:=List.exists_mem_of_ne_nil rs hrs;exact⟨r,hr,by rw[Yn,if_pos rfl,List.take_zero]⟩
    have:=hpe om;rw[Yn,if_neg D];exact(Jkn hsrt).1 (getD_mem' [] _ om)
   obtain⟨r,hr,er⟩:=hr;obtain⟨i,hi,ei⟩:=List.getElem_of_mem ((Jkn hsrt (l:=L+1)).2 ⟨r,hr,rfl⟩);refine⟨i,hi,?_⟩;rw[Ql [] _ hi,ei,List.take_take,Nat.min_eq_left om,er]
  obtain⟨i,hi,ei⟩:=b2;have:=(a8 i hi).1 ei;omega
 have b8:=a3.ext aa;refine ρ ?_;refine ld (J.at (i:=0) rfl) ?_;refine ρ ?_;refine ld (J.at (i:=1) rfl) ?_;refine ρ ?_;refine cf ?_ ?_
 .exact Jcq om
 refine ρ ?_;refine drN (λ_=>False) 10 [(0,0),(0,1),(0,2),(0,3),(0,4),(0,5),(0,6),(0,7),(0,8),(0,9),(0,10),(0,11),(2,12)] kr ?_;have O:Ext w5 w5.drew:=(Ext.refl w5).drew;have ad:=b8.ext O;have ao:=J.ext O;refine ρn ?_;refine nld (Qy (ad.at (i:=1) rfl) (λe=>e)) ?_;refine ρn ?_;refine Vu (cs:=[.int .i64 (p:Int),.int .i64 (e:Int)]) (λw' hg j u hu=>it_at (Jr ad hg (λe=>e)) hu) ?_;refine ρn ?_;refine nixa L (show L<32 by omega) ?_;refine ρn ?_;refine Xu ?_;have af:=seg2 (cs:=itC A d L p e f h st) (o:=4+L*2) (u:=.int .i64 (p:Int)) (v:=.int .i64 (e:Int)) (by rw[Jbm];omega);refine stB (o:=4+L*2) (us:=[.int .i64 (p:Int),.int .i64 (e:Int)]) ad (by rw[Jbm];simp only[List.length_cons,List.length_nil];omega) Jys ?_ (hp:=(Zm g (0+4) (L*2)).trans (by rw[Nat.zero_add]));intro w7 aq hg7;have ap:ItB w7 g A d L p e (upd f L p) (upd h L e) st:=by
  have e1:(itC A d L p e f h st).take (4+L*2)++[Value.int .i64 (p:Int),.int .i64 (e:Int)]++(itC A d L p e f h st).drop (4+L*2+[Value.int .i64 (p:Int),.int .i64 (e:Int)].length)=itC A d L p e (upd f L p) (upd h L e) st:=by
   rw[<-Qsj A d L p e f h st (show L<32 by omega) p e];exact af
  rw[e1]at aq;exact aq
 have an:=ao.grown hg7 (λe=>ax (by injection e));have ai:GrN (λk=>k=g) w w7:=(GrN.ext ((ab.trans aa).trans O)).trans (GrN.by hg7 λk e=>by injection e with e;exact e.symm);refine ρ ?_;refine ldW an ?_;refine ρ ?_;refine stB (o:=2) (us:=[.int .i64 (lo:Int),.int .i64 (hi:Int)]) ap (by rw[Jbm];simp) Jys ?_;intro w8 b7 ay;have a2:ItB w8 g A d L lo hi (upd f L p) (upd h L e) st:=b7;have ah:=ai.trans (GrN.by ay λk e=>by injection e with e;exact e.symm);refine ρ ?_;refine ld (a2.at (i:=1) rfl) ?_;refine ρ ?_;refine sto (p:=⟨g,1,none⟩) (a2.cell 1) (a2.frozen _) ?_;have b6:ItB (w8.setCell ⟨g,1,none⟩ (.int .i64 ((L:Int)+1))) g A d (L+1) lo hi (upd f L p) (upd h L e) st:=a2.set 1 (.int .i64 ((L:Int)+1));have ag:GrN (λk=>k=g) w (w8.setCell ⟨g,1,none⟩ (.int .i64 ((L:Int)+1))):=ah.trans (GrN.set _ rfl);refine ρ ?_;exact Jq ⟨rfl,ag,lo,hi,ac,aw,a8,b6⟩
end
open Go.RowKit Pl Go.Wk
variable {I:List Nat}{a i k:Nat}
def gtN(U:List V)(key:V): Nat:=(U.filter λy=>decide (cmpV key y<0)).length
theorem Qtm(U:List V)(key:V): gtN U key<=U.length:=List.length_filter_le _ _
theorem Qxn: ∀ {U:List V} {key key':V},key'∈U->cmpV key key'<0->gtN U key'<gtN U key
 | [],_,_,h,_=>by cases h
 | x::U,key,key',h,hlt=>by
  have mono:∀ U:List V,gtN U key'<=gtN U key:=λU=>by
   induction U with
   | nil=>exact Nat.le_refl _
   | cons y U ih=>
    unfold gtN at *;by_cases e:cmpV key' y<0
    .have:=cmp_V.lt_trans hlt e;grind
    repeat grind
  rcases List.mem_cons.1 h with rfl|h'
  .have:=mono U;grind [gtN,List.filter_cons_of_neg,Vs,List.filter_cons_of_pos,List.length_cons]
  have ih:=Qxn h' hlt;unfold gtN at *;by_cases e:cmpV key' x<0
  .have:=cmp_V.lt_trans hlt e;grind
  repeat grind
structure Fix where
 G: Nat->Nat
 A:Nat->Option Addr
 d:Nat->Nat
 rs:Nat->List Row
structure Lev where
 L: Nat->Nat
 lo:Nat->Nat
 e:Nat->Nat
 f:Nat->Nat->Nat
 h:Nat->Nat->Nat
def Fix.val(F:Fix)(V':Lev)(i a:Nat): V:=(lvl (F.rs i) (V'.L i-1)).getD a V0
def Jxc(F:Fix)(I:List Nat): List Value:=I.map λi=>.pointer (some ⟨F.G i,0,none⟩)
theorem Jxb{F:Fix}(h:k<I.length): (Jxc F I)[k]?=some (.pointer (some ⟨F.G (I.getD k 0),0,none⟩)):=by simp[Jxc,List.getD,List.getElem?_eq_getElem h]
structure OnS(F:Fix)(V':Lev)(I:List Nat): Prop where
 lev:∀ i∈I,0<V'.L i/\V'.L i<=F.d i/\F.d i<=32
 rng:∀ i∈I,V'.e i<=(lvl (F.rs i) (V'.L i-1)).length/\V'.e i<=1000000
 srt:∀ i∈I,∀ a b,V'.lo i<=a->a<b->b<V'.e i->cmpV (F.val V' i a) (F.val V' i b)<0
 inj:∀ i∈I,∀ j∈I,F.G i=F.G j->i=j
 len:I.length<=32
def NG(F:Fix)(I:List Nat)(J:Nat)(k:Nat): Prop:=k=J∨∃ i∈I,k=F.G i
def Its(F:Fix)(V':Lev)(I:List Nat)(w:World)(p:Nat->Nat): Prop:=∀ i∈I,∃ st,ItB w (F.G i) (F.A i) (F.d i) (V'.L i) (p i) (V'.e i) (V'.f i) (V'.h i) st
def Cmn(F:Fix)(V':Lev)(I:List Nat)(y:V): Prop:=∀ i∈I,∃ a,V'.lo i<=a/\a<V'.e i/\F.val V' i a=y
def JB(w:World)(J:Nat)(jr ja yv:Value): Prop:=∃ st:Int,Blk w J 290 [jr,ja,.int .i64 st,yv]
def Jqg(F:Fix)(V':Lev)(I:List Nat): List V:=I.flatMap λi=>(List.range (V'.e i-V'.lo i)).map λa=>F.val V' i (V'.lo i+a)
theorem Xvd{F:Fix}{V':Lev}(hi:i∈I)(h1:V'.lo i<=a)(h2:a<V'.e i): F.val V' i a∈Jqg F V' I:=by
 refine List.mem_flatMap.2 ⟨i,hi,List.mem_map.2 ⟨a-V'.lo i,List.mem_range.2 om,?_⟩⟩;congr 1;omega
theorem Qvw{F:Fix}{V':Lev}: ∀ {I:List Nat},(∀ i∈I,V'.e i<=1000000)->(Jqg F V' I).length<=I.length*1000000
 | [],_=>Nat.le_refl _
 | i::I,h=>by
  have ih:=Qvw (F:=F) (V':=V') (I:=I) (λj hj=>h j (List.mem_cons_of_mem _ hj));grind [List.mem_cons_self,Jqg,List.length_append,List.length_map,List.length_range,List.length_cons]
theorem Xzh{a b c:V}(h1:cmpV a b<=0)(h2:cmpV b c<=0): cmpV a c<=0:=cmp_V.trans a b c h1 h2
theorem Qcm(k n:Nat): (k:Int).tmod (n:Int)=((k % n:Nat):Int):=by grind
open Go.RowKit Pl Go.Wk
variable {J b c i j k n r s:Nat}{w w' w'':World}
theorem _root_.Go.Wk.GrN.newBy{N:Nat->Prop}(h:GrN N w w')(hg:w'.grownBy w'' (some b))(hb:w.heap.size<=b): GrN N w w'' :=
 ⟨hg.os.trans h.os,hg.tape.trans h.tape,hg.output.trans h.output,Nat.le_trans h.size hg.size,λk i hn=>(hg.block k (nM i h.size) (λe=>by grind)).trans (h.block k i hn)⟩
theorem Qjc{α:Type}{l:List α}(h:l.Nodup)(hi:i<l.length)(hj:j<l.length)(e:l[i]=l[j]): i=j:=by grind [List.pairwise_iff_getElem.1,Nat.lt_trichotomy]
theorem Qpp(h1:1<=s)(h2:s<n)(h3:s<=k): (k-s) % n≠k % n:=by
 intro e;have u:(k-s+s) % n=(k-s) % n:=by grind
 have j:((k-s) % n+s) % n=(k-s) % n:=by grind [Nat.mod_add_mod]
 generalize hx:(k-s) % n=x at *
 have i:x<n:=by rw[<-hx];exact Nat.mod_lt _ om
 rcases Nat.lt_or_ge (x+s) n with h6|h6
 .grind [Nat.mod_eq_of_lt]
 rw[Nat.mod_eq_sub_mod h6,Nat.mod_eq_of_lt om]at j;omega
theorem Qpq(hr:r<n)(hk:n<=k): ∃ s,1<=s/\s<=n/\(k-s) % n=r:=by
 have y:k % n<n:=Nat.mod_lt _ om;have j:=Nat.div_add_mod k n;by_cases h:r<k % n
 .refine⟨k % n-r,om,om,?_⟩;have:k-(k % n-r)=n*(k / n)+r:=om
  rw[this,Nat.mul_add_mod,Nat.mod_eq_of_lt hr]
 refine⟨k % n+n-r,om,om,?_⟩;have u:1<=k / n:=by grind
 obtain⟨q,i⟩:∃ q,k / n=q+1:=⟨k / n-1,om⟩;rw[i,Nat.mul_succ]at j;have:k-(k % n+n-r)=n*q+r:=om
 rw[this,Nat.mul_add_mod,Nat.mod_eq_of_lt hr]
theorem Qjq{F:Fix}{V':Lev}{I:List Nat}{p:Nat->Nat}{jr ja yv:Value}{B:Option Addr}(hO:OnS F V' I)(hne:0<I.length)(hnd:I.Nodup)(hIts:Its F V' I w p)(hJ:JB w J jr ja yv)(hJG:∀ i∈I,F.G i≠J)(hT:∀ i∈I,Off (NG F I J) w (λu=>TriA u (F.A i) (F.d i) (F.rs i)))(hB:Off (NG F I J) w (λu=>Rd u 1 B I.length (Jxc F I)))(hp:∀ i∈I,V'.lo i<=p i/\p i<V'.e i)(hK:∀ i∈I,∀ a,V'.lo i<=a->a<p i->cmpV (F.val V' i a) (F.val V' (I.getD 0 0) (p (I.getD 0 0)))<0):
  Ret Tryz.prog 226 [.pointer (some ⟨J,0,none⟩),.slice B I.length c] w λu w'=>GrN (NG F I J) w w'/\JB w' J jr ja yv/\∃ p' t,u=.bool t/\Its F V' I w' p'/\(∀ i∈I,V'.lo i<=p' i/\p' i<=V'.e i) /\
   (t=true->∃ x,(∀ i∈I,p' i<V'.e i/\F.val V' i (p' i)=x)/\cmpV (F.val V' (I.getD 0 0) (p (I.getD 0 0))) x<=0/\∀ y,Cmn F V' I y->cmpV (F.val V' (I.getD 0 0) (p (I.getD 0 0))) y<=0->cmpV x y<=0) /\
   (t=false->∀ y,Cmn F V' I y->¬ cmpV (F.val V' (I.getD 0 0) (p (I.getD 0 0))) y<=0):=by
 have ac:I.getD 0 0∈I:=getD_mem' 0 I hne;obtain⟨K0,b4⟩:∃ K0,K0=F.val V' (I.getD 0 0) (p (I.getD 0 0)):=⟨_,rfl⟩;rw[<-b4]at hK ⊢;have co:=hO.len;have ar:∀ i∈I,F.G i<w.heap.size:=λi hi=>by obtain⟨st,O⟩:=hIts i hi;exact O.lt
 have bo:J<w.heap.size:=by obtain⟨st,O⟩:=hJ;exact O.lt
 refine Jz Tryz.func226 Tryz.ntmps226 rfl kr rfl ?_;refine ρ ?_;refine ix 0 hB.here hne ?_;refine ρ ?_;refine ld (hB.here.cell (Jxb hne)) ?_;refine ρ ?_;obtain⟨cu,bs⟩:=hIts _ ac;have ak:=hO.lev _ ac;have b1:=hp _ ac;have c6:=hO.rng _ ac;refine cl (Jhh bs (hT _ ac).here ak.2.1 ak.2.2 (λ_=>c6.1)) ?_;rintro u w1 ⟨be,v,rfl,hv⟩;have c5:=hv ⟨ak.1,b1.2⟩;have c4:v=K0:=by rw[c5,b4];rfl
 subst c4;rw[decide_eq_true (show 0<V'.L (I.getD 0 0)/\p (I.getD 0 0)<V'.e (I.getD 0 0) from⟨ak.1,b1.2⟩)];refine ρ ?_;refine alc (cs:=V0.cells) Jzs ?_;intro w2 bk bd b2 bu;refine ρ ?_;refine stb (cs':=v.cells) bu ?_ (V.one _);intro w3 av cg bc;have an:Ext w1 w3:=bc w1 bd b2;have a7:=be.trans an;have bj:w.heap.size<=bk:=nL be.size b2;refine ρ ?_;refine Kh (fun (same k:Nat) (key:V) (p:Nat->Nat)=>[(0,.pointer (some ⟨J,0,none⟩)),(1,.slice B I.length c),(5,.pointer (some ⟨bk,0,none⟩)),(7,.int .i64 (same:Int)),(8,.int .i64 (k:Int))])
  (λsame k key p w'=>GrN (NG F I J) w w'/\JB w' J jr ja yv/\Its F V' I w' p/\Blk w' bk 102 key.cells/\(∀ i∈I,V'.lo i<=p i/\p i<V'.e i)/\(∀ i∈I,∀ a,V'.lo i<=a->a<p i->cmpV (F.val V' i a) key<0)/\cmpV v key<=0/\(∀ y,Cmn F V' I y->cmpV v y<=0->cmpV key y<=0) /\
   1<=same/\same<=I.length/\same<=k/\k+(gtN (Jqg F V' I) key*33+(I.length-same))<=2000000000/\(∀ s,1<=s->s<=same->F.val V' (I.getD ((k-s) % I.length) 0) (p (I.getD ((k-s) % I.length) 0))=key)) (λsame k key p=>gtN (Jqg F V' I) key*33+(I.length-same)) 1 1 v p sB
  ⟨GrN.ext a7,?_,λi hi=>?_,av,hp,hK,by rw[Vs];omega,λy _ h'=>h',Nat.le_refl _,hne,Nat.le_refl _,?_,λs O h2=>?_⟩ ?_
 .obtain⟨st,hJ⟩:=hJ;exact⟨st,hJ.ext a7⟩
 .obtain⟨st,hI⟩:=hIts i hi;exact⟨st,hI.ext a7⟩
 .have O:=Qtm (Jqg F V' I) v;have h2:=Qvw (F:=F) (V':=V') (I:=I) (λi hi=>(hO.rng i hi).2);omega
 .have:s=1:=om
  subst this;rw[Nat.sub_self,Nat.zero_mod];exact b4.symm
 clear av cg bc bu an a7 bd b2 hJ hIts hp hK bs b1;rintro same k key p w4 ⟨am,⟨sj,bq⟩,a5,au,a3,b3,ay,a9,cy,cx,cw,d3,bf⟩;refine ρ ?_;refine ci (λO=>?_) (λO=>?_)
 .have d1:same<I.length:=by have:=oT O;omega
  clear O;have c1:=hB w4 am;refine ρ ?_;refine rem (show((I.length:Nat):Int)≠0 by omega) ?_;rw[Qcm];have lr:k % I.length<I.length:=Nat.mod_lt _ hne;refine ρ ?_;refine ix (k % I.length) c1 lr ?_;refine ρ ?_;refine ld (c1.cell (Jxb lr)) ?_;refine ρ ?_;obtain⟨i,hi⟩:∃ i,i=I.getD (k % I.length) 0:=⟨_,rfl⟩;rw[<-hi];have D:i∈I:=by rw[hi];exact getD_mem' 0 I lr
  refine lds (cs:=key.cells) (λj u hu=>au.at hu) ?_;refine ρ ?_;obtain⟨cr,cj⟩:=a5 i D;have a4:=hO.lev i D;have az:=hO.rng i D;have ca:=a3 i D;have bn:Off (λk=>k=F.G i) w4 (λu=>TriA u (F.A i) (F.d i) (F.rs i)):=((hT i D).gr am).mono λj _ ej=>.inr ⟨i,D,ej⟩;refine cl (Qsd (v:=key) cj bn a4.1 a4.2.1 a4.2.2 ca.2 az.1 az.2 (λa b O h2 h3=>hO.srt i D a b om h2 h3)) ?_;rintro u w5 ⟨af,q,c2,rfl,d0,cz,c9,c8,br⟩;have ck:∀ j∈I,j≠i->¬ (λk=>k=F.G i) (F.G j):=λj hj cc e=>cc (hO.inj j hj i D e);have bh:GrN (NG F I J) w4 w5:=af.mono λj _ ej=>.inr ⟨i,D,ej⟩;have ai:Its F V' I w5 (upd p i q):=λj hj=>by
   by_cases e:j=i
   .subst e;rw[Jt];exact⟨c2,br⟩
   rw[Jc _ _ e];obtain⟨st,a6⟩:=a5 j hj;exact⟨st,Jr a6 af (ck j hj e)⟩
  have bp:=Jr bq af (λe=>hJG i D e.symm);have bl:¬ (λk=>k=F.G i) bk:=λe=>by have O:=ar i D;omega
  have bt:=Jr au af bl;have ae:=am.trans bh;have Z:∀ a,V'.lo i<=a->a<q->cmpV (F.val V' i a) key<0:=λa O h2=>by
   by_cases h3:a<p i
   .exact b3 i D a O h3
   exact c9 a om h2
  refine ρ ?_;refine ci (λO=>?_) (λO=>?_)
  .have ab:¬ q<V'.e i:=by simpa using O
   refine ρ ?_;refine Jq ⟨ae,⟨sj,bp⟩,upd p i q,false,rfl,ai,λj hj=>?_,λe=>(by cases e),λ_ y hy ax=>?_⟩
   .by_cases e:j=i
    .subst e;rw[Jt];omega
    rw[Jc _ _ e];have:=a3 j hj;omega
   obtain⟨a,h2,h3,h4⟩:=hy i D;have h5:=a9 y hy ax;have h6:=Z a h2 om;rw[h4]at h6;have:=cmp_V.anti key y;omega
  have ab:q<V'.e i:=by simpa using O
  have c7:=c8 ab;clear O;refine ρ ?_;refine cl (Jhh br (bn w5 af) a4.2.1 a4.2.2 (λ_=>az.1)) ?_;rintro u w6 ⟨aw,nx,rfl,cb⟩;have a2:nx=F.val V' i q:=cb ⟨a4.1,ab⟩;rw[decide_eq_true (show 0<V'.L i/\q<V'.e i from⟨a4.1,ab⟩)];refine ρ ?_;refine alc (cs:=V0.cells) Jzs ?_;intro w7 b7 bb bm c0;refine ρ ?_;refine stb (cs':=nx.cells) c0 ?_ (V.one _);intro w8 bz ce ba;have a8:Ext w5 w8:=aw.trans (ba w6 bb bm);have ah:=bp.ext a8;refine ρ ?_;refine ld (ah.at (i:=2) rfl) ?_;refine ρ ?_;refine sto (p:=⟨J,2,none⟩) (ah.cell 2) (ah.frozen _) ?_;have ch:=ah.set 2 (.int .i64 (IntKind.i64.wrap (sj+1)));have cd:GrN (NG F I J) w8 (w8.setCell ⟨J,2,none⟩ (.int .i64 (IntKind.i64.wrap (sj+1)))):=GrN.set _ (.inl rfl);have cp:w.heap.size<=b7:=nL ae.size (nL aw.size bm);have bw:Blk (w8.setCell ⟨J,2,none⟩ (.int .i64 (IntKind.i64.wrap (sj+1)))) b7 102 nx.cells:=bz.far (by simp only;omega) _;have aj:Blk (w8.setCell ⟨J,2,none⟩ (.int .i64 (IntKind.i64.wrap (sj+1)))) bk 102 key.cells:=(bt.ext a8).far (by simp only;omega) _
  have b5:Its F V' I (w8.setCell ⟨J,2,none⟩ (.int .i64 (IntKind.i64.wrap (sj+1)))) (upd p i q):=λj hj=>by
   obtain⟨st,a6⟩:=ai j hj;exact⟨st,(a6.ext a8).far (hJG j hj) _⟩
  have ap:=(ae.trans (GrN.ext a8)).trans cd;clear ce ba bz c0 bb aw ah;generalize w8.setCell ⟨J,2,none⟩ (.int .i64 (IntKind.i64.wrap (sj+1)))=w9 at *
  have bg:∀ j∈I,V'.lo j<=upd p i q j/\upd p i q j<V'.e j:=λj hj=>by
   by_cases e:j=i
   .subst e;rw[Jt];have:=a3 j hj;omega
   rw[Jc _ _ e];exact a3 j hj
  refine ρ ?_;refine lds (cs:=nx.cells) (λj u hu=>bw.at hu) ?_;refine ρ ?_;refine lds (cs:=key.cells) (λj u hu=>aj.at hu) ?_;refine ρ ?_;refine cl (Jvp nx key _) ?_;rintro u b9 ⟨rfl,a1⟩;refine ρ ?_;have aq:JB b9 J jr ja yv:=⟨_,ch.ext a1⟩;have aa:Its F V' I b9 (upd p i q):=λj hj=>by
   obtain⟨st,a6⟩:=b5 j hj;exact⟨st,a6.ext a1⟩
  refine ci (λO=>?_) (λO=>?_)
  .have bi:nx=key:=cmp_V.zero _ _ (Ug O);refine ρ ?_;refine Ym (same+1) (k+1) key (upd p i q) sO ⟨ap.trans (GrN.ext a1),aq,aa,aj.ext a1,bg,λj hj a h2 h3=>?_,ay,a9,om,om,om,om,λs h2 h3=>?_⟩ om
   .by_cases e:j=i
    .subst e;rw[Jt]at h3;exact Z a h2 h3
    rw[Jc _ _ e]at h3;exact b3 j hj a h2 h3
   by_cases e:s=1
   .subst e;rw[Nat.add_sub_cancel,<-hi,Jt,<-a2,bi]
   have h4:k+1-s=k-(s-1):=om
   rw[h4];have h5:(k-(s-1)) % I.length<I.length:=Nat.mod_lt _ hne;have h6:I.getD ((k-(s-1)) % I.length) 0≠i:=λe2=>by
    rw[hi,Ql 0 I h5,Ql 0 I lr]at e2;have e3:=Qjc hnd h5 lr e2;exact Qpp (n:=I.length) (k:=k) (s:=s-1) om om om e3
   rw[Jc _ _ h6];exact bf (s-1) om om
  have cn:=Uj O;have ad:cmpV key nx<0:=by
   have h2:=cmp_V.anti nx key;have h3:¬ cmpV nx key<0:=by rw[a2];exact c7
   omega
  have hgt:=Qxn (U:=Jqg F V' I) (by rw[a2];exact Xvd D om ab) ad;have b8:=aj.ext a1;refine ρ ?_;refine lds (cs:=nx.cells) (λj u hu=>(bw.ext a1).at hu) ?_;refine ρ ?_;refine stb (cs':=nx.cells) b8 ?_ (V.one _);intro cq b6 ag cm;have ao:∀ {g:Nat},g<w.heap.size->some g≠some bk:=fun {g} hg e=>by injection e with e;omega
  refine ρ ?_;refine Ym 1 (k+1) nx (upd p i q) sO ⟨(ap.trans (GrN.ext a1)).newBy ag bj,?_,λj hj=>?_,b6,bg,λj hj a h2 h3=>?_,?_,λy hy ax=>?_,Nat.le_refl _,hne,om,om,λs h2 h3=>?_⟩ om
  .obtain⟨st,hJ⟩:=aq;exact⟨st,hJ.grown ag (ao bo)⟩
  .obtain⟨st,a6⟩:=aa j hj;exact⟨st,a6.grown ag (ao (ar j hj))⟩
  .by_cases e:j=i
   .subst e;rw[Jt]at h3;exact cmp_V.lt_trans (Z a h2 h3) ad
   rw[Jc _ _ e]at h3;exact cmp_V.lt_trans (b3 j hj a h2 h3) ad
  .exact Xzh ay om
  .obtain⟨a,h2,h3,h4⟩:=hy i D;have h5:=a9 y hy ax;have h6:q<=a:=by
    rcases Nat.lt_or_ge a q with h7|h7
    .have h8:=Z a h2 h7;rw[h4]at h8;have:=cmp_V.anti key y;omega
    exact h7
   rw[a2,<-h4];by_cases e:a=q
   .subst e;rw[Vs];omega
   have:=hO.srt i D q a om om h3;omega
  have:s=1:=om
  subst this;rw[Nat.add_sub_cancel,<-hi,Jt];exact a2.symm
 have d2:same=I.length:=by have:=oF O;omega
 refine ρ ?_;refine Jq ⟨am,⟨sj,bq⟩,p,true,rfl,a5,λi hi=>⟨(a3 i hi).1,Nat.le_of_lt (a3 i hi).2⟩,λ_=>⟨key,λi hi=>⟨(a3 i hi).2,?_⟩,ay,a9⟩,λe=>by cases e⟩;obtain⟨r,hr,er⟩:=List.getElem_of_mem hi;obtain⟨s,O,h2,h3⟩:=Qpq hr (show I.length<=k by omega);have:=bf s O om;rw[h3,Ql 0 I hr,er]at this;exact this
end Go.Proofs.YtebiphhfkdbpfaaGreatDoor
namespace Go.Proofs.YtebiphhfkdbpfaaGreatDoor
open Pl
variable {vs:List Nat}{d k l n u v:Nat}{q y z z':Row}
def Xm(vs:List Nat): Prop:=vs.Pairwise (· < ·)
def lv(vs:List Nat)(v:Nat): Nat:=(vs.filter λu=>decide (u<v)).length
theorem Qqb(vs:List Nat)(v:Nat): lv vs v<=vs.length:=List.length_filter_le _ _
theorem Jwc(vs:List Nat): lv vs 0=0:=by simp[lv]
theorem Qqd(h:∀ u∈vs,u<n): lv vs n=vs.length:=by grind [lv,List.filter_eq_self.2]
theorem Jbg(u:Nat)(vs:List Nat)(v:Nat): lv (u::vs) v=(if u<v then 1 else 0)+lv vs v:=by grind [lv,List.filter_cons_of_pos,List.length_cons,List.filter_cons_of_neg]
theorem Qjz(h:∀ u∈vs,v<=u): lv vs v=0:=by grind [lv,List.filter_eq_nil_iff.2]
theorem Jjt(h:v ∉ vs): lv vs (v+1)=lv vs v:=by
 induction vs with
 | nil=>rfl
 | cons u vs ih=>
  grind [Jbg,List.mem_cons_of_mem,List.mem_cons_self]
theorem Yj(ha:Xm vs)(h:v∈vs): lv vs (v+1)=lv vs v+1/\lv vs v<vs.length/\vs.getD (lv vs v) 0=v:=by
 induction vs with
 | nil=>cases h
 | cons u vs ih=>
  obtain⟨j,i⟩:=List.pairwise_cons.1 ha;rw[Jbg,Jbg];rcases List.mem_cons.1 h with rfl|h'
  .grind [lv,Qjz,Nat.le_of_lt,List.length_cons]
  have G:=j v h';obtain⟨D,B,y⟩:=ih i h';grind
theorem Qrg(ha:Xm vs): vs.take (lv vs v)=vs.filter λu=>decide (u<v):=by
 induction vs with
 | nil=>rfl
 | cons u vs ih=>
  obtain⟨j,i⟩:=List.pairwise_cons.1 ha;by_cases h:u<v
  .rw[Jbg,if_pos h,Nat.add_comm 1,List.take_succ_cons,ih i,List.filter_cons_of_pos (by simpa using h)]
  repeat grind [lv,Qjz,List.mem_cons.1,List.filter_eq_nil_iff.2]
theorem Jph(h:z.take v=z'.take v)(hu:u<v): z.getD u V0=z'.getD u V0:=by
 have:=congrArg (λl=>l.getD u V0) h;grind
theorem Jft(ha:Xm vs)(h:z.take v=z'.take v): (pmR vs z).take (lv vs v)=(pmR vs z').take (lv vs v):=by
 unfold pmR;rw[<-List.map_take,<-List.map_take,Qrg ha];grind [List.map_congr_left,Jph,List.mem_filter.1]
theorem Jtj(h:k<vs.length): (pmR vs z).getD k V0=z.getD (vs.getD k 0) V0:=Jtg h
theorem Jth(ha:Xm vs)(h:v∈vs): (pmR vs z).take (lv vs v+1)=(pmR vs z).take (lv vs v)++[z.getD v V0]:=by
 obtain⟨_,i,j⟩:=Yj ha h;rw[Qr V0 (by rw[Zu];exact i),Jtj i,j]
theorem Qwq: ∀(v:Nat) (z z':Row),z.take v=z'.take v->v<z.length->v<z'.length->cmpV (z.getD v V0) (z'.getD v V0)<0->Jf z z' []<0
 | 0,a::z,b::z',_,_,_,h=>by
  simp only[List.getD_cons_zero]at h;simp only[Jf];rw[if_neg om];exact h
 | v+1,a::z,b::z',h,h1,h2,h3=>by
  simp only[List.take_succ_cons,List.cons.injEq]at h;simp only[Jf];rw[if_pos (by grind [Vs])];exact Qwq v z z' h.2 (by simpa using h1) (by simpa using h2) (by simpa using h3)
 | _,[],_,_,h,_,_=>by simp at h
 | _,_::_,[],_,_,h,_=>by simp at h
def Ia(n m:Nat)(vars:Nat->List Nat)(rs:Nat->List Row)(z:Row): Prop:=z.length=n/\∀ i,i<m->pmR (vars i) z∈rs i
theorem Qcq(h1:q.length=l+1)(h2:q.take l=y): q=y++[q.getD l V0]:=by
 have:=Qr V0 (l:=q) (k:=l) om;grind
theorem Qlj{rs:List Row}(h:Srt [] rs)(hl:∀ r∈rs,r.length=d)(hld:l<=d)(hq:q∈pfx rs l): q.length=l:=by grind [Jkn,List.length_take]
theorem Qfg(x:V): (z.set v x).take v=z.take v:=List.take_set_of_le (Nat.le_refl _)
theorem Qfj(x:V)(h:v<z.length): (z.set v x).getD v V0=x:=by grind
theorem Jpg(h:z.take v=z'.take v)(hu:u<=v): z.take u=z'.take u:=by
 have:=congrArg (List.take u) h;grind
theorem Qcp(h:z.take v=z'.take v)(h1:v<z.length)(h2:v<z'.length)(h3:z.getD v V0=z'.getD v V0): z.take (v+1)=z'.take (v+1):=by grind [Qr,V0]
open Go.RowKit Pl Go.Wk
attribute [local irreducible] WC WL QX WD WDB WP WN
variable {L' e' i k v:Nat}{f' h' p':Nat->Nat}
structure JC where
 F: Fix
 n:Nat
 m:Nat
 vars:Nat->List Nat
 J:Nat
 Ra:Option Addr
 base:Nat
 ja:Value
 yv:Value
 vat:Nat->Value
 N:Nat->Prop
def JC.I(c:JC)(v:Nat): List Nat:=(List.range c.m).filter λi=>decide (v∈c.vars i)
theorem JC.mem_I{c:JC}: i∈c.I v↔i<c.m/\v∈c.vars i:=by simp[JC.I]
theorem JC.nodup_I(c:JC)(v:Nat): (c.I v).Nodup:=List.Nodup.sublist List.filter_sublist List.nodup_range
theorem JC.len_I(c:JC)(v:Nat): (c.I v).length<=c.m:=by have:=List.length_filter_le (λi=>decide (v∈c.vars i)) (List.range c.m);rw[List.length_range]at this;exact this
def JC.rowv(c:JC): Value:=.slice c.Ra c.n c.n
abbrev JC.Ans(c:JC)(z:Row): Prop:=Ia c.n c.m c.vars c.F.rs z
def JC.NI(c:JC)(k:Nat): Prop:=k=c.J∨(∃ i,i<c.m/\k=c.F.G i)∨c.rowv.ownBlock=some k
structure JOk(c:JC): Prop where
 n32:c.n<=32
 m32:c.m<=32
 asc:∀ i,i<c.m->Xm (c.vars i)
 lt:∀ i,i<c.m->∀ u∈c.vars i,u<c.n
 d:∀ i,i<c.m->c.F.d i=(c.vars i).length
 d32:∀ i,i<c.m->c.F.d i<=32
 ne:∀ i,i<c.m->c.F.rs i≠[]
 srt:∀ i,i<c.m->Lt [] (c.F.rs i)
 len:∀ i,i<c.m->∀ r∈c.F.rs i,r.length=c.F.d i
 big:∀ i,i<c.m->(c.F.rs i).length<=65536
 inj:∀ i j,i<c.m->j<c.m->c.F.G i=c.F.G j->i=j
 gj:∀ i,i<c.m->c.F.G i≠c.J
 cov:∀ v,v<c.n->∃ i,i<c.m/\v∈c.vars i
 sub:∀ k,c.NI k->c.N k
structure JEnv(c:JC)(w:World): Prop where
 tri:∀ i,i<c.m->Off c.N w (λu=>TriA u (c.F.A i) (c.F.d i) (c.F.rs i))
 at_:∃ B cc,c.ja=.slice B c.n cc/\Off c.N w (λu=>Rd u 1 B c.n ((List.range c.n).map c.vat))
 lists:∀ v,v<c.n->∃ B cc,c.vat v=.slice B (c.I v).length cc/\Off c.N w (λu=>Rd u 1 B (c.I v).length (Jxc c.F (c.I v)))
theorem JEnv.gr{c:JC}{w w':World}(h:JEnv c w)(hg:GrN c.N w w'): JEnv c w':=by
 refine⟨λi hi=>(h.tri i hi).gr hg,?_,λv y=>?_⟩
 .obtain⟨B,u,e,j⟩:=h.at_;exact⟨B,u,e,j.gr hg⟩
 obtain⟨B,u,e,j⟩:=h.lists v y;exact⟨B,u,e,j.gr hg⟩
def AllIt(c:JC)(w:World)(L p e:Nat->Nat)(f h:Nat->Nat->Nat): Prop:=∀ i,i<c.m->∃ st,ItB w (c.F.G i) (c.F.A i) (c.F.d i) (L i) (p i) (e i) (f i) (h i) st
structure YC(c:JC)(Y:List Row->World->Prop)(NY:Nat->Prop): Prop where
 sub:∀ k,NY k->c.N k
 off:∀ k,NY k->¬ c.NI k
 keep:∀ l w w',Y l w->GrN c.NI w w'->Y l w'
 call:∃ fid first cap,c.yv=.func (.func fid) first cap/\∀ l w vr z,Y l w->RowV w vr z->l.length<65536->Ret Tryz.prog fid (first.toList++[vr]++cap.toList) w λr w'=>r=.bool true/\Y (l++[z]) w'/\GrN NY w w'
structure Cfg(c:JC)(Y:List Row->World->Prop)(w:World)(z:Row)(L p e:Nat->Nat)(f h:Nat->Nat->Nat)(l:List Row): Prop where
 env:JEnv c w
 its:AllIt c w L p e f h
 row:Uv w c.base c.rowv z
 zl:z.length=c.n
 jb:JB w c.J c.rowv c.ja c.yv
 y:Y l w
section
variable {c:JC} {Y:List Row->World->Prop} {NY:Nat->Prop} {w w':World} {z:Row} {L p e:Nat->Nat} {f h:Nat->Nat->Nat} {l:List Row}
theorem Cfg.ext(H:Cfg c Y w z L p e f h l)(hY:YC c Y NY)(hx:Ext w w'): Cfg c Y w' z L p e f h l :=
 ⟨H.env.gr (GrN.ext hx),λi hi=>by obtain⟨st,j⟩:=H.its i hi;exact⟨st,j.ext hx⟩,Jh H.row hx,H.zl,by obtain⟨st,j⟩:=H.jb;exact⟨st,j.ext hx⟩,hY.keep _ _ _ H.y (GrN.ext hx)⟩
theorem Cfg.rowG(H:Cfg c Y w z L p e f h l)(hi:i<c.m)(hk:c.rowv.ownBlock=some k): k≠c.F.G i:=λu=>by
 obtain⟨st,j⟩:=H.its i hi;exact j.ne_own H.row rfl (by rw[hk,u])
theorem Cfg.rowJ(H:Cfg c Y w z L p e f h l)(hk:c.rowv.ownBlock=some k): k≠c.J:=λj=>by
 obtain⟨st,i⟩:=H.jb;exact i.ne_own H.row rfl (by rw[hk,j])
theorem Cfg.it(H:Cfg c Y w z L p e f h l)(hok:JOk c)(hY:YC c Y NY)(hi:i<c.m)(hg:GrN (λk=>k=c.F.G i) w w'){p':Nat}{st:Int}(hI:ItB w' (c.F.G i) (c.F.A i) (c.F.d i) L' p' e' f' h' st):
  Cfg c Y w' z (upd L i L') (upd p i p') (upd e i e') (upd f i f') (upd h i h') l:=by
 have u:GrN c.NI w w':=hg.mono λk _ B=>.inr (.inl ⟨i,hi,B⟩);refine⟨H.env.gr (u.mono λk _ O=>hok.sub k O),λj J=>?_,Qj H.row hg (λg U=>H.rowG hi U),H.zl,?_,hY.keep _ _ _ H.y u⟩
 .by_cases ej:j=i
  .grind [Jt]
  rw[Jc _ _ ej,Jc _ _ ej,Jc _ _ ej,Jc _ _ ej,Jc _ _ ej];obtain⟨st,D⟩:=H.its j J;exact⟨st,Jr D hg (λB=>ej (hok.inj j i J hi B))⟩
 obtain⟨st,D⟩:=H.jb;exact⟨st,Jr D hg (λB=>hok.gj i hi B.symm)⟩
theorem Cfg.mt(H:Cfg c Y w z L p e f h l)(hok:JOk c)(hY:YC c Y NY)(hg:GrN (NG c.F (c.I v) c.J) w w')(hJ:JB w' c.J c.rowv c.ja c.yv)(hI:Its c.F ⟨L,λ_=>0,e,f,h⟩ (c.I v) w' p'):
  Cfg c Y w' z L (λi=>if i∈c.I v then p' i else p i) e f h l:=by
 have B:GrN c.NI w w':=hg.mono λk _ u=>by
  rcases u with u|⟨i,hi,u⟩
  .exact .inl u
  exact .inr (.inl ⟨i,(JC.mem_I.1 hi).1,u⟩)
 refine⟨H.env.gr (B.mono λk _ O=>hok.sub k O),λj D=>?_,Qj H.row hg (λg G=>?_),H.zl,hJ,hY.keep _ _ _ H.y B⟩
 .by_cases ej:j∈c.I v
  .simp only[if_pos ej];exact hI j ej
  simp only[if_neg ej];obtain⟨st,U⟩:=H.its j D;refine⟨st,Jr U hg ?_⟩;rintro(u|⟨i,hi,u⟩)
  .exact hok.gj j D u
  have:=hok.inj j i D (JC.mem_I.1 hi).1 u;subst this;exact ej hi
 rintro(u|⟨i,hi,u⟩)
 .exact H.rowJ G u
 exact H.rowG (JC.mem_I.1 hi).1 G u
end
end Go.Proofs.YtebiphhfkdbpfaaGreatDoor
namespace Go.Wk
open Go.RowKit
open Go.Maps (Keyed)
variable {kl:Lit}{f:Lit->Option Value}{b k m:Nat}{x y:Operand}{kd:TK}{e t:TypeId}{key u v z:Value}
abbrev DV:= DataW Value
def RT(v:Value): Option (DV×List MemPlace):=some (.held v,[])
theorem Qyc{ps:List MemPlace}(h:RT v=some (.held u,ps)): v=u:=by grind [RT,Option.some.injEq]
def MapS(P:Program)(k:TypeId)(w:World)(b n:Nat)(f:Lit->Option Value): Prop :=
 ∃ D:DV,w.ownsMap P k RT b n D/\(∀ kl,Maps.has D kl=(f kl).isSome)/\∀ kl zd,D.atKey kl zd=(match f kl with|some v=>.held v|none=>zd)
def upL(f:Lit->Option Value)(kl:Lit)(x:Option Value): Lit->Option Value:=λz=>if z.sameKey kl=true then x else f z
section
variable {P:Program} {k:TypeId} {w w':World} {b n:Nat} {f:Lit->Option Value}
theorem MapS.lt(h:MapS P k w b n f): b<w.heap.size:=by obtain⟨D,i,_⟩:=h;exact i.lt
theorem MapS.kept{row:Option Nat}(h:MapS P k w b n f)(hg:w.grownBy w' row)(hne:some b≠row): MapS P k w' b n f:=by
 obtain⟨D,j,i⟩:=h;exact⟨D,j.kept hg hne,i⟩
theorem MapS.gr{N:Nat->Prop}(h:MapS P k w b n f)(hg:GrN N w w')(hn:¬ N b): MapS P k w' b n f:=by
 obtain⟨D,⟨es,i,u,B⟩,y⟩:=h;have j:b<w.heap.size:=by grind
 exact⟨D,⟨es,i,(hg.block b j hn).trans u,B⟩,y⟩
theorem MapS.ext(h:MapS P k w b n f)(hx:Ext w w'): MapS P k w' b n f:=h.gr (N:=λ_=>False) (GrN.ext hx) (λe=>e)
theorem MapS.mono(h:MapS P k w b n f){m:Nat}(hm:n<=m): MapS P k w b m f:=by obtain⟨D,j,i⟩:=h;exact⟨D,j.mono hm,i⟩
theorem MapS.made(w:World)(P:Program)(k:TypeId): MapS P k (w.alloc (.map #[] 0)) w.heap.size 0 (λ_=>none) :=
 ⟨.map [],World.ownsMap_made w P k RT,λi=>rfl,λi j=>rfl⟩
theorem Jzz(hk:WideAt.IsKeyLit kl)(x:Option Value): upL f kl x kl=x:=by unfold upL;rw[if_pos (WideAt.sameKey_self hk)]
theorem Jzx{z:Lit}(h:z≠kl)(x:Option Value): upL f kl x z=f z:=by
 unfold upL;rw[if_neg (by rw[Maps.sameKey_ne h];simp)]
theorem MapS.look(h:MapS P k w b n f)(K:Keyed P k)(ht:P.underlying t=some (.map k e))(hz:(zeroValue e).run P w=.ok z w)(hkey:keyOf P k key=some kl):
  (Instr.lookup t (.map (some b)) key true).run P w=.ok (.tuple #[(f kl).getD z,.bool (f kl).isSome]) w/\(Instr.lookup t (.map (some b)) key false).run P w=.ok ((f kl).getD z) w:=by
 obtain⟨D,i,B,y⟩:=h;have G:D.atKey kl (.held z)=.held ((f kl).getD z):=by grind
 constructor
 .obtain⟨v,ps,u,j⟩:=i.look_ok K ht hz (zd:=.held z) (zp:=[]) rfl hkey;grind [Qyc]
 obtain⟨v,ps,u,j⟩:=i.lookup K ht hz (zd:=.held z) (zp:=[]) rfl hkey;grind [Qyc]
theorem MapS.put(h:MapS P k w b n f)(K:Keyed P k)(ht:P.underlying t=some (.map k e))(hn:n<maxLen)(hkey:keyOf P k key=some kl)(v:Value):
  ∃ w',(Instr.mapUpdate t (.map (some b)) key v).run P w=.ok () w'/\MapS P k w' b (n+1) (upL f kl (some v))/\w.grownBy w' (some b):=by
 obtain⟨D,j,J,G⟩:=h;obtain⟨w',u,y,B⟩:=j.update K ht hn hkey (val:=v) (d:=.held v) (ps:=[]) rfl;have i:=K.key hkey;refine⟨w',u,⟨_,y,λx=>?_,λx O=>?_⟩,B⟩
 .by_cases e:x=kl
  .subst e;rw[Jzz i,Maps.has_put_same j.isMap i];rfl
  rw[Jzx e,Maps.has_put_other e,J]
 by_cases e:x=kl
 .subst e;rw[Jzz i,Maps.atKey_put_same j.isMap i]
 rw[Jzx e,Maps.atKey_put_other e,G]
theorem MapS.drop(h:MapS P k w b n f)(K:Keyed P k){t e:TypeId}(ht:P.underlying t=some (.map k e)){key:Value}{kl:Lit}(hkey:keyOf P k key=some kl)(ty:TypeId):
  ∃ w',(Builtin.delete_ #[t,k] ty #[.map (some b),key]).run P w=.ok (.tuple #[]) w'/\MapS P k w' b n (upL f kl none)/\w.grownBy w' (some b):=by
 obtain⟨D,J,G,B⟩:=h;obtain⟨w',j,u,y⟩:=J.drop K ht hkey ty;have i:=K.key hkey;refine⟨w',j,⟨_,u,λx=>?_,λx O=>?_⟩,y.grown⟩
 .by_cases e:x=kl
  .subst e;rw[Jzz i,Maps.has_del_same];rfl
  rw[Jzx e,Maps.has_del_other e,G]
 by_cases e:x=kl
 .subst e;rw[Jzz i,Maps.atKey_del_same]
 rw[Jzx e,Maps.atKey_del_other e,B]
theorem MapS.len0(h:MapS P k w b n f)(ht:P.underlying t=some (.map k e))(K:Keyed P k)(ty:TypeId): ∃ m:Nat,(Builtin.len_ #[t] ty #[.map (some b)]).run P w=.ok (.int .i64 (m:Int)) w/\(m=0↔∀ kl,f kl=none):=by
 obtain⟨D,u,j,y⟩:=h;refine⟨Maps.size D,u.len ht ty,?_⟩;obtain⟨es,rfl,_,i⟩:=u.entries K;constructor
 .intro h0 kl;have:es=[]:=List.eq_nil_of_length_eq_zero h0;subst this;have:=j kl;cases hf:f kl with
  | none=>rfl
  | some v=>rw[hf]at this;cases this
 intro hn;cases es with
 | nil=>rfl
 | cons p es=>
  have:=j p.1;rw[hn p.1,Maps.has_eq,List.any_cons,WideAt.sameKey_self (i p (mC ..))]at this;cases this
theorem Qfm(hz:Qe P t=some z)(w:World): (zeroValue t).run P w=.ok z w:=by
 unfold Qe at hz;obtain⟨i,u,j⟩:=Option.bind_eq_some_iff.1 hz;simp[zeroValue,typeInfo,u,j]
end
section
variable {N:Nat->Prop} {P:Program} {n:Nat} {al:AL} {w:World} {Q:Exit->Act->World->Prop} {ops:Array Oper} {rest:List Oper} {drest:List (Nat×Oper)}
variable {d ty:Nat} {pos:String} {aft:Array Edge} {tt:TT}
theorem mkm{t:Nat}(k:TypeId)(kk:∀ w1 b,Ext w w1->w.heap.size<=b->MapS P k w1 b 0 (λ_=>none)->WL P n ops Q rest ((d,.map (some b))::al) w1)(hd:Nat.blt d n=true:=by rfl):
  WL P n ops Q (⟨some d,.makeMap t none,ty,pos,aft,none⟩::rest) al w :=
 wop hd (λa i=>by
  show _=Result.ok (Next.value (.map (some w.heap.size))) (w.alloc (.map #[] 0));simp[execOp,run_makeMap]) (kk _ _ ((Ext.refl w).alloc _) (Nat.le_refl _) (MapS.made w P k))
theorem mlk[hT:Tab P tt]{t e:Nat}(K:Keyed P k)(hM:MapS P k w b m f)(hz:Qe P e=some z)(hkey:keyOf P k key=some kl)(kk:WL P n ops Q rest ((d,(f kl).getD z)::al) w)(ht:tk tt t=some kd:=by rfl)(hk:kd.desc=.map k e:=by rfl)(hx:ev al x=some (.map (some b)):=by rfl)(hy:ev al y=some key:=by rfl)(hd:Nat.blt d n=true:=by rfl):
  WL P n ops Q (⟨some d,.lookup t x y false,ty,pos,aft,none⟩::rest) al w :=
 wop hd (λa i=>by
  have:=(hM.look K (Gz hT.ok ht hk rfl) (Qfm hz w) hkey).2;simp[execOp,i.ev hx,i.ev hy,this]) kk
theorem mup[hT:Tab P tt]{t e:Nat}{z:Operand}(K:Keyed P k)(hM:MapS P k w b m f)(hm:m<maxLen)(hkey:keyOf P k key=some kl)(kk:∀ w1,MapS P k w1 b (m+1) (upL f kl (some v))->w.grownBy w1 (some b)->WL P n ops Q rest al w1)(ht:tk tt t=some kd:=by rfl)(hk:kd.desc=.map k e:=by rfl)(hx:ev al x=some (.map (some b)):=by rfl)(hy:ev al y=some key:=by rfl)(hv:ev al z=some v:=by rfl):
  WL P n ops Q (⟨none,.mapUpdate t x y z,ty,pos,aft,none⟩::rest) al w:=by
 obtain⟨w',j,B,u⟩:=hM.put K (Gz hT.ok ht hk rfl) hm hkey v;exact Jqq (λa i=>by simp[execOp,i.ev hx,i.ev hy,i.ev hv,j]) (kk w' B u)
end
end Go.Wk
namespace Go.Wk
open Go.RowKit
variable {cs:List Value}{b d n ty:Nat}{α β:Type}{v v' z:Value}
def Yp(base:Nat)(v:Value)(k:Nat): Prop:=k<base∨v.ownBlock=some k
def Jm(ps:List (List Value×α)): List Value:=ps.flatMap (·.1)
theorem Qzd{α:Type}{sz:Nat}: ∀ {ps:List (List Value×α)},(∀ p∈ps,p.1.length=sz)->(Jm ps).length=ps.length*sz
 | [],_=>by simp[Jm]
 | p::ps,h=>by
  have:=Qzd (ps:=ps) λq hq=>h q (List.mem_cons_of_mem _ hq);grind [Jm,List.length_append,List.length_cons,List.mem_cons_self,Nat.succ_mul]
theorem Jhq{α:Type}{sz:Nat}: ∀ {ps:List (List Value×α)} {i j:Nat} {p:List Value×α},(∀ p∈ps,p.1.length=sz)->ps[i]?=some p->j<sz->(Jm ps)[i*sz+j]?=p.1[j]?
 | [],_,_,_,_,h,_=>by cases h
 | q::ps,0,j,p,hl,h,hj=>by
  simp only[List.getElem?_cons_zero,Option.some.injEq]at h;subst h;simp only[Jm,List.flatMap_cons,Nat.zero_mul,Nat.zero_add];grind
 | q::ps,i+1,j,p,hl,h,hj=>by
  simp only[List.getElem?_cons_succ]at h;have ih:=Jhq (i:=i) (j:=j) (λp hp=>hl p (List.mem_cons_of_mem _ hp)) h hj;grind [Jm,List.getElem?_append_right,List.mem_cons_self,Nat.succ_mul]
section
variable {α:Type} {E:TypeId} {sz:Nat} {Φ:World->List Value->α->Prop} {w w':World} {base:Nat} {v:Value} {ls:List α}
def OwnG(E:TypeId)(sz:Nat)(Φ:World->List Value->α->Prop)(w:World)(base:Nat)(v:Value)(ls:List α): Prop :=
 ∃ ps:List (List Value×α),ls=ps.map (·.2)/\w.ownsRow base E sz v ps.length (Jm ps)/\∀ p∈ps,p.1.length=sz/\Off (Yp base v) w (λu=>Φ u p.1 p.2)
def GV(sz:Nat)(Φ:World->List Value->α->Prop)(w:World)(v:Value)(ls:List α): Prop :=
 ∃(ps:List (List Value×α)) (A:Option Addr) (c:Nat),ls=ps.map (·.2)/\v=.slice A ps.length c/\ps.length<=c/\ps.length<=1100000/\Rd w sz A ps.length (Jm ps)/\∀ p∈ps,p.1.length=sz/\Φ w p.1 p.2
theorem OwnG.nil(w:World)(base:Nat): OwnG E sz Φ w base (.slice none 0 0) []:=⟨[],rfl,Xr _ _ _ _,λp i=>by cases i⟩
theorem OwnG.gr{N:Nat->Prop}(h:OwnG E sz Φ w base v ls)(hg:GrN N w w')(hN:∀ k,N k->k<base): OwnG E sz Φ w' base v ls:=by
 obtain⟨ps,e,u,i⟩:=h;refine⟨ps,e,Qj u hg (λg B hn=>?_),λp j=>⟨(i p j).1,(i p j).2.gr (hg.mono λk _ y=>.inl (hN k y))⟩⟩;grind [Jv]
theorem OwnG.ext(h:OwnG E sz Φ w base v ls)(hx:Ext w w'): OwnG E sz Φ w' base v ls:=h.gr (N:=λ_=>False) (GrN.ext hx) (λk e=>e.elim)
theorem OwnG.form(h:OwnG E sz Φ w base v ls): ∃ A c,v=.slice A ls.length c/\ls.length<=c/\∀ g,v.ownBlock=some g->base<=g/\g<w.heap.size:=by
 obtain⟨ps,e,j,i⟩:=h;grind [Jv,List.length_map]
theorem OwnG.gv(h:OwnG E sz Φ w base v ls)(hm:ls.length<=1100000): GV sz Φ w v ls:=by
 obtain⟨ps,e,j,i⟩:=h;obtain⟨A,c,y,u,B⟩:=Jv j;subst y;exact⟨ps,A,c,e,rfl,u,by grind,Rd.own j,λp hm=>⟨(i p hm).1,(i p hm).2.here⟩⟩
theorem OwnG.off(h:OwnG E sz Φ w base v ls)(hm:ls.length<=1100000): Off (λk=>k<base) w (λu=>GV sz Φ u v ls):=λw' j=>(h.gr j λk i=>i).gv hm
theorem GV.ext(h:GV sz Φ w v ls)(hx:Ext w w')(hΦ:∀ cs a,Φ w cs a->Φ w' cs a): GV sz Φ w' v ls:=by
 obtain⟨ps,A,c,e,D,B,y,u,i⟩:=h;exact⟨ps,A,c,e,D,B,y,u.ext hx,λp j=>⟨(i p j).1,hΦ _ _ (i p j).2⟩⟩
theorem GV.imp{Ψ:World->List Value->β->Prop}{f:α->β}(h:GV sz Φ w v ls)(hΦ:∀ cs a,a∈ls->Φ w cs a->Ψ w cs (f a)): GV sz Ψ w v (ls.map f):=by
 obtain⟨ps,A,c,e,G,D,B,i,j⟩:=h;have y:Jm (ps.map λp=>(p.1,f p.2))=Jm ps:=by simp[Jm,List.flatMap_map]
 refine⟨ps.map λp=>(p.1,f p.2),A,c,by rw[e];simp,by grind,by grind,by grind,by grind,λp u=>?_⟩;grind
theorem GV.len(h:GV sz Φ w v ls): ∃ A c,v=.slice A ls.length c/\ls.length<=c/\ls.length<=1100000:=by
 obtain⟨ps,A,c,e,B,y,u,i,j⟩:=h;grind
theorem GV.parts(h:GV sz Φ w v ls): ∃ A c cs,v=.slice A ls.length c/\ls.length<=c/\ls.length<=1100000/\Rd w sz A ls.length cs/\∀ i (hi:i<ls.length),∃ ce,ce.length=sz/\Φ w ce ls[i]/\∀ j u,ce[j]?=some u->w.cell? ((adr A (i*sz)).add j)=some u:=by
 obtain⟨ps,A,c,e,e1,Z,U,G,B⟩:=h;subst e;refine⟨A,c,Jm ps,by grind,by grind,by grind,by grind,λi hi=>?_⟩;rw[List.length_map]at hi;have J:=B ps[i] (List.getElem_mem hi);refine⟨ps[i].1,J.1,by grind,λj u D=>?_⟩;have O:j<sz:=by grind
 rw[Gh];exact G.cell ((Jhq (λp y=>(B p y).1) (gE hi) O).trans D)
theorem OwnG.after{ps:List (List Value×α)}(e:ls=ps.map (·.2))(hp:∀ p∈ps,p.1.length=sz/\Off (Yp base v) w (λu=>Φ u p.1 p.2)){w':World}{x:α}(hl:cs.length=sz)(hx:Off (Yp base v) w (λu=>Φ u cs x))(ho:w'.ownsRow base E sz v' (ps.length+1) (Jm ps++cs))(hg:w.grownBy w' v.ownBlock)(hn:∀ g,v'.ownBlock=some g->v.ownBlock=some g∨w.heap.size<=g): OwnG E sz Φ w' base v' (ls++[x]):=by
 have i:∀(cs:List Value) (x:α),Off (Yp base v) w (λu=>Φ u cs x)->Off (Yp base v') w' (λu=>Φ u cs x):=λcs x y=>by
  have J:Off (Yp base v) w' (λu=>Φ u cs x):=y.gr (GrN.by hg λk j=>.inr j);have D:Off (λk=>Yp base v k∨Yp base v' k) w (λu=>Φ u cs x):=y.mono λk j h=>by
   rcases h with h|h|h
   .exact h
   .exact .inl h
   rcases hn k h with h4|h4
   .exact .inr h4
   omega
  exact(D.gr (GrN.by hg λk j=>.inl (.inr j))).mono λk _ h=>.inr h
 refine⟨ps++[(cs,x)],by rw[e];simp,?_,λp B=>?_⟩
 .have G:Jm (ps++[(cs,x)])=Jm ps++cs:=by simp[Jm]
  rw[List.length_append,G];exact ho
 rcases List.mem_append.1 B with h'|h'
 .exact⟨(hp p h').1,i _ _ (hp p h').2⟩
 rw[List.mem_singleton.1 h'];exact⟨hl,i _ _ hx⟩
end
theorem apG{P:Program}{al:AL}{w:World}{Q:Exit->Act->World->Prop}{ops:Array Oper}{rest:List Oper}{pos:String}{aft:Array Edge}{t E sz bytes base:Nat}(hE:ElT P t E sz bytes z){Φ:World->List Value->α->Prop}{x y:Operand}{ls:List α}{a:α}(ho:OwnG E sz Φ w base v ls)(hb:Blk w b E cs)(hl:cs.length=sz)(h1:∀ u∈cs,u.oneCell'=true)(hΦ:Off (Yp base v) w (λu=>Φ u cs a))(hm:ls.length<=1100000)(hby:bytes<=64)(hbase:base<=w.heap.size)(kk:∀ v' w',OwnG E sz Φ w' base v' (ls++[a])->w.grownBy w' v.ownBlock->(∀ g,v'.ownBlock=some g->v.ownBlock=some g∨w.heap.size<=g)->WL P n ops Q rest ((d,v')::al) w')(hx:ev al x=some v:=by rfl)(hy:ev al y=some (.slice (some ⟨b,0,none⟩) 1 1):=by rfl)(hd:Nat.blt d n=true:=by rfl):
  WL P n ops Q (⟨some d,.call { callee:=.builtin .append,args:=#[x,y],argTypes:=#[t,t] },ty,pos,aft,none⟩::rest) al w:=by
 obtain⟨ps,e,j,D⟩:=ho;have i:ps.length<=1100000:=by grind
 have B:(ps.length+1)*bytes<=1100001*64:=Nat.mul_le_mul om hby;refine apb hE j (hb.rd (n:=1) om) h1 (by unfold maxLen;omega) om hbase ?_ hx hy hd;grind [OwnG.after]
end Go.Wk
namespace Go.Proofs.YtebiphhfkdbpfaaGreatDoor
namespace Pl
variable {cs l ord r:List Nat}{N c j n u v:Nat}{g h:Nat->Nat}
def Xk: Nat->(Nat->Nat)->Nat
 | 0,_=>1
 | n+1,g=>Xk n g*g n
theorem Qhl(e:∀ c,c<n->g c=h c): Xk n g=Xk n h:=by
 induction n with
 | zero=>rfl
 | succ n ih=>rw[Xk,Xk,ih (λc i=>e c om),e n om]
theorem prodR_pos: 0<Xk n g↔∀ c,c<n->0<g c:=by
 induction n with
 | zero=>exact⟨λ_ c i=>om,λ_=>Nat.one_pos⟩
 | succ n ih=>
  grind [Xk,Nat.pos_of_mul_pos_right,Nat.pos_of_mul_pos_left,Nat.mul_pos]
section
variable {α:Type}
def tot: List (α×Nat)->Nat
 | []=>0
 | p::l=>p.2+tot l
def prj(d0:α)(cs:List Nat)(y:List α): List α:=cs.map λc=>y.getD c d0
theorem Qhr{d0:α}{y z:List α}(h:∀ c∈cs,y.getD c d0=z.getD c d0): prj d0 cs y=prj d0 cs z:=List.map_congr_left h
theorem Qxv{d0:α}{y z:List α}(h:c<y.length): (y++z).getD c d0=y.getD c d0:=by grind
structure AX(α:Type) where
 d0: α
 F:Nat
 ks:Nat->List Nat
 par:Nat->Int
 E:Nat->List α->List (α×Nat)
def AX.key(X:AX α)(c:Nat)(y:List α): List α:=prj X.d0 (X.ks c) y
def AX.T(X:AX α)(c:Nat)(y:List α): Nat:=tot (X.E c (X.key c y))
structure AX.Ok(X:AX α): Prop where
 kl:∀ v,v<X.F->∀ u∈X.ks v,(u:Int)<=X.par v
 pl:∀ v,v<X.F->-1<=X.par v/\X.par v<v
 wt:∀ v,v<X.F->∀ y,y.length=v->∀ p∈X.E v (X.key v y),0<p.2/\p.2=Xk X.F (λc=>if X.par c=v then X.T c (y++[p.1]) else 1)
def AX.ext(X:AX α): Nat->List α->List (List α)
 | 0,y=>[y]
 | n+1,y=>(X.E y.length (X.key y.length y)).flatMap λp=>X.ext n (y++[p.1])
variable {X:AX α}
theorem AX.ext_mem: ∀(n:Nat) (y x:List α),x∈X.ext n y↔x.length=y.length+n/\x.take y.length=y/\∀ v,y.length<=v->v<y.length+n->x.getD v X.d0∈(X.E v (X.key v (x.take v))).map (·.1)
 | 0,y,x=>by grind [AX.ext,List.mem_singleton,List.take_length,List.take_of_length_le]
 | n+1,y,x=>by
  rw[AX.ext,List.mem_flatMap];constructor
  .rintro⟨p,hp,hx⟩;obtain⟨h1,h2,h3⟩:=(AX.ext_mem n _ x).1 hx;rw[List.length_append,List.length_singleton]at h1 h2 h3;have hy:x.take y.length=y:=by
    have:=congrArg (List.take y.length) h2;grind
   refine⟨om,hy,λv h4 h5=>?_⟩;by_cases e:v=y.length
   .subst e;rw[hy];have:x.getD y.length X.d0=p.1:=by
     have:=congrArg (λl=>l.getD y.length X.d0) h2;grind
    grind
   repeat grind
  rintro⟨h1,h2,h3⟩;obtain⟨p,hp,e⟩:=List.mem_map.1 (h3 y.length (Nat.le_refl _) om);rw[h2]at hp;refine⟨p,hp,(AX.ext_mem n _ x).2 ⟨?_,?_,λv h4 h5=>h3 v ?_ ?_⟩⟩
  .simp;omega
  .rw[List.length_append,List.length_singleton,e];have hl:y.length<x.length:=om
   grind [List.take_add_one,List.getD,List.getElem?_eq_getElem]
  repeat grind
end
structure BX(α:Type) where
 d0: α
 N:Nat
 F:Nat
 K:Nat->List Nat
 par:Nat->Int
 pl:Nat->Nat
 ats:List (List Nat×List (List α))
 T:Nat->List α->Nat
 E:Nat->List α->List (α×Nat)
section
variable {α:Type}
def BX.bag(X:BX α)(v:Nat)(z:List α): Prop:=∀ a∈X.ats,∃ r∈a.2,∀ j,j<a.1.length->(a.1.getD j 0=v∨a.1.getD j 0∈X.K v)->r.getD j X.d0=z.getD (a.1.getD j 0) X.d0
def BX.W(X:BX α)(v:Nat)(z:List α): Nat:=Xk X.N (λc=>if X.par c=v then X.T c (prj X.d0 (X.K c) z) else 1)
structure BX.Ok(X:BX α): Prop where
 FN:X.F<=X.N
 plN:∀ v,v<X.N->X.pl v<X.N
 inj:∀ u v,u<X.N->v<X.N->X.pl u=X.pl v->u=v
 k1:∀ v,v<X.N->∀ u∈X.K v,u<X.N/\X.pl v<X.pl u
 k2:∀ v,v<X.N->(X.K v=[]/\X.par v = -1)∨∃ p:Nat,X.par v=p/\p∈X.K v/\∀ u∈X.K v,X.pl p<=X.pl u
 k3:∀ v,v<X.N->∀ p:Nat,X.par v=p->∀ x∈X.K v,x=p∨x∈X.K p
 k4:∀ a∈X.ats,∀ v∈a.1,(∀ u∈a.1,X.pl v<=X.pl u)->∀ u∈a.1,u=v∨u∈X.K v
 k5:∀ u v,u<X.F->v<u->X.pl u<X.pl v
 k6:∀ u v,u<X.F->X.F<=v->v<X.N->X.pl v<X.pl u
 al:∀ a∈X.ats,(∀ u∈a.1,u<X.N)/\∀ r∈a.2,r.length=a.1.length
 t1:∀ v,X.F<=v->v<X.N->∀ k,X.T v k<=1/\(0<X.T v k↔∃ z,z.length=X.N/\X.bag v z/\prj X.d0 (X.K v) z=k/\0<X.W v z)
 t2:∀ v,v<X.F->∀ k,X.T v k=tot (X.E v k)/\∀ p,p∈X.E v k↔∃ z,z.length=X.N/\X.bag v z/\prj X.d0 (X.K v) z=k/\z.getD v X.d0=p.1/\p.2=X.W v z/\0<p.2
def BX.Roots(X:BX α): Prop:=(∀ v,v<X.N->X.par v = -1->0<X.T v [])/\∀ a∈X.ats,a.2≠[]
variable {X:BX α}
theorem Jsx(d0:α){y:List α}(h:j<cs.length): (prj d0 cs y).getD j d0=y.getD (cs.getD j 0) d0:=by
 simp[prj,List.getD,List.getElem?_eq_getElem h]
theorem BX.Ok.kpar(h:X.Ok)(hc:c<X.N)(hp:X.par c=v): v∈X.K c/\v<X.N/\X.pl c<X.pl v/\∀ u∈X.K c,u=v∨u∈X.K v:=by
 rcases h.k2 c hc with⟨_,i⟩|⟨p,i,h3,_⟩
 .rw[i]at hp;omega
 have:p=v:=om
 subst this;exact⟨h3,(h.k1 c hc p h3).1,(h.k1 c hc p h3).2,h.k3 c hc p hp⟩
theorem BX.bag_congr{z z':List α}(e:∀ u,u=v∨u∈X.K v->z.getD u X.d0=z'.getD u X.d0)(hb:X.bag v z): X.bag v z':=λa i=>by
 obtain⟨r,j,y⟩:=hb a i;grind
theorem BX.Ok.W_congr(h:X.Ok){z z':List α}(e:∀ u,u=v∨u∈X.K v->z.getD u X.d0=z'.getD u X.d0): X.W v z=X.W v z':=by
 refine Qhl λc j=>?_;split
 .rename_i hp;rw[Qhr λu i=>e u ((h.kpar j hp).2.2.2 u i)]
 rfl
theorem BX.Ok.choose(h:X.Ok){y:List α}(hy:y.length=X.F)(hE:∀ v,v<X.F->y.getD v X.d0∈(X.E v (prj X.d0 (X.K v) y)).map (·.1))(hR:X.Roots):
  ∀ n,n<=X.N->∃ z,z.length=X.N/\(∀ u,u<X.F->z.getD u X.d0=y.getD u X.d0)/\∀ v,v<X.N->(v<X.F∨X.N<=X.pl v+n)->X.bag v z/\0<X.W v z:=by
 intro n;induction n with
 | zero=>
  intro _;refine⟨y++List.replicate (X.N-X.F) X.d0,by have:=h.FN;simp[hy];omega,λu D=>Qxv om,λv hv G=>?_⟩;have hF:v<X.F:=G.resolve_right (by have:=h.plN v hv;omega);obtain⟨p,hp,e⟩:=List.mem_map.1 (hE v hF);obtain⟨z,hz,hb,hk,a3,hw,h0⟩:=((h.t2 v hF _).2 p).1 hp;have i:∀ u,u=v∨u∈X.K v->z.getD u X.d0=(y++List.replicate (X.N-X.F) X.d0).getD u X.d0:=by
   intro u D;have ab:u<X.F:=by
    rcases D with rfl|D
    .exact hF
    have:=h.k1 v hv u D;rcases Nat.lt_or_ge u X.F with h'|h'
    .exact h'
    have:=h.k6 v u hF h' this.1;omega
   rw[Qxv om];rcases D with rfl|D
   .rw[a3,e]
   obtain⟨j,hj,ej⟩:=List.getElem_of_mem D;have:=congrArg (λl=>l.getD j X.d0) hk;grind [Jsx,List.getD,List.getElem?_eq_getElem]
  exact⟨BX.bag_congr i hb,by rw[<-h.W_congr i,<-hw];exact h0⟩
 | succ n ih=>
  intro hn;obtain⟨z,hz,a7,hg⟩:=ih om;by_cases hv:∃ v,v<X.N/\X.F<=v/\X.pl v+(n+1)=X.N
  .obtain⟨v,B,U,aa⟩:=hv;have hT:0<X.T v (prj X.d0 (X.K v) z):=by
    rcases h.k2 v B with⟨h1,h2⟩|⟨p,h2,h3,_⟩
    .rw[h1];exact hR.1 v B h2
    have hp:=h.kpar B h2;have:=(hg p hp.2.1 (.inr om)).2;have h5:=prodR_pos.1 this v B;grind
   obtain⟨J,a8,a6,a5,a2⟩:=(h.t1 v U B _).2.1 hT;have a9:v<z.length:=om
   have far:∀ u,u≠v->(z.set v (J.getD v X.d0)).getD u X.d0=z.getD u X.d0:=by grind
   refine⟨z.set v (J.getD v X.d0),by simp[hz],λu D=>by grind,λu D G=>?_⟩;by_cases e:u=v
   .subst e;have i:∀ x,x=u∨x∈X.K u->J.getD x X.d0=(z.set u (J.getD u X.d0)).getD x X.d0:=by
     intro x O;by_cases ex:x=u
     .grind
     rw[far x ex];have a1:=O.resolve_left ex;obtain⟨j,hj,ej⟩:=List.getElem_of_mem a1;have:=congrArg (λl=>l.getD j X.d0) a5;grind [Jsx,List.getD,List.getElem?_eq_getElem]
    exact⟨BX.bag_congr i a6,by rw[<-h.W_congr i];exact a2⟩
   have a4:X.pl v<X.pl u:=by
    rcases G with G|G
    .exact h.k6 u v G U B
    have:X.pl u≠X.pl v:=λe'=>e (h.inj u v D B e');omega
   have i:∀ x,x=u∨x∈X.K u->z.getD x X.d0=(z.set v (J.getD v X.d0)).getD x X.d0:=by
    intro x O;refine(far x ?_).symm;rintro rfl;rcases O with rfl|O
    .exact e rfl
    have:=(h.k1 u D x O).2;omega
   have Z:=hg u D (by grind);exact⟨BX.bag_congr i Z.1,by rw[<-h.W_congr i];exact Z.2⟩
  repeat grind
def BX.ix(X:BX α): AX α:=⟨X.d0,X.F,X.K,X.par,X.E⟩
end
def Kt(v:Nat)(nb:Nat->Nat->Bool): Nat->Nat->Bool:=λu x=>if nb v u then(nb u x || nb v x) && (x != u) && (x != v) else nb u x
def Gv(nb:Nat->Nat->Bool): List Nat->Nat->Nat->Bool
 | []=>nb
 | v::l=>Gv (Kt v nb) l
theorem Qnz(nb:Nat->Nat->Bool)(l m:List Nat): Gv nb (l++m)=Gv (Gv nb l) m:=by
 induction l generalizing nb with
 | nil=>rfl
 | cons v l ih=>exact ih _
structure NbInv(l:List Nat)(nb:Nat->Nat->Bool): Prop where
 sym:∀ u x,u ∉ l->x ∉ l->nb u x=nb x u
 gone:∀ u x,u ∉ l->nb u x=true->x ∉ l/\x≠u
theorem NbInv.step{nb:Nat->Nat->Bool}(h:NbInv l nb)(hv:v ∉ l): NbInv (l++[v]) (Kt v nb):=by
 have B:∀ {u},u ∉ l++[v]->u ∉ l/\u≠v:=by grind
 constructor
 .intro u x D i;obtain⟨j,O⟩:=B D;obtain⟨J,Z⟩:=B i;have U:=h.sym u x j J;unfold Kt;by_cases e1:nb v u=true<;>by_cases e2:nb v x=true
  .grind
  .rw[if_pos e1,if_neg e2];have G:(x != v)=true:=bne_iff_ne.2 Z;rw[Bool.not_eq_true]at e2;rw[e2,G,Bool.or_false,Bool.and_true,<-U];cases e3:nb u x with
   | false=>rfl
   | true=>rw[bne_iff_ne.2 (h.gone u x j e3).2];rfl
  .rw[if_neg e1,if_pos e2];have G:(u != v)=true:=bne_iff_ne.2 O;rw[Bool.not_eq_true]at e1;rw[e1,G,Bool.or_false,Bool.and_true,U];cases e3:nb x u with
   | false=>rfl
   | true=>rw[bne_iff_ne.2 (h.gone x u J e3).2];rfl
  repeat grind
 intro u x D i;obtain⟨j,O⟩:=B D;unfold Kt at i;rw[List.mem_append,List.mem_singleton,not_or];by_cases e1:nb v u=true
 .rw[if_pos e1]at i;simp only[Bool.and_eq_true,Bool.or_eq_true,bne_iff_ne]at i;refine⟨⟨?_,i.2⟩,i.1.2⟩;rcases i.1.1 with y|y
  .exact(h.gone u x j y).1
  exact(h.gone v x hv y).1
 rw[if_neg e1]at i;obtain⟨y,h2⟩:=h.gone u x j i;refine⟨⟨y,λe=>?_⟩,h2⟩;subst e;exact e1 ((h.sym x u y j).trans i)
theorem NbInv.at{nb:Nat->Nat->Bool}(h:NbInv [] nb): ∀ {l:List Nat},l.Nodup->NbInv l (Gv nb l):=by
 intro l;have key:∀(l m:List Nat) (i:Nat->Nat->Bool),NbInv m i->(m++l).Nodup->NbInv (m++l) (Gv i l):=by
  intro l;induction l with
  | nil=>intro m i h _;rw[List.append_nil];exact h
  | cons v l ih=>
   intro m i h hn;have j:v ∉ m:=by grind
   have e:m++v::l=(m++[v])++l:=by simp
   rw[e]at hn ⊢;exact ih (m++[v]) _ (h.step j) hn
 intro hn;exact key l [] nb h hn
def pre(ord:List Nat)(v:Nat): List Nat:=ord.takeWhile (· != v)
def Vx(nb:Nat->Nat->Bool)(ord:List Nat)(v u:Nat): Bool:=Gv nb (pre ord v) v u
theorem Qhs(h:v ∉ l): pre (l++v::r) v=l:=by
 induction l with
 | nil=>simp[pre]
 | cons x l ih=>
  grind [List.mem_cons_self,pre,List.takeWhile_cons,List.mem_cons_of_mem]
theorem Qds(h:v∈ord): ∃ r,ord=pre ord v++v::r/\v ∉ pre ord v:=by
 obtain⟨l,r,e,hn⟩:=List.append_of_mem h |>.elim λl i=>i.elim λr e=>(⟨l,r,e,trivial⟩:∃ l r,ord=l++v::r/\True);clear hn;have:∀ l:List Nat,∃ r',l++v::r=pre (l++v::r) v++v::r'/\v ∉ pre (l++v::r) v:=by
  intro l;induction l with
  | nil=>exact⟨r,by simp[pre],by simp[pre]⟩
  | cons x l ih=>
   grind [pre,List.takeWhile_cons]
 rw[e];exact this l
section
variable {nb:Nat->Nat->Bool} {ord:List Nat} (h0:NbInv [] nb) (hn:ord.Nodup)
theorem Jhd(hN:∀ u x,nb u x=true->x<N)(hk:Vx nb ord v u=true): u<N:=by
 have:∀(l:List Nat) (nb:Nat->Nat->Bool),(∀ u x,nb u x=true->x<N)->∀ u x,Gv nb l u x=true->x<N:=by
  intro l;induction l with
  | nil=>intro nb h;exact h
  | cons w l ih=>
   intro nb h;refine ih _ λu x i=>?_;unfold Kt at i;grind
 exact this _ _ hN _ _ hk
end
end Pl
namespace Pl
variable {m n:Nat}{x y z:Row}{a b:V}
theorem Qwp{ds:List Bool}: ∀ {m:Nat} {x z:Row},x.take m=z.take m->m<x.length->m<z.length->cmpV (x.getD m V0) (z.getD m V0)≠0->Jf x z ds=neg (ds.getD m false) (cmpV (x.getD m V0) (z.getD m V0))
 | 0,a::x,b::z,_,_,_,h=>by grind [List.getD_cons_zero,Jf]
 | m+1,a::x,b::z,h,h1,h2,h3=>by
  simp only[List.take_succ_cons,List.cons.injEq]at h;simp only[List.getD_cons_succ]at h3 ⊢;simp only[Jf];rw[if_pos (by grind [Vs]),Qwp h.2 (by simpa using h1) (by simpa using h2) h3];simp[List.getD]
 | _,[],_,_,h,_,_=>by simp at h
 | _,_::_,[],_,_,h,_=>by simp at h
theorem Qnv{d:Bool}(h:neg d (cmpV a b)<0): cmpV a b≠0:=by
 intro e;rw[e]at h;unfold neg at h;split at h<;>omega
theorem Xzk{ds:List Bool}(h:x.take m=z.take m)(h1:m<x.length)(h2:m<z.length)(h3:neg (ds.getD m false) (cmpV (x.getD m V0) (z.getD m V0))<0): Jf x z ds<0:=by grind [Qwp,Qnv]
def SrtE(d:Bool)(l:List (V×Nat)): Prop:=l.Pairwise λp q=>neg d (cmpV p.1 q.1)<0
abbrev IX:= AX V
structure AX.Srt(X:IX)(ds:List Bool): Prop where
 d0:X.d0=V0
 srt:∀ v,v<X.F->∀ k,SrtE (ds.getD v false) (X.E v k)
theorem AX.ext_at_col{X:IX}(hx:x∈X.ext n (y++[a])): x.length=y.length+1+n/\x.take y.length=y/\x.getD y.length V0=a:=by
 obtain⟨j,i,_⟩:=(AX.ext_mem n _ x).1 hx;rw[List.length_append,List.length_singleton]at j i;refine⟨j,?_,?_⟩
 .have:=congrArg (List.take y.length) i;grind
 have:=congrArg (λl=>l.getD y.length V0) i;grind
theorem AX.Srt.ext{X:IX}{ds:List Bool}(h:X.Srt ds): ∀(n:Nat) (y:Row),y.length+n=X.F->Lt ds (X.ext n y)
 | 0,y,_=>List.pairwise_singleton _ _
 | n+1,y,e=>by
  rw[AX.ext];refine List.pairwise_flatMap.2 ⟨λp _=>h.ext n _ (by simp;omega),(h.srt y.length om _).imp fun {p q} hpq x hx z hz=>?_⟩;obtain⟨h1,h2,h3⟩:=AX.ext_at_col hx;obtain⟨h4,h5,h6⟩:=AX.ext_at_col hz;exact Xzk (m:=y.length) (by rw[h2,h5]) om om (by rw[h3,h6];exact hpq)
end Pl
namespace Pl
inductive Tr where
 | nil
 | node (l:Tr) (v:V) (x:Nat) (r:Tr)
namespace Tr
def ht: Tr->Nat
 | .nil=>0
 | .node l _ _ r=>max l.ht r.ht+1
def sz: Tr->Nat
 | .nil=>0
 | .node l _ _ r=>l.sz+1+r.sz
def sum: Tr->Nat
 | .nil=>0
 | .node l _ x r=>l.sum+x+r.sum
def toL: Tr->List (V×Nat)
 | .nil=>[]
 | .node l v x r=>l.toL++(v,x)::r.toL
def left: Tr->Tr
 | .nil=>.nil
 | .node l _ _ _=>l
def right: Tr->Tr
 | .nil=>.nil
 | .node _ _ _ r=>r
def bal(l:Tr)(v:V)(x:Nat)(r:Tr): Tr :=
 if r.ht+1<l.ht then
  match l with
  | .nil=>.node .nil v x r
  | .node ll lv lx lr=>
   if lr.ht<=ll.ht then .node ll lv lx (.node lr v x r)
   else match lr with
    | .nil=>.node (.node ll lv lx .nil) v x r
    | .node ml mv mx mr=>.node (.node ll lv lx ml) mv mx (.node mr v x r)
 else if l.ht+1<r.ht then
  match r with
  | .nil=>.node l v x .nil
  | .node rl rv rx rr=>
   if rl.ht<=rr.ht then .node (.node l v x rl) rv rx rr
   else match rl with
    | .nil=>.node l v x (.node .nil rv rx rr)
    | .node ml mv mx mr=>.node (.node l v x ml) mv mx (.node mr rv rx rr)
 else .node l v x r
theorem Jpf(l:Tr)(v:V)(x:Nat)(r:Tr): (bal l v x r).toL=l.toL++(v,x)::r.toL:=by
 unfold bal;split
 .cases l with
  | nil=>rfl
  | node ll lv lx lr=>
   simp only;split
   repeat grind [toL]
 split
 .cases r with
  | nil=>rfl
  | node rl rv rx rr=>
   simp only;split
   repeat grind [toL]
 rfl
def put(d:Bool)(v:V)(x:Nat): Tr->Tr
 | .nil=>.node .nil v x .nil
 | .node l a y r=>if neg d (cmpV v a)<0 then bal (put d v x l) a y r else if 0<neg d (cmpV v a) then bal l a y (put d v x r) else .node l v x r
theorem put_last{d:Bool}{v:V}{x:Nat}: ∀ {t:Tr},(∀ p∈t.toL,0<neg d (cmpV v p.1))->(put d v x t).toL=t.toL++[(v,x)]
 | .nil,_=>rfl
 | .node l a y r,h=>by
  have h1:=h (a,y) (by simp[toL]);have h2:=put_last (d:=d) (v:=v) (x:=x) (t:=r) (λp hp=>h p (by simp[toL,hp]));grind [put,Jpf,toL]
theorem put_first{d:Bool}{v:V}{x:Nat}: ∀ {t:Tr},(∀ p∈t.toL,neg d (cmpV v p.1)<0)->(put d v x t).toL=(v,x)::t.toL
 | .nil,_=>rfl
 | .node l a y r,h=>by
  have h1:=h (a,y) (by simp[toL]);have h2:=put_first (d:=d) (v:=v) (x:=x) (t:=l) (λp hp=>h p (by simp[toL,hp]));grind [put,Jpf,toL]
end Tr
end Pl
namespace Pl
variable {rs:List Row}{m:Nat}{k x:Row}{wt:Row->Nat}
def Zg(wt:Row->Nat)(m:Nat)(rs:List Row)(k:Row): List (V×Nat):=(rs.filter λx=>decide (x.take m=k) && decide (0<wt x)).map λx=>(x.getD m V0,wt x)
def Jdq(d:Bool)(wt:Row->Nat)(m:Nat)(bs:List (Row×Tr))(x:Row): List (Row×Tr) :=
 if wt x=0 then bs
 else if(bs.getLast?.map (·.1))=some (x.take m) then bs.dropLast++[(x.take m,Tr.put d (x.getD m V0) (wt x) ((bs.getLast?.map (·.2)).getD .nil))]
 else bs++[(x.take m,Tr.put d (x.getD m V0) (wt x) .nil)]
def Jws(d:Bool)(l:List (V×Nat)): List (V×Nat):=if d then l.reverse else l
structure GInv(d:Bool)(wt:Row->Nat)(m:Nat)(rs:List Row)(bs:List (Row×Tr)): Prop where
 lt:Lt [] (bs.map (·.1))
 con:∀ b∈bs,b.2.toL=Jws d (Zg wt m rs b.1)/\Zg wt m rs b.1≠[]
 all:∀ k,Zg wt m rs k≠[]->k∈bs.map (·.1)
theorem Jhw(wt:Row->Nat)(m:Nat)(rs:List Row)(x k:Row): Zg wt m (rs++[x]) k=Zg wt m rs k++if x.take m=k/\0<wt x then[(x.getD m V0,wt x)] else[]:=by grind [Zg,List.filter_cons_of_pos,List.filter_cons_of_neg]
theorem entL_mem{p:V×Nat}: p∈Zg wt m rs k↔∃ x∈rs,x.take m=k/\x.getD m V0=p.1/\wt x=p.2/\0<p.2:=by
 unfold Zg;grind
theorem entL_ne: Zg wt m rs k≠[]↔∃ x∈rs,x.take m=k/\0<wt x:=by
 constructor
 .intro h;obtain⟨p,y⟩:=List.exists_mem_of_ne_nil _ h;obtain⟨x,u,j,i,D,B⟩:=entL_mem.1 y;grind
 rintro⟨x,u,j,i⟩ e;have:=(entL_mem (p:=(x.getD m V0,wt x))).2 ⟨x,u,j,rfl,rfl,i⟩;grind
theorem Qwl: ∀(m:Nat) {x y:Row},Jf x y []<0->Jf (x.take m) (y.take m) []<=0
 | 0,x,y,_=>by simp[Jf]
 | m+1,[],[],h=>by simp[Jf]
 | m+1,[],b::y,h=>by simp[Jf]
 | m+1,a::x,[],h=>by simp[Jf]at h
 | m+1,a::x,b::y,h=>by
  simp only[Jf,List.take_succ_cons,List.drop_nil]at h ⊢;by_cases e:cmpV a b=0
  .rw[if_pos e]at h ⊢;exact Qwl m h
  repeat grind
theorem Qwn: ∀(m:Nat) {x y:Row},Jf x y []<0->x.take m=y.take m->x.length=m+1->y.length=m+1->cmpV (x.getD m V0) (y.getD m V0)<0
 | 0,[a],[b],h,_,_,_=>by
  simp only[Jf]at h;by_cases e:cmpV a b=0
  .grind
  rw[if_neg e]at h;exact h
 | m+1,a::x,b::y,h,ht,h1,h2=>by
  simp only[List.take_succ_cons,List.cons.injEq]at ht;simp only[Jf,List.drop_nil]at h;rw[if_pos (by grind [Vs])]at h;simp only[List.getD_cons_succ];exact Qwn m h ht.2 (by simpa using h1) (by simpa using h2)
theorem Qxp{α:Type}{l:List α}(h:l≠[]): ∃ i z,l=i++[z]/\l.getLast?=some z/\l.dropLast=i:=by grind [List.dropLast_concat_getLast,List.getLast?_eq_some_getLast]
theorem GInv.step{d:Bool}{bs:List (Row×Tr)}(h:GInv d wt m rs bs)(hs:Lt [] (rs++[x]))(hl:∀ y∈rs++[x],y.length=m+1): GInv d wt m (rs++[x]) (Jdq d wt m bs x):=by
 have a2:=hl x (by simp);have a4:∀ y∈rs,Jf y x []<0:=λy hy=>(List.pairwise_append.1 hs).2.2 y hy x (by simp);by_cases h0:wt x=0
 .have e:∀ k,Zg wt m (rs++[x]) k=Zg wt m rs k:=by grind [Jhw]
  rw[Jdq,if_pos h0];exact⟨h.lt,λb j=>by rw[e];exact h.con b j,λk u=>h.all k (by rw[<-e k];exact u)⟩
 have h1:0<wt x:=om
 have eo:∀ k,k≠x.take m->Zg wt m (rs++[x]) k=Zg wt m rs k:=by grind [Jhw]
 have ex:Zg wt m (rs++[x]) (x.take m)=Zg wt m rs (x.take m)++[(x.getD m V0,wt x)]:=by grind [Jhw]
 have G:∀ k∈bs.map (·.1),Jf k (x.take m) []<=0:=λk u=>by
  obtain⟨b,j,rfl⟩:=List.mem_map.1 u;obtain⟨y,hy,e,_⟩:=entL_ne.1 (h.con b j).2;grind [Qwl]
 have J:∀ p∈Zg wt m rs (x.take m),cmpV p.1 (x.getD m V0)<0:=λp O=>by
  obtain⟨y,hy,B,e2,_⟩:=entL_mem.1 O;rw[<-e2];exact Qwn m (a4 y hy) B (hl y (by simp[hy])) a2
 have D:∀ t:Tr,t.toL=Jws d (Zg wt m rs (x.take m))->(Tr.put d (x.getD m V0) (wt x) t).toL=Jws d (Zg wt m (rs++[x]) (x.take m)):=λt ht=>by
  rw[ex];cases d with
  | false=>
   rw[Tr.put_last,ht];· rfl
   intro p O;rw[ht]at O;have:=J p O;have:=cmp_V.anti p.1 (x.getD m V0);grind [neg]
  | true=>
   rw[Tr.put_first,ht];· simp[Jws]
   intro p O;rw[ht]at O;have:=J p (by simpa [Jws] using O);have:=cmp_V.anti p.1 (x.getD m V0);grind [neg]
 rw[Jdq,if_neg h0];by_cases hl2:(bs.getLast?.map (·.1))=some (x.take m)
 .rw[if_pos hl2];have Z:bs≠[]:=by grind
  obtain⟨i,z,B,e2,e3⟩:=Qxp Z;rw[e2]at hl2 ⊢;have hz:z.1=x.take m:=by simpa using hl2
  rw[e3];have a6:=h.con z (by rw[B];simp);have a3:∀ b∈i,b.1≠x.take m:=λb j e=>by
   have:=h.lt;rw[B,List.map_append]at this;have:=(List.pairwise_append.1 this).2.2 b.1 (List.mem_map_of_mem j) z.1 (by simp);grind [Il]
  refine⟨?_,λb j=>?_,λk u=>?_⟩
  .have:=h.lt;grind
  .rcases List.mem_append.1 j with j|j
   .rw[eo _ (a3 b j)];exact h.con b (by rw[B];simp[j])
   rw[List.mem_singleton.1 j];refine⟨D _ (by grind),?_⟩;simp only;rw[ex];simp
  by_cases e:k=x.take m
  .rw[e];simp
  rw[eo k e]at u;have:=h.all k u;grind
 rw[if_neg hl2];have U:x.take m ∉ bs.map (·.1):=λu=>by
  have Z:bs≠[]:=by grind
  obtain⟨i,z,B,e2,e3⟩:=Qxp Z;rw[e2]at hl2;have hz:z.1≠x.take m:=λe=>hl2 (by simp[e]);rw[B,List.map_append,List.mem_append]at u;have h5:=h.lt;rw[B,List.map_append]at h5;rcases u with u|u
  .have h6:=(List.pairwise_append.1 h5).2.2 _ u z.1 (by simp);have h7:=G z.1 (by rw[B];simp);have:=Jwx [] |>.anti (x.take m) z.1;omega
  repeat grind
 have he:Zg wt m rs (x.take m)=[]:=Classical.byContradiction λh'=>U (h.all _ h');refine⟨?_,λb j=>?_,λk u=>?_⟩
 .rw[List.map_append];refine List.pairwise_append.2 ⟨h.lt,by simp,λk u k' a1=>?_⟩;rw[List.map_singleton,List.mem_singleton]at a1;rw[a1];have h7:=G k u;have h8:Jf k (x.take m) []≠0:=λe=>U (by rw[<-(Jwx []).zero _ _ e];exact u);simp only;omega
 .rcases List.mem_append.1 j with j|j
  .have a5:b.1∈bs.map (·.1):=List.mem_map_of_mem j
   rw[eo _ (λe=>U (by rw[<-e];exact a5))];exact h.con b j
  rw[List.mem_singleton.1 j];refine⟨D _ (by rw[he];cases d<;>rfl),?_⟩;grind
 by_cases e:k=x.take m
 .rw[e];simp
 rw[eo k e]at u;rw[List.map_append,List.mem_append];exact .inl (h.all k u)
theorem GInv.nil(d:Bool)(wt:Row->Nat)(m:Nat): GInv d wt m [] []:=⟨List.Pairwise.nil,λb j=>(by cases j),λk i=>absurd rfl i⟩
end Pl
open Go.RowKit Pl Go.Wk
attribute [local irreducible] WC WL QX WD WDB WP WN
variable {c:JC}{l:List Row}{Y:List Row->World->Prop}{L e p:Nat->Nat}{f h:Nat->Nat->Nat}{x z:Row}{w:World}
structure Pth(c:JC)(v:Nat)(z:Row)(p e:Nat->Nat): Prop where
 path:∀ i,i<c.m->Yn (c.F.rs i) (lv (c.vars i) v) (p i)=(pmR (c.vars i) z).take (lv (c.vars i) v)
 rng:∀ i,i<c.m->0<lv (c.vars i) v->p i<e i/\e i<=(pfx (c.F.rs i) (lv (c.vars i) v)).length
def Qyf(c:JC)(Y:List Row->World->Prop)(v:Nat)(z:Row)(p e:Nat->Nat)(f h:Nat->Nat->Nat)(l:List Row)(w:World)(u:Value)(w':World): Prop :=
 u=.bool true/\GrN c.N w w'/\∃ z' f' h' l',Cfg c Y w' z' (λi=>lv (c.vars i) v) p e f' h' l'/\z'.take v=z.take v/\(∀ i,i<c.m->∀ k,k<lv (c.vars i) v->f' i k=f i k/\h' i k=h i k)/\Lt [] l'/\∀ x,x∈l'↔x∈l∨(c.Ans x/\x.take v=z.take v)
theorem Cfg.rowV(H:Cfg c Y w z L p e f h l)(hok:JOk c): RowV w c.rowv z:=by
 have i:=H.row;have j:=hok.n32;refine⟨c.Ra,c.n,by rw[H.zl];rfl,by rw[H.zl];exact Nat.le_refl _,by rw[H.zl];omega,?_⟩;rw[Uv,H.zl]at i;rw[RdR,H.zl];exact Rd.own i
theorem Pth.ans(h:Pth c c.n z p e)(hok:JOk c)(hz:z.length=c.n): c.Ans z:=by
 refine⟨hz,λi hi=>?_⟩;have u:=h.path i hi;have j:=Qqd (hok.lt i hi);rw[j,List.take_of_length_le (by rw[Zu];exact Nat.le_refl _)]at u;rw[<-u];have G:=hok.d i hi;by_cases h0:(c.vars i).length=0
 .rw[Yn,if_pos h0];obtain⟨r,y⟩:=List.exists_mem_of_ne_nil _ (hok.ne i hi);have:=hok.len i hi r y;grind
 rw[Yn,if_neg h0];have B:=h.rng i hi om;rw[j]at B;have D:=Qlk (hok.srt i hi) (hok.len i hi);grind
theorem Qcr{n:Nat}(h1:x.length=n)(h2:z.length=n)(h:x.take n=z.take n): x=z:=by grind
theorem Xjc{NY:Nat->Prop}(hok:JOk c)(hY:YC c Y NY)(hcap:∀ l:List Row,Lt [] l->(∀ x∈l,c.Ans x)->l.length<=65536)(H:Cfg c Y w z (λi=>lv (c.vars i) c.n) p e f h l)(hP:Pth c c.n z p e)(hl:Lt [] l)(hla:∀ x∈l,c.Ans x)(hls:∀ x∈l,∀ z',c.Ans z'->z'.take c.n=z.take c.n->Jf x z' []<0):
  Ret Tryz.prog 202 [.pointer (some ⟨c.J,0,none⟩),.int .i64 (c.n:Int)] w (Qyf c Y c.n z p e f h l w):=by
 have aa:=hP.ans hok H.zl;obtain⟨st,Z⟩:=H.jb;have a9:=hok.n32;obtain⟨ab,first,ac,a1,G⟩:=hY.call;have a2:c.rowv=.slice c.Ra c.n c.n:=rfl;rw[a2,a1]at Z;refine Jz Tryz.func202 Tryz.ntmps202 rfl kr rfl ?_;refine ρ ?_;refine ld (Z.at (i:=0) rfl) ?_;refine ρ ?_;refine ct ?_ ?_
 .exact beq_t rfl
 refine ρ ?_;refine ld (Z.at (i:=2) rfl) ?_;refine ρ ?_;refine sto (p:=⟨c.J,2,none⟩) (Z.cell 2) (Z.frozen _) ?_;have a6:=Z.set 2 (.int .i64 (IntKind.i64.wrap (st+1)));have hg2:GrN (λk=>k=c.J) w (w.setCell ⟨c.J,2,none⟩ (.int .i64 (IntKind.i64.wrap (st+1)))):=GrN.set _ rfl;have D:GrN c.NI w (w.setCell ⟨c.J,2,none⟩ (.int .i64 (IntKind.i64.wrap (st+1)))):=GrN.set _ (.inl rfl);refine ρ ?_;generalize w.setCell ⟨c.J,2,none⟩ (.int .i64 (IntKind.i64.wrap (st+1)))=w2 at *
 have H2:Cfg c Y w2 z (λi=>lv (c.vars i) c.n) p e f h l:=by
  refine⟨H.env.gr (D.mono λk _ U=>hok.sub k U),λi hi=>?_,Qj H.row hg2 (λg eg=>H.rowJ eg),H.zl,⟨_,by rw[a2,a1];exact a6⟩,hY.keep _ _ _ H.y D⟩;obtain⟨st,O⟩:=H.its i hi;exact⟨st,Jr O hg2 (hok.gj i hi)⟩
 refine drN (λ_=>False) 10 [(0,0),(0,1),(0,2),(0,3),(0,4),(0,5),(0,6),(0,7),(2,8),(2,9)] kr ?_;have B:Ext w2 w2.drew:=(Ext.refl w2).drew;have a5:=a6.ext B;have H3:=H2.ext hY B;refine ρn ?_;refine nld (Qy (a5.at (i:=3) rfl) (λe=>e)) ?_;refine ρn ?_;refine nld (Qy (a5.at (i:=0) rfl) (λe=>e)) ?_;refine ρn ?_;refine Xu ?_;have a8:Lt [] (l++[z]):=by
  refine List.pairwise_append.2 ⟨hl,List.pairwise_singleton _ _,λx hx y hy=>?_⟩;grind
 have a3:l.length<65536:=by grind
 refine clv (G l _ c.rowv z H3.y (H3.rowV hok) a3) ?_;rintro u w4 ⟨rfl,a7,j⟩;refine ρ ?_;refine Uh ?_;refine Xu ?_;refine ρ ?_;have a4:GrN c.N w w4:=((D.mono λk _ U=>hok.sub k U).trans (GrN.ext B)).trans (j.mono λk _ U=>hY.sub k U);refine Jq ⟨rfl,a4,z,f,h,l++[z],⟨H.env.gr a4,λi hi=>?_,Qj H3.row j (λg eg hn=>hY.off g hn (.inr (.inr eg))),H.zl,?_,a7⟩,rfl,λi hi k U=>⟨rfl,rfl⟩,a8,λx=>?_⟩
 .obtain⟨st,O⟩:=H3.its i hi;exact⟨st,Jr O j (λhn=>hY.off _ hn (.inr (.inl ⟨i,hi,rfl⟩)))⟩
 .obtain⟨st,O⟩:=H3.jb;exact⟨st,Jr O j (λhn=>hY.off _ hn (.inl rfl))⟩
 rw[List.mem_append,List.mem_singleton];constructor
 .grind
 rintro(h'|⟨O,h2⟩)
 .exact .inl h'
 exact .inr (Qcr O.1 H.zl h2)
open Go.RowKit Pl Go.Wk
variable {a i:Nat}{e e1 p p1:Nat->Nat}{y z z2:Row}
structure LS where
 L: Nat->Nat
 p:Nat->Nat
 e:Nat->Nat
 f:Nat->Nat->Nat
 h:Nat->Nat->Nat
def LS.upd(S:LS)(i L p e:Nat)(f h:Nat->Nat): LS:=⟨Wk.upd S.L i L,Wk.upd S.p i p,Wk.upd S.e i e,Wk.upd S.f i f,Wk.upd S.h i h⟩
theorem Cfg.congr{c:JC}{Y:List Row->World->Prop}{w:World}{L L' p' e':Nat->Nat}{f h f' h':Nat->Nat->Nat}{l:List Row}(H:Cfg c Y w z L p e f h l)(h1:∀ i,i<c.m->L' i=L i/\p' i=p i/\e' i=e i/\f' i=f i/\h' i=h i): Cfg c Y w z L' p' e' f' h' l :=
 ⟨H.env,λi hi=>by obtain⟨G,D,B,u,j⟩:=h1 i hi;rw[G,D,B,u,j];exact H.its i hi,H.row,H.zl,H.jb,H.y⟩
def JC.vl(c:JC)(v i a:Nat): V:=(lvl (c.F.rs i) (lv (c.vars i) v)).getD a V0
structure Sib(c:JC)(v:Nat)(z:Row)(lo hi:Nat->Nat): Prop where
 lt:∀ i∈c.I v,lo i<hi i/\hi i<=(pfx (c.F.rs i) (lv (c.vars i) v+1)).length
 ch:∀ i∈c.I v,∀ a,a<(pfx (c.F.rs i) (lv (c.vars i) v+1)).length->(((pfx (c.F.rs i) (lv (c.vars i) v+1)).getD a []).take (lv (c.vars i) v)=(pmR (c.vars i) z).take (lv (c.vars i) v)↔lo i<=a/\a<hi i)
section
variable {c:JC} {v:Nat} {z:Row} {lo hi:Nat->Nat}
theorem JOk.lvd(hok:JOk c)(hi:i∈c.I v): lv (c.vars i) v+1<=c.F.d i:=by
 obtain⟨j,u⟩:=JC.mem_I.1 hi;rw[hok.d i j];exact(Yj (hok.asc i j) u).2.1
theorem Sib.node(hok:JOk c)(hS:Sib c v z lo hi)(him:i∈c.I v)(h1:lo i<=a)(h2:a<hi i): (pfx (c.F.rs i) (lv (c.vars i) v+1)).getD a []=(pmR (c.vars i) z).take (lv (c.vars i) v)++[c.vl v i a]:=by
 obtain⟨j,B⟩:=JC.mem_I.1 him;have y:=hS.lt i him;have u:a<(pfx (c.F.rs i) (lv (c.vars i) v+1)).length:=om
 have G:=(hS.ch i him a u).2 ⟨h1,h2⟩;have D:=Qlj (Gy (hok.srt i j)) (hok.len i j) (hok.lvd him) (getD_mem' [] _ u);rw[Qcq D G,JC.vl,Qrf u]
theorem Sib.srt(hok:JOk c)(hS:Sib c v z lo hi){i a b:Nat}(him:i∈c.I v)(h1:lo i<=a)(h2:a<b)(h3:b<hi i): cmpV (c.vl v i a) (c.vl v i b)<0:=by
 obtain⟨j,D⟩:=JC.mem_I.1 him;have B:=hS.lt i him;have u:=(Jkm (Gy (hok.srt i j)) (lv (c.vars i) v+1)).1.at h2 om;rw[hS.node hok him h1 om,hS.node hok him om h3]at u;have key:∀(y:Row) (a b:V),Jf (y++[a]) (y++[b]) []<0->cmpV a b<0:=λy a b=>by
  induction y with
  | nil=>
   intro h;simp only[List.nil_append,Jf]at h;by_cases e:cmpV a b=0
   .grind
   rw[if_neg e]at h;exact h
  | cons x y ih=>
   grind [Jf,Vs]
 exact key _ _ _ u
theorem Sib.ans(hok:JOk c)(hS:Sib c v z lo hi)(hy:c.Ans y)(ht:y.take v=z.take v)(him:i∈c.I v): ∃ a,lo i<=a/\a<hi i/\c.vl v i a=y.getD v V0:=by
 obtain⟨j,B⟩:=JC.mem_I.1 him;have D:=(Jkn (Gy (hok.srt i j)) (l:=lv (c.vars i) v+1)).2 ⟨_,hy.2 i j,rfl⟩;obtain⟨a,G,O⟩:=List.getElem_of_mem D;rw[Jth (hok.asc i j) B,Jft (hok.asc i j) ht]at O;have J:(pfx (c.F.rs i) (lv (c.vars i) v+1)).getD a []=(pmR (c.vars i) z).take (lv (c.vars i) v)++[y.getD v V0]:=by grind
 have U:((pmR (c.vars i) z).take (lv (c.vars i) v)).length=lv (c.vars i) v:=by grind [List.length_take,Zu,Qqb]
 have u:=(hS.ch i him a G).1 (by grind);refine⟨a,u.1,u.2,?_⟩;have:=hS.node hok him u.1 u.2;grind [List.append_cancel_left]
theorem Pth.step(hok:JOk c)(hP:Pth c v z p e)(hS:Sib c v z lo hi)(hv:v<z.length){x:V}(h1:∀ i∈c.I v,lo i<=p1 i/\p1 i<hi i/\c.vl v i (p1 i)=x)(hz2:z2.take v=z.take v)(hz3:z2.getD v V0=x)(h2:∀ i,i<c.m->i ∉ c.I v->p1 i=p i/\e1 i=e i)(h3:∀ i∈c.I v,e1 i=hi i): Pth c (v+1) z2 p1 e1:=by
 refine⟨λi j=>?_,λi j h0=>?_⟩
 .by_cases him:i∈c.I v
  .obtain⟨u,y⟩:=JC.mem_I.1 him;have D:=h1 i him;rw[(Yj (hok.asc i u) y).1,Jth (hok.asc i u) y,Jft (hok.asc i u) hz2,hz3,Yn,if_neg om,hS.node hok him D.1 D.2.1,D.2.2]
  have B:v ∉ c.vars i:=λG=>him (JC.mem_I.2 ⟨j,G⟩);rw[Jjt B,(h2 i j him).1,hP.path i j,Jft (hok.asc i j) hz2]
 by_cases him:i∈c.I v
 .obtain⟨u,y⟩:=JC.mem_I.1 him;have D:=h1 i him;rw[(Yj (hok.asc i u) y).1,h3 i him];exact⟨D.2.1,(hS.lt i him).2⟩
 have B:v ∉ c.vars i:=λG=>him (JC.mem_I.2 ⟨j,G⟩);rw[Jjt B]at h0 ⊢;rw[(h2 i j him).1,(h2 i j him).2];exact hP.rng i j h0
end
open Go.RowKit Pl Go.Wk
structure ES where
 t: Bool
 z:Row
 p:Nat->Nat
 f:Nat->Nat->Nat
 h:Nat->Nat->Nat
 l:List Row
theorem Jqr{α:Type}(f:Nat->α)(i:Nat): upd f i (f i)=f:=by
 funext k;unfold upd;split
 repeat grind
theorem Xjd{c:JC}{Y:List Row->World->Prop}{NY:Nat->Prop}(hok:JOk c)(hY:YC c Y NY)(hcap:∀ l:List Row,Lt [] l->(∀ x∈l,c.Ans x)->l.length<=65536): ∀(k v:Nat) (z:Row) (p e:Nat->Nat) (f h:Nat->Nat->Nat) (l:List Row) (w:World),v+k=c.n ->
  Cfg c Y w z (λi=>lv (c.vars i) v) p e f h l->Pth c v z p e->Lt [] l->(∀ x∈l,c.Ans x)->(∀ x∈l,∀ z',c.Ans z'->z'.take v=z.take v->Jf x z' []<0) ->
  Ret Tryz.prog 202 [.pointer (some ⟨c.J,0,none⟩),.int .i64 (v:Int)] w (Qyf c Y v z p e f h l w):=by
 intro k;induction k with
 | zero=>
  intro v z p e f h l w dg H hP hl bw bu;have:v=c.n:=om
  subst this;exact Xjc hok hY hcap H hP hl bw bu
 | succ k ih=>
 intro v z p e f h l w dg H hP hl bw bu;have hv:v<c.n:=om
 have dc:v<z.length:=by rw[H.zl];exact hv
 have e8:=hok.n32;obtain⟨B,cc,dj,cz⟩:=H.env.at_;obtain⟨B2,ag,c7,hlist⟩:=H.env.lists v hv;have d3:(c.I v).length<=32:=nL (c.len_I v) hok.m32;have ae:0<(c.I v).length:=by
  obtain⟨i,h1,h2⟩:=hok.cov v hv;exact List.length_pos_of_mem (JC.mem_I.2 ⟨h1,h2⟩)
 have D:(c.I v).getD 0 0∈c.I v:=getD_mem' 0 _ ae;have b2:c.rowv=.slice c.Ra c.n c.n:=rfl;have a4:∀ k,c.NI k->c.N k:=hok.sub;refine Jz Tryz.func202 Tryz.ntmps202 rfl kr rfl ?_;refine ρ ?_;obtain⟨st,hJ⟩:=H.jb;rw[b2,dj]at hJ;refine ld (hJ.at (i:=0) rfl) ?_;refine ρ ?_;refine cf ?_ ?_
 .exact Jcq om
 refine ρ ?_;refine ld (hJ.at (i:=1) rfl) ?_;refine ρ ?_;refine ix v cz.here hv ?_;refine ρ ?_;have cy:w.cell? (adr B v)=some (.slice B2 (c.I v).length ag):=cz.here.cell (by simp[hv,c7]);refine ld cy ?_;clear hJ cy;refine ρ ?_;refine Qq (fun (q:Nat) (S:LS)=>[(0,.pointer (some ⟨c.J,0,none⟩)),(1,.int .i64 (v:Int)),(5,.slice B2 (c.I v).length ag),(42,.slice B2 (c.I v).length ag),(43,.int .i64 ((c.I v).length:Int)),(44,.int .i64 (q:Int))])
  (λq S w'=>q<=(c.I v).length/\GrN c.N w w'/\Cfg c Y w' z S.L S.p S.e S.f S.h l /\
   (∀ i∈(c.I v).take q,S.L i=lv (c.vars i) v+1/\S.p i<S.e i/\S.e i<=(pfx (c.F.rs i) (lv (c.vars i) v+1)).length/\(∀ a,a<(pfx (c.F.rs i) (lv (c.vars i) v+1)).length->(((pfx (c.F.rs i) (lv (c.vars i) v+1)).getD a []).take (lv (c.vars i) v)=(pmR (c.vars i) z).take (lv (c.vars i) v)↔S.p i<=a/\a<S.e i))/\S.f i=upd (f i) (lv (c.vars i) v) (p i)/\S.h i=upd (h i) (lv (c.vars i) v) (e i)) /\
   (∀ i,i<c.m->i ∉ (c.I v).take q->S.L i=lv (c.vars i) v/\S.p i=p i/\S.e i=e i/\S.f i=f i/\S.h i=h i)) (λq _=>(c.I v).length-q) 0 ⟨λi=>lv (c.vars i) v,p,e,f,h⟩ sB
  ⟨Nat.zero_le _,GrN.refl _ _,H,λi hi=>by simp at hi,λi _ _=>⟨rfl,rfl,rfl,rfl,rfl⟩⟩ ?_
 rintro q S w1 ⟨hq,av,H1,a1,ab⟩;refine ρ ?_;refine ci (λh1=>?_) (λh1=>?_)
 .have lq:q<(c.I v).length:=by have:=oT h1;omega
  clear h1;have d1:=hlist w1 av;refine ρ ?_;refine ix q d1 lq ?_;refine ρ ?_;refine ld (d1.cell (Jxb lq)) ?_;refine ρ ?_;obtain⟨i,hi⟩:∃ i,i=(c.I v).getD q 0:=⟨_,rfl⟩;rw[<-hi];have Z:i∈c.I v:=by rw[hi];exact getD_mem' 0 _ lq
  obtain⟨U,cj⟩:=JC.mem_I.1 Z;have a7:(c.I v).take (q+1)=(c.I v).take q++[i]:=by rw[Qr 0 lq,hi]
  have br:i ∉ (c.I v).take q:=λhm=>by
   have h1:((c.I v).take (q+1)).Nodup:=(c.nodup_I v).sublist (List.take_sublist _ _);rw[a7,List.nodup_append]at h1;exact h1.2.2 _ hm _ (List.mem_singleton.2 rfl) rfl
  obtain⟨e1,e2,e3,e4,e5⟩:=ab i U br;obtain⟨d7,ay⟩:=H1.its i U;rw[e1,e2,e3,e4,e5]at ay;have dm:Off (λk=>k=c.F.G i) w1 (λu=>TriA u (c.F.A i) (c.F.d i) (c.F.rs i)):=(H1.env.tri i U).mono λj _ ej=>a4 j (.inr (.inl ⟨i,U,ej⟩));have ea:=hok.big i U;refine cl (Qsf ay dm (hok.lvd Z) (hok.d32 i U) (hP.rng i U) (hok.ne i U) (Gy (hok.srt i U)) om (hok.len i U)) ?_;rintro u w2 ⟨rfl,hg2,lo,dk,h2,h3,h4,dx⟩;have H2:=H1.it hok hY U hg2 dx;refine ρ ?_;refine Ju (q+1) (S.upd i (lv (c.vars i) v+1) lo dk (upd (f i) (lv (c.vars i) v) (p i)) (upd (h i) (lv (c.vars i) v) (e i))) sO ⟨om,av.trans (hg2.mono λj _ ej=>a4 j (.inr (.inl ⟨i,U,ej⟩))),H2,λj hj=>?_,λj hj ad=>?_⟩ om
  .rw[a7,List.mem_append,List.mem_singleton]at hj;by_cases ej:j=i
   .subst ej;simp only[LS.upd,Jt];rw[<-hP.path j U];exact⟨trivial,h2,h3,h4,trivial,trivial⟩
   simp only[LS.upd,Jc _ _ ej];exact a1 j (hj.resolve_right ej)
  rw[a7,List.mem_append,List.mem_singleton,not_or]at ad;simp only[LS.upd,Jc _ _ ad.2];exact ab j hj ad.1
 have eq:q=(c.I v).length:=by have:=oF h1;omega
 clear h1;rw[eq,List.take_of_length_le (Nat.le_refl _)]at a1 ab;have hS:Sib c v z S.p S.e:=⟨λi hi=>⟨(a1 i hi).2.1,(a1 i hi).2.2.1⟩,λi hi=>(a1 i hi).2.2.2.1⟩;obtain⟨lo,cg⟩:∃ lo,lo=S.p:=⟨_,rfl⟩;have a6:Sib c v z lo S.e:=by rw[cg];exact hS
 have a3:∀(f' h':Nat->Nat->Nat),∀ i∈c.I v,∀ a,c.F.val ⟨S.L,lo,S.e,f',h'⟩ i a=c.vl v i a:=λf' h' i hi a=>by
  unfold Fix.val JC.vl;simp only;rw[(a1 i hi).1,Nat.add_sub_cancel]
 have b6:∀(f' h':Nat->Nat->Nat),OnS c.F ⟨S.L,lo,S.e,f',h'⟩ (c.I v):=λf' h'=>by
  refine⟨λi hi=>?_,λi hi=>?_,λi hi a b h1 h2 h3=>?_,λi hi j hj e'=>hok.inj i j (JC.mem_I.1 hi).1 (JC.mem_I.1 hj).1 e',d3⟩
  .simp only;rw[(a1 i hi).1];exact⟨om,hok.lvd hi,hok.d32 i (JC.mem_I.1 hi).1⟩
  .simp only;rw[(a1 i hi).1,Nat.add_sub_cancel,Jxv];have h1:=(a1 i hi).2.2.1;have h2:=Jwv ((c.F.rs i).map (List.take (lv (c.vars i) v+1)));rw[List.length_map]at h2;have h3:(pfx (c.F.rs i) (lv (c.vars i) v+1)).length<=(c.F.rs i).length:=h2;have h4:=hok.big i (JC.mem_I.1 hi).1;exact⟨h1,om⟩
  rw[a3 f' h' i hi,a3 f' h' i hi];exact a6.srt hok hi h1 h2 h3
 have a9:∀ k,NG c.F (c.I v) c.J k->c.N k:=λk hk=>by
  rcases hk with hk|⟨i,hi,hk⟩
  .exact a4 k (.inl hk)
  exact a4 k (.inr (.inl ⟨i,(JC.mem_I.1 hi).1,hk⟩))
 have eb:∀ k,NG c.F (c.I v) c.J k->c.NI k:=λk hk=>by
  rcases hk with hk|⟨i,hi,hk⟩
  .exact .inl hk
  exact .inr (.inl ⟨i,(JC.mem_I.1 hi).1,hk⟩)
 have b5:∀ i,i<c.m->S.L i=lv (c.vars i) (v+1):=λi hi=>by
  by_cases Z:i∈c.I v
  .rw[(a1 i Z).1,(Yj (hok.asc i hi) (JC.mem_I.1 Z).2).1]
  rw[(ab i hi Z).1,Jjt (λh'=>Z (JC.mem_I.2 ⟨hi,h'⟩))]
 have dl:∀ i∈c.I v,S.e i<=1000000:=λi hi=>((b6 S.f S.h).rng i hi).2;have ck:∀ i∈c.I v,c.F.G i≠c.J:=λi hi=>hok.gj i (JC.mem_I.1 hi).1;have ao:∀ y,c.Ans y->y.take v=z.take v->∀ i∈c.I v,∃ a,lo i<=a/\a<S.e i/\c.vl v i a=y.getD v V0:=λy hy ht i hi=>a6.ans hok hy ht hi;have ai:∀(f' h':Nat->Nat->Nat) y,c.Ans y->y.take v=z.take v->Cmn c.F ⟨S.L,lo,S.e,f',h'⟩ (c.I v) (y.getD v V0):=λf' h' y hy ht i hi=>by
  obtain⟨a,h1,h2,h3⟩:=ao y hy ht i hi;exact⟨a,h1,h2,by rw[a3 f' h' i hi];exact h3⟩
 refine ρ ?_;refine cl (Qjq (F:=c.F) (V':=⟨S.L,lo,S.e,S.f,S.h⟩) (I:=c.I v) (J:=c.J) (p:=lo) (jr:=c.rowv) (ja:=c.ja) (yv:=c.yv) (B:=B2) (c:=ag) (b6 _ _) ae (c.nodup_I v) (λi hi=>by rw[cg];exact H1.its i (JC.mem_I.1 hi).1) H1.jb ck (λi hi=>(H1.env.tri i (JC.mem_I.1 hi).1).mono λk _ hk=>a9 k hk) ((hlist.gr av).mono λk _ hk=>a9 k hk)
  (λi hi=>⟨Nat.le_refl _,(a6.lt i hi).1⟩) (λi hi a h1 h2=>absurd h2 (by simp only at h1;omega))) ?_
 rintro u w2 ⟨hg2,aw,p2,t,rfl,ax,cd,ht,hf⟩;have H2:=H1.mt hok hY hg2 aw (p':=p2) ax;have c9:∀ f' h',c.F.val ⟨S.L,lo,S.e,f',h'⟩ ((c.I v).getD 0 0) (lo ((c.I v).getD 0 0))=c.vl v ((c.I v).getD 0 0) (lo ((c.I v).getD 0 0)):=λf' h'=>a3 f' h' _ D _;have be:∀ y,c.Ans y->y.take v=z.take v->cmpV (c.vl v ((c.I v).getD 0 0) (lo ((c.I v).getD 0 0))) (y.getD v V0)<=0:=λy hy ht=>by
  obtain⟨a,h1,h2,h3⟩:=ao y hy ht _ D;rw[<-h3];by_cases e:a=lo ((c.I v).getD 0 0)
  .rw[e,Vs];omega
  have:=a6.srt hok D (Nat.le_refl _) (show lo ((c.I v).getD 0 0)<a by omega) h2;omega
 refine ρ ?_;refine Js (fun (s:ES)=>[(0,.pointer (some ⟨c.J,0,none⟩)),(1,.int .i64 (v:Int)),(5,.slice B2 (c.I v).length ag),(8,.bool true),(9,.bool s.t)])
  (λs w'=>GrN c.N w w'/\Cfg c Y w' s.z S.L s.p S.e s.f s.h s.l/\s.z.take v=z.take v/\(∀ i,i<c.m->i ∉ c.I v->s.p i=p i)/\(∀ i,i<c.m->∀ k,k<S.L i->s.f i k=S.f i k/\s.h i k=S.h i k)/\Lt [] s.l/\(∀ x∈s.l,c.Ans x) /\
   (s.t=true->∃ x,(∀ i∈c.I v,lo i<=s.p i/\s.p i<S.e i/\c.vl v i (s.p i)=x)/\∀ y,y∈s.l↔y∈l∨(c.Ans y/\y.take v=z.take v/\cmpV (y.getD v V0) x<0)) /\
   (s.t=false->∀ y,y∈s.l↔y∈l∨(c.Ans y/\y.take v=z.take v))) (λs=>if s.t then S.e ((c.I v).getD 0 0)-s.p ((c.I v).getD 0 0) else 0) ⟨t,z,λi=>if i∈c.I v then p2 i else S.p i,S.f,S.h,l⟩ sB
  ⟨av.trans (hg2.mono λk _ hk=>a9 k hk),H2,rfl,λi hi a5=>?_,λi hi k hk=>⟨rfl,rfl⟩,hl,bw,λe=>?_,λe y=>?_⟩ ?_
 .simp only[if_neg a5];exact(ab i hi a5).2.1
 .obtain⟨x,ac,bo,db⟩:=ht e;refine⟨x,λi hi=>?_,λy=>⟨.inl,λhy=>?_⟩⟩
  .simp only[if_pos hi];refine⟨(cd i hi).1,(ac i hi).1,?_⟩;rw[<-a3 S.f S.h i hi];exact(ac i hi).2
  rcases hy with hy|⟨h1,h2,h3⟩
  .exact hy
  exfalso
  have h4:=db _ (ai S.f S.h y h1 h2) (by rw[c9];exact be y h1 h2);have:=cmp_V.anti x (y.getD v V0);omega
 .refine⟨.inl,λhy=>?_⟩;rcases hy with hy|⟨h1,h2⟩
  .exact hy
  exact absurd (show cmpV _ _<=0 by rw[c9];exact be y h1 h2) (hf e _ (ai S.f S.h y h1 h2))
 clear ax cd ht hf H2 aw hg2 H1 av;rintro s w2 ⟨hg2,H2,c6,b3,c0,bd,bg,ca,cw⟩;refine ρ ?_;refine ci (λh1=>?_) (λh1=>?_)
 .obtain⟨x,ac,bo⟩:=ca h1;have a8:=ac _ D;have e7:=a8.1;have e6:=a8.2.1;obtain⟨ec,aw⟩:=H2.jb;rw[b2]at aw;refine ρ ?_;refine drN (λk=>c.rowv.ownBlock=some k) 14 [(0,0),(0,1),(0,2),(0,3),(0,4),(0,5),(0,6),(0,7),(1,8),(0,9),(0,10),(0,11),(0,12),(1,13)] kr ?_;have b1:Ext w2 w2.drew:=(Ext.refl w2).drew;have ds:=aw.ext b1;have H3:=H2.ext hY b1;have d5:=(hlist.gr hg2).ext b1;obtain⟨ee,dw⟩:=H3.its _ (JC.mem_I.1 D).1;refine ρn ?_;refine nld (Qy (ds.at (i:=0) rfl) (λe=>H2.rowJ e rfl)) ?_;refine ρn ?_;refine nix 0 d5.here ae ?_;refine ρn ?_;refine nld (λw' hg=>(d5 w' (hg.mono λk _ ek=>a4 k (.inr (.inr ek)))).cell (Jxb ae)) ?_;refine ρn ?_;refine nop ?_;refine cl (Jhh dw (H3.env.tri _ (JC.mem_I.1 D).1).here (by rw[(a1 _ D).1];exact hok.lvd D) (hok.d32 _ (JC.mem_I.1 D).1) (λ_=>((b6 s.f s.h).rng _ D).1)) ?_;rintro u w4 ⟨bn,vv,rfl,df⟩;have de:vv=x:=by
   rw[df ⟨by rw[(a1 _ D).1];omega,a8.2.1⟩,<-a8.2.2,JC.vl,(a1 _ D).1,Nat.add_sub_cancel]
  subst de;refine ρ ?_;refine Qg (GrN.ext bn) ?_;have H4:=H3.ext hY bn;have an:w4.ownsRow c.base 102 3 (.slice c.Ra c.n c.n) c.n (Qw s.z):=by
   have:=H4.row;rw[Uv,H4.zl,b2]at this;exact this
  refine ρn ?_;refine Ul 3 v (Rd.own an) hv ?_;refine ρn ?_;refine nop ?_;refine stoE (cs:=vv.cells) an hv ?_ (V.one _);intro w5 bq co;refine ω5 ?_;refine Qg (GrN.by co λk ek=>ek) ?_;refine ρn ?_;have bb:v<s.z.length:=by rw[H2.zl];exact hv
  rw[<-Jfh s.z v vv bb]at bq;have ar:w4.grownBy w5 c.rowv.ownBlock:=co;have au:GrN c.NI w4 w5:=GrN.by ar λk ek=>.inr (.inr ek)
  obtain⟨z2,b9⟩:∃ z2,z2=s.z.set v vv:=⟨_,rfl⟩;rw[<-b9]at bq;have am:z2.length=c.n:=by rw[b9,List.length_set];exact H2.zl
  have ah:z2.take v=z.take v:=by rw[b9,Qfg];exact c6
  have ak:z2.getD v V0=vv:=by rw[b9];exact Qfj vv bb
  have H5:Cfg c Y w5 z2 S.L s.p S.e s.f s.h s.l:=by
   refine⟨H4.env.gr (au.mono λk _ hk=>a4 k hk),λi hi=>?_,by rw[Uv,am,b2];exact bq,am,?_,hY.keep _ _ _ H4.y au⟩
   .obtain⟨st,h1⟩:=H4.its i hi;exact⟨st,h1.grown ar (λe=>H4.rowG hi e.symm rfl)⟩
   obtain⟨st,h1⟩:=H4.jb;exact⟨st,h1.grown ar (λe=>H4.rowJ e.symm rfl)⟩
  have bh:GrN c.N w2 w5:=(GrN.ext (b1.trans bn)).trans (au.mono λk _ hk=>a4 k hk);refine ρ ?_;have dn:Pth c (v+1) z2 s.p S.e:=Pth.step hok hP a6 dc ac ah ak (λi hi a5=>⟨b3 i hi a5,(ab i hi a5).2.2.1⟩) (λi _=>rfl);have a7:∀ y:Row,c.Ans y->(y.take (v+1)=z2.take (v+1)↔y.take v=z.take v/\y.getD v V0=vv):=λy hy=>by
   have d9:v<y.length:=by rw[hy.1];exact hv
   have bl:v<z2.length:=by rw[am];exact hv
   constructor
   .intro h;have h5:=Jpg h (Nat.le_succ v);refine⟨h5.trans ah,?_⟩;rw[<-ak];exact Jph h (Nat.lt_succ_self v)
   rintro⟨h5,h6⟩;exact Qcp (h5.trans ah.symm) d9 bl (h6.trans ak.symm)
  refine cl (ih (v+1) z2 s.p S.e s.f s.h s.l w5 om (H5.congr λi hi=>⟨(b5 i hi).symm,rfl,rfl,rfl,rfl⟩) dn bd bg (λy hy z' bm ht=>?_)) ?_
  .obtain⟨h5,h6⟩:=(a7 z' bm).1 ht;rcases(bo y).1 hy with h7|⟨h7,h8,h9⟩
   .exact bu y h7 z' bm h5
   exact Qwq v y z' (h8.trans h5.symm) (by rw[h7.1];exact hv) (by rw[bm.1];exact hv) (by rw[h6];exact h9)
  rintro u w6 ⟨rfl,hg6,z6,f6,h6,l6,H6,d8,cu,bc,ch⟩;have d6:Cfg c Y w6 z6 S.L s.p S.e f6 h6 l6:=H6.congr λi hi=>⟨b5 i hi,rfl,rfl,rfl,rfl⟩;have ba:z6.take v=z.take v:=(Jpg d8 (Nat.le_succ v)).trans ah;have bf:∀ y∈l6,c.Ans y:=λy hy=>by
   rcases(ch y).1 hy with h7|h7
   .exact bg y h7
   exact h7.1
  have ap:∀ y,y∈l6↔y∈l∨(c.Ans y/\y.take v=z.take v/\cmpV (y.getD v V0) vv<=0):=λy=>by
   rw[ch,bo];constructor
   .rintro((h7|⟨h7,h8,h9⟩)|⟨h7,h8⟩)
    .exact .inl h7
    .exact .inr ⟨h7,h8,om⟩
    obtain⟨h9,O⟩:=(a7 y h7).1 h8;exact .inr ⟨h7,h9,by rw[O,Vs];omega⟩
   rintro(h7|⟨h7,h8,h9⟩)
   .exact .inl (.inl h7)
   by_cases e:cmpV (y.getD v V0) vv=0
   .exact .inr ⟨h7,(a7 y h7).2 ⟨h8,cmp_V.zero _ _ e⟩⟩
   exact .inl (.inr ⟨h7,h8,om⟩)
  have bi:∀ i,i<c.m->∀ k,k<S.L i->f6 i k=S.f i k/\h6 i k=S.h i k:=λi hi k hk=>by
   have h7:=cu i hi k (by rw[<-b5 i hi];exact hk);have h8:=c0 i hi k hk;exact⟨h7.1.trans h8.1,h7.2.trans h8.2⟩
  refine ρ ?_;obtain⟨ed,du⟩:=d6.its _ (JC.mem_I.1 D).1;have d4:=hlist.gr (hg2.trans (bh.trans hg6));refine ix 0 d4.here ae ?_;refine ρ ?_;refine ld (d4.here.cell (Jxb ae)) ?_;refine ρ ?_;refine cl (Qsg du (by rw[(a1 _ D).1];omega) a8.2.1 (dl _ D)) ?_;rintro u w7 ⟨rfl,hg7,dt⟩;have cn:GrN c.N w6 w7:=hg7.mono λk _ ek=>a4 k (.inr (.inl ⟨_,(JC.mem_I.1 D).1,ek⟩));have H7:=d6.it hok hY (JC.mem_I.1 D).1 hg7 dt;have aj:Cfg c Y w7 z6 S.L (upd s.p ((c.I v).getD 0 0) (s.p ((c.I v).getD 0 0)+1)) S.e f6 h6 l6:=by
   rw[Jqr,Jqr,Jqr,Jqr]at H7;exact H7
  obtain⟨p7,c5⟩:∃ p7,p7=upd s.p ((c.I v).getD 0 0) (s.p ((c.I v).getD 0 0)+1):=⟨_,rfl⟩;rw[<-c5]at aj;have bj:p7 ((c.I v).getD 0 0)=s.p ((c.I v).getD 0 0)+1:=by rw[c5,Jt]
  have az:∀ i,i≠(c.I v).getD 0 0->p7 i=s.p i:=λi hi=>by rw[c5,Jc _ _ hi]
  have aq:GrN c.N w w7:=(hg2.trans bh).trans (hg6.trans cn);have aa:∀ y,c.Ans y->y.take v=z.take v->¬ cmpV (y.getD v V0) vv<=0->∃ a,s.p ((c.I v).getD 0 0)+1<=a/\a<S.e ((c.I v).getD 0 0)/\c.vl v ((c.I v).getD 0 0) a=y.getD v V0:=λy hy ht hgt=>by
   obtain⟨a,h7,h8,h9⟩:=ao y hy ht _ D;refine⟨a,?_,h8,h9⟩;rcases Nat.lt_trichotomy a (s.p ((c.I v).getD 0 0)) with O|O|O
   .have:=a6.srt hok D h7 O a8.2.1;rw[a8.2.2,h9]at this;omega
   .rw[O,a8.2.2]at h9;rw[<-h9,Vs]at hgt;omega
   omega
  refine ρ ?_;refine ki 59 (λh5=>?_) (λh5=>?_)
  .have bt:s.p ((c.I v).getD 0 0)+1<S.e ((c.I v).getD 0 0):=oT h5;clear h5;have ce:cmpV vv (c.vl v ((c.I v).getD 0 0) (s.p ((c.I v).getD 0 0)+1))<0:=by
    have:=a6.srt hok D a8.1 (Nat.lt_succ_self _) bt;rw[a8.2.2]at this;exact this
   have c8:c.F.val ⟨S.L,lo,S.e,f6,h6⟩ ((c.I v).getD 0 0) (p7 ((c.I v).getD 0 0))=c.vl v ((c.I v).getD 0 0) (s.p ((c.I v).getD 0 0)+1):=by rw[bj];exact a3 f6 h6 _ D _
   refine ρ ?_;refine cl (Qjq (F:=c.F) (V':=⟨S.L,lo,S.e,f6,h6⟩) (I:=c.I v) (J:=c.J) (p:=p7) (jr:=c.rowv) (ja:=c.ja) (yv:=c.yv) (B:=B2) (c:=ag) (b6 _ _) ae (c.nodup_I v) (λi hi=>aj.its i (JC.mem_I.1 hi).1) aj.jb ck (λi hi=>(aj.env.tri i (JC.mem_I.1 hi).1).mono λk _ hk=>a9 k hk) ((hlist.gr aq).mono λk _ hk=>a9 k hk)
    (λi hi=>?_) (λi hi a h7 h8=>?_)) ?_
   .have h9:=ac i hi;by_cases e:i=(c.I v).getD 0 0
    .rw[e,bj];simp only;omega
    rw[az i e];simp only;omega
   .rw[c8,a3 f6 h6 i hi];have h9:=ac i hi;simp only at h7;by_cases e:i=(c.I v).getD 0 0
    .rw[e]at h7 h8 ⊢;rw[bj]at h8;exact a6.srt hok D h7 h8 bt
    rw[az i e]at h8;have O:=a6.srt hok hi h7 h8 h9.2.1;rw[h9.2.2]at O;exact cmp_V.lt_trans O ce
   rintro u w8 ⟨cm,dq,p8,t8,rfl,c2,cb,bp,cx⟩;have H8:=aj.mt hok hY cm dq (p':=p8) c2;rw[c8]at bp cx;refine ρ ?_;have bs:t8=true->s.p ((c.I v).getD 0 0)<p8 ((c.I v).getD 0 0)/\p8 ((c.I v).getD 0 0)<S.e ((c.I v).getD 0 0):=λe=>by
    obtain⟨x',h7,h8,h9⟩:=bp e;have O:=h7 _ D;rw[a3 f6 h6 _ D]at O;refine⟨?_,O.1⟩;rcases Nat.lt_or_ge (s.p ((c.I v).getD 0 0)) (p8 ((c.I v).getD 0 0)) with a2|a2
    .exact a2
    exfalso
    have af:=(cb _ D).1;simp only at af;have c4:cmpV x' (c.vl v ((c.I v).getD 0 0) (s.p ((c.I v).getD 0 0)+1))<0:=by
     rw[<-O.2];exact a6.srt hok D af om bt
    have:=cmp_V.anti x' (c.vl v ((c.I v).getD 0 0) (s.p ((c.I v).getD 0 0)+1));omega
   refine Jp ⟨t8,z6,λi=>if i∈c.I v then p8 i else p7 i,f6,h6,l6⟩ sB
    ⟨aq.trans (cm.mono λk _ hk=>a9 k hk),H8,ba,λi hi a5=>?_,bi,bc,bf,λe=>?_,λe y=>?_⟩ ?_
   .simp only[if_neg a5];rw[az i (λe=>a5 (e ▸ D))];exact b3 i hi a5
   .obtain⟨x',h7,h8,h9⟩:=bp e;refine⟨x',λi hi=>?_,λy=>?_⟩
    .simp only[if_pos hi];refine⟨(cb i hi).1,(h7 i hi).1,?_⟩;rw[<-a3 f6 h6 i hi];exact(h7 i hi).2
    rw[ap];have da:cmpV vv x'<0:=cmp_V.lt_le ce h8;constructor
    .rintro(O|⟨O,a2,af⟩)
     .exact .inl O
     exact .inr ⟨O,a2,cmp_V.le_lt af da⟩
    rintro(O|⟨O,a2,af⟩)
    .exact .inl O
    refine .inr ⟨O,a2,Classical.byContradiction λhgt=>?_⟩;obtain⟨a,c4,b8,b7⟩:=aa y O a2 hgt;have dz:cmpV (c.vl v ((c.I v).getD 0 0) (s.p ((c.I v).getD 0 0)+1)) (y.getD v V0)<=0:=by
     rw[<-b7];by_cases e:a=s.p ((c.I v).getD 0 0)+1
     .rw[e,Vs];omega
     have:=a6.srt hok D (show lo ((c.I v).getD 0 0)<=s.p ((c.I v).getD 0 0)+1 by omega) (show s.p ((c.I v).getD 0 0)+1<a by omega) b8;omega
    have eh:=h9 _ (ai f6 h6 y O a2) dz;have:=cmp_V.anti x' (y.getD v V0);omega
   .rw[ap];constructor
    .rintro(O|⟨O,a2,af⟩)
     .exact .inl O
     exact .inr ⟨O,a2⟩
    rintro(O|⟨O,a2⟩)
    .exact .inl O
    refine .inr ⟨O,a2,Classical.byContradiction λhgt=>?_⟩;obtain⟨a,c4,b8,b7⟩:=aa y O a2 hgt;refine cx e _ (ai f6 h6 y O a2) ?_;rw[<-b7];by_cases e:a=s.p ((c.I v).getD 0 0)+1
    .rw[e,Vs];omega
    have:=a6.srt hok D (show lo ((c.I v).getD 0 0)<=s.p ((c.I v).getD 0 0)+1 by omega) (show s.p ((c.I v).getD 0 0)+1<a by omega) b8;omega
   simp only[h1,if_true,if_pos D];by_cases e:t8=true
   .have:=bs e;rw[if_pos e];omega
   rw[if_neg e];omega
  have ef:¬ s.p ((c.I v).getD 0 0)+1<S.e ((c.I v).getD 0 0):=oF h5;clear h5;refine ρ ?_;refine Jp ⟨false,z6,p7,f6,h6,l6⟩ sB
   ⟨aq,aj,ba,λi hi a5=>?_,bi,bc,bf,λe=>(by cases e),λ_ y=>?_⟩ ?_
  .simp only;rw[az i (λe=>a5 (e ▸ D))];exact b3 i hi a5
  .rw[ap];constructor
   .rintro(O|⟨O,a2,af⟩)
    .exact .inl O
    exact .inr ⟨O,a2⟩
   rintro(O|⟨O,a2⟩)
   .exact .inl O
   refine .inr ⟨O,a2,Classical.byContradiction λhgt=>?_⟩;obtain⟨a,c4,b8,b7⟩:=aa y O a2 hgt;omega
  simp only[h1,if_true,Bool.false_eq_true,if_false];omega
 have cr:=cw h1;clear ca cw;refine ρ ?_;refine Qq (fun (q:Nat) (R:LS)=>[(0,.pointer (some ⟨c.J,0,none⟩)),(1,.int .i64 (v:Int)),(8,.bool true),(83,.slice B2 (c.I v).length ag),(84,.int .i64 ((c.I v).length:Int)),(85,.int .i64 (q:Int))])
  (λq R w'=>q<=(c.I v).length/\GrN c.N w w'/\Cfg c Y w' s.z R.L R.p R.e s.f s.h s.l /\
   (∀ i∈(c.I v).take q,R.L i=lv (c.vars i) v/\R.p i=p i/\R.e i=e i) /\
   (∀ i,i<c.m->i ∉ (c.I v).take q->R.L i=S.L i/\R.p i=s.p i/\R.e i=S.e i)) (λq _=>(c.I v).length-q) 0 ⟨S.L,s.p,S.e,s.f,s.h⟩ sB
  ⟨Nat.zero_le _,hg2,H2,λi hi=>by simp at hi,λi _ _=>⟨rfl,rfl,rfl⟩⟩ ?_
 rintro q R w3 ⟨hq,bz,H3,c1,b4⟩;refine ρ ?_;refine ci (λh2=>?_) (λh2=>?_)
 .have lq:q<(c.I v).length:=by have:=oT h2;omega
  clear h2;have d0:=hlist w3 bz;refine ρ ?_;refine ix q d0 lq ?_;refine ρ ?_;refine ld (d0.cell (Jxb lq)) ?_;refine ρ ?_;obtain⟨i,hi⟩:∃ i,i=(c.I v).getD q 0:=⟨_,rfl⟩;rw[<-hi];have Z:i∈c.I v:=by rw[hi];exact getD_mem' 0 _ lq
  obtain⟨U,cj⟩:=JC.mem_I.1 Z;have a7:(c.I v).take (q+1)=(c.I v).take q++[i]:=by rw[Qr 0 lq,hi]
  have br:i ∉ (c.I v).take q:=λhm=>by
   have h1:((c.I v).take (q+1)).Nodup:=(c.nodup_I v).sublist (List.take_sublist _ _);rw[a7,List.nodup_append]at h1;exact h1.2.2 _ hm _ (List.mem_singleton.2 rfl) rfl
  obtain⟨e1,e2,e3⟩:=b4 i U br;obtain⟨d7,ay⟩:=H3.its i U;rw[e1,(a1 i Z).1]at ay;have eg:=hok.lvd Z;have e9:=hok.d32 i U;refine cl (Qsb ay om) ?_;rintro u w4 ⟨cp,d2⟩;have cq:=c0 i U (lv (c.vars i) v) (by rw[(a1 i Z).1];omega);have di:S.f i (lv (c.vars i) v)=p i:=by rw[(a1 i Z).2.2.2.2.1,Jt]
  have dh:S.h i (lv (c.vars i) v)=e i:=by rw[(a1 i Z).2.2.2.2.2,Jt]
  rw[cq.1,cq.2,di,dh]at d2;have H4:=H3.it hok hY U cp d2;have e0:Cfg c Y w4 s.z (upd R.L i (lv (c.vars i) v)) (upd R.p i (p i)) (upd R.e i (e i)) s.f s.h s.l:=by
   rw[Jqr,Jqr]at H4;exact H4
  refine ρ ?_;refine Ju (q+1) ⟨upd R.L i (lv (c.vars i) v),upd R.p i (p i),upd R.e i (e i),s.f,s.h⟩ sO ⟨om,bz.trans (cp.mono λj _ ej=>a4 j (.inr (.inl ⟨i,U,ej⟩))),e0,λj hj=>?_,λj hj ad=>?_⟩ om
  .rw[a7,List.mem_append,List.mem_singleton]at hj;by_cases ej:j=i
   .subst ej;simp only[Jt];exact⟨trivial,trivial,trivial⟩
   simp only[Jc _ _ ej];exact c1 j (hj.resolve_right ej)
  rw[a7,List.mem_append,List.mem_singleton,not_or]at ad;simp only[Jc _ _ ad.2];exact b4 j hj ad.1
 have eq:q=(c.I v).length:=by have:=oF h2;omega
 rw[eq,List.take_of_length_le (Nat.le_refl _)]at c1 b4;have H5:Cfg c Y w3 s.z (λi=>lv (c.vars i) v) p e s.f s.h s.l:=H3.congr λi hi=>by
  by_cases Z:i∈c.I v
  .have:=c1 i Z;exact⟨this.1.symm,this.2.1.symm,this.2.2.symm,rfl,rfl⟩
  have h5:=b4 i hi Z;have h6:=ab i hi Z;exact⟨(h5.1.trans h6.1).symm,(h5.2.1.trans (b3 i hi Z)).symm,(h5.2.2.trans h6.2.2.1).symm,rfl,rfl⟩
 refine ρ ?_;refine Jq ⟨rfl,bz,s.z,s.f,s.h,s.l,H5,c6,λi hi k hk=>?_,bd,cr⟩;have h5:=c0 i hi k (by rw[b5 i hi];have:=Qqb (c.vars i) v;by_cases Z:i∈c.I v;(rw[(Yj (hok.asc i hi) (JC.mem_I.1 Z).2).1];omega);rw[Jjt (λh'=>Z (JC.mem_I.2 ⟨hi,h'⟩))];exact hk);by_cases Z:i∈c.I v
 .obtain⟨_,_,_,_,h8,h9⟩:=a1 i Z;rw[h5.1,h5.2,h8,h9,Jc _ _ om,Jc _ _ om];exact⟨rfl,rfl⟩
 obtain⟨_,_,_,h8,h9⟩:=ab i hi Z;rw[h5.1,h5.2,h8,h9];exact⟨rfl,rfl⟩
open Go.RowKit Pl Go.Wk
variable {g j k v:Nat}{p v4 va':Value}{w1 w2 w4:World}
theorem EIt: ElT Tryz.prog 291 297 1 8 (.pointer none):=⟨Tryz.underlying291,info_parts kr,rfl,by decide⟩
theorem EIts: ElT Tryz.prog 288 291 1 24 (.slice none 0 0):=⟨Tryz.underlying288,info_parts kr,rfl,by decide⟩
theorem Qvb(p:Option Addr)(w:World): (Instr.buildSlice 291 1 #[(0,.pointer p)]).run Tryz.prog w=.ok (.slice (some ⟨w.heap.size,0,none⟩) 1 1) (w.alloc (.cells [.pointer p].toArray 297)):=kr
theorem Xkr(A B:Option Addr)(n:Nat)(fid:FuncId)(first cap:Array Value)(w:World): (Instr.build 290 #[(0,.slice A n n),(1,.slice B n n),(3,.func (.func fid) first cap)]).run Tryz.prog w=.ok (.agg #[.slice A n n,.slice B n n,.int .i64 0,.func (.func fid) first cap]) w:=kr
structure RK where
 n: Nat
 vars:Nat->List Nat
 rs:Nat->List Row
 base:Nat
 J:Nat
 Ra:Option Addr
 Ba:Option Addr
 yv:Value
structure RS where
 G: Nat->Nat
 A:Nat->Option Addr
 lo:Nat->Nat
 hi:Nat->Nat
 va:Value
 vat:Nat->Value
def OB(K:RK)(S:RS)(k:Nat): Prop:=k=K.J∨(Value.slice K.Ra K.n K.n).ownBlock=some k∨(Value.slice K.Ba K.n K.n).ownBlock=some k∨S.va.ownBlock=some k∨∃ v,v<K.n/\(S.vat v).ownBlock=some k
structure RB(K:RK)(q:Nat)(S:RS)(cont:Nat->List Value)(alls:List Value)(w:World): Prop where
 jb:Blk w K.J 290 [.slice K.Ra K.n K.n,.slice K.Ba K.n K.n,.int .i64 0,K.yv]
 row:Uv w K.base (.slice K.Ra K.n K.n) (List.replicate K.n V0)
 at_:w.ownsRow K.base 291 1 (.slice K.Ba K.n K.n) K.n ((List.range K.n).map S.vat)
 lists:Fam w K.base 297 1 K.n S.vat (λv=>(cont v).length) cont
 all:w.ownsRow K.base 297 1 S.va alls.length alls
 alld:∀ v g,v<K.n->(S.vat v).ownBlock=some g->S.va.ownBlock≠some g
 its:∀ j,j<q->ItB w (S.G j) (S.A j) (K.vars j).length 0 0 0 (λ_=>0) (λ_=>0) 0
 tri:∀ j,j<q->Off (λk=>k<S.lo j∨S.hi j<=k) w (λu=>TriA u (S.A j) (K.vars j).length (K.rs j))
 iv:∀ j k,j<q->OB K S k->k<S.lo j∨S.hi j<=k
 gi:∀ i j,i<q->j<q->S.G i<S.lo j∨S.hi j<=S.G i
 ginj:∀ i j,i<j->j<q->S.G i<S.G j
 jlo:∀ j,j<q->K.J<S.lo j/\S.hi j<=w.heap.size
 jg:∀ j,j<q->K.J<S.G j
 bj:K.base<=K.J
section
variable {K:RK} {q:Nat} {S:RS} {cont:Nat->List Value} {alls:List Value} {w w':World}
theorem RB.ext(H:RB K q S cont alls w)(hx:Ext w w'): RB K q S cont alls w' :=
 ⟨H.jb.ext hx,Jh H.row hx,Jh H.at_ hx,H.lists.ext hx,Jh H.all hx,H.alld,λj i=>(H.its j i).ext hx,λj i=>(H.tri j i).ext hx,H.iv,H.gi,H.ginj,λj i=>⟨(H.jlo j i).1,Nat.le_trans (H.jlo j i).2 hx.size⟩,H.jg,H.bj⟩
theorem RB.oblt(H:RB K q S cont alls w)(h:OB K S k): k<w.heap.size:=by
 have i:∀ {base e sz m:Nat} {v:Value} {xs:List Value},w.ownsRow base e sz v m xs->∀ g,v.ownBlock=some g->g<w.heap.size:=λj g u=>by grind [Jv]
 rcases h with h|h|h|h|⟨v,hv,h⟩
 .rw[h];exact H.jb.lt
 .exact i H.row k h
 .exact i H.at_ k h
 .exact i H.all k h
 exact i (H.lists.own v hv) k h
theorem RB.iter(H:RB K q S cont alls w){A:Option Addr}(hx1:Ext w w1)(hT:Off (λk=>k<w.heap.size) w1 (λu=>TriA u A (K.vars q).length (K.rs q)))(hx2:Ext w1 w2)(hg:w1.heap.size<=g)(hI:ItB w2 g A (K.vars q).length 0 0 0 (λ_=>0) (λ_=>0) 0):
  RB K (q+1) { S with G:=upd S.G q g,A:=upd S.A q A,lo:=upd S.lo q w.heap.size,hi:=upd S.hi q w1.heap.size } cont alls w2:=by
 have D:=H.ext (hx1.trans hx2);have a2:=hI.lt;have ne:∀ {j},j<q->j≠q:=λh e=>by omega
 have B:∀ {j},j<q+1->j<q∨j=q:=λh=>by omega
 have a1:=hx1.size;have U:=hx2.size;refine⟨D.jb,D.row,D.at_,D.lists,D.all,D.alld,λj y=>?_,λj y=>?_,λj k y Z=>?_,λi j hi y=>?_,λi j J y=>?_,λj y=>?_,λj y=>?_,D.bj⟩
 .rcases B y with y|rfl
  .simp only[Jc _ _ (ne y)];exact D.its j y
  repeat grind [Jt]
 .rcases B y with y|rfl
  .simp only[Jc _ _ (ne y)];exact D.tri j y
  simp only[Jt];exact(hT.mono λk Z h=>by grind).ext hx2
 .have O:OB K S k:=Z;rcases B y with y|rfl
  .simp only[Jc _ _ (ne y)];exact H.iv j k y O
  simp only[Jt];exact .inl (H.oblt O)
 .rcases B y with y|rfl
  .simp only[Jc _ _ (ne y)];have h5:=(H.jlo j y).2;rcases B hi with hi|rfl
   .simp only[Jc _ _ (ne hi)];exact H.gi i j hi y
   repeat grind [Jt]
  simp only[Jt];rcases B hi with hi|rfl
  .simp only[Jc _ _ (ne hi)];exact .inl (H.its i hi).lt
  repeat grind [Jt]
 .rcases B y with y|rfl
  .simp only[Jc _ _ (ne y),Jc _ _ (ne (show i<q by omega))];exact H.ginj i j J y
  simp only[Jt,Jc _ _ (ne J)];have:=(H.its i J).lt;omega
 .rcases B y with y|rfl
  .simp only[Jc _ _ (ne y)];exact D.jlo j y
  simp only[Jt];exact⟨H.jb.lt,U⟩
 rcases B y with y|rfl
 .simp only[Jc _ _ (ne y)];exact D.jg j y
 simp only[Jt];have:=H.jb.lt;omega
theorem RB.trig(H:RB K q S cont alls w){N:Nat->Prop}(hg:GrN N w w')(hN:∀ k,k<w.heap.size->N k->OB K S k)(hj:j<q): Off (λk=>k<S.lo j∨S.hi j<=k) w' (λu=>TriA u (S.A j) (K.vars j).length (K.rs j)) :=
 (H.tri j hj).gr (hg.mono λk i h=>H.iv j k hj (hN k i h))
theorem RB.pushAll(H:RB K q S cont alls w)(ho:w'.ownsRow K.base 297 1 va' (alls.length+1) (alls++[p]))(hg:w.grownBy w' S.va.ownBlock)(hn:∀ g,va'.ownBlock=some g->S.va.ownBlock=some g∨w.heap.size<=g):
  RB K q { S with va:=va' } cont (alls++[p]) w':=by
 have y:GrN (λk=>S.va.ownBlock=some k) w w':=GrN.by hg λk U=>U
 have G:∀ g,S.va.ownBlock=some g->g≠K.J:=λg D e=>(H.jb.ne_own H.all rfl) (by rw[D,e]);have B:∀ k,OB K { S with va:=va' } k->OB K S k∨w.heap.size<=k:=λk O=>by
  rcases O with h|h|h|h|h
  .exact .inl (.inl h)
  .exact .inl (.inr (.inl h))
  .exact .inl (.inr (.inr (.inl h)))
  .rcases hn k h with h'|h'
   .exact .inl (.inr (.inr (.inr (.inl h'))))
   exact .inr h'
  exact .inl (.inr (.inr (.inr (.inr h))))
 refine⟨Jr H.jb y (λe=>G _ e rfl),Vg H.row H.all hg rfl,Vg H.at_ H.all hg rfl,H.lists.gr y (λi g hi D e=>H.alld i g hi D e),by grind,λv g Z D e=>?_,λj u=>?_,λj u=>?_,λj k u O=>?_,H.gi,H.ginj,λj u=>⟨(H.jlo j u).1,Nat.le_trans (H.jlo j u).2 hg.size⟩,H.jg,H.bj⟩
 .rcases hn g e with h'|h'
  .exact H.alld v g Z D h'
  have:=(H.lists.lt Z D).2;omega
 .exact Jr (H.its j u) y (λe=>(H.its j u).ne_own H.all rfl e.symm)
 .exact H.trig y (λk _ U=>.inr (.inr (.inr (.inl U)))) u
 rcases B k O with h'|h'
 .exact H.iv j k u h'
 have:=(H.jlo j u).2;exact .inr (by simp only;omega)
theorem RB.pushAt(H:RB K q S cont alls w)(hv:v<K.n)(ho:w4.ownsRow K.base 297 1 v4 ((cont v).length+1) (cont v++[p]))(hg:w.grownBy w4 (S.vat v).ownBlock)(hn:∀ g,v4.ownBlock=some g->(S.vat v).ownBlock=some g∨w.heap.size<=g):
  w4.cell? (adr K.Ba v)=some (S.vat v)/\w4.frozen? (adr K.Ba v)=false/\v4.oneCell'=true/\RB K q { S with vat:=upd S.vat v v4 } (upd cont v (cont v++[p])) alls (w4.setCell (adr K.Ba v) v4)/\GrN (λk=>(S.vat v).ownBlock=some k∨(Value.slice K.Ba K.n K.n).ownBlock=some k) w (w4.setCell (adr K.Ba v) v4):=by
 have G:=H.lists.own v hv;have a1:w4.ownsRow K.base 291 1 (.slice K.Ba K.n K.n) K.n ((List.range K.n).map S.vat):=Vg H.at_ G hg rfl;have F4:=H.lists.upd hv ho hg hn;obtain⟨s1,s2,s3,s4,s5⟩:=Xp a1 (q:=v) om v4;have h1:v4.oneCell'=true:=by obtain⟨B,c,e,_⟩:=Jv ho;rw[e];rfl
 have y:GrN (λk=>(S.vat v).ownBlock=some k∨(Value.slice K.Ba K.n K.n).ownBlock=some k) w (w4.setCell (adr K.Ba v) v4):=(GrN.by hg λk ek=>.inl ek).trans (GrN.by s5 λk ek=>.inr ek);have a2:∀ k,(S.vat v).ownBlock=some k∨(Value.slice K.Ba K.n K.n).ownBlock=some k->OB K S k:=λk U=>by
  rcases U with h|h
  .exact .inr (.inr (.inr (.inr ⟨v,hv,h⟩)))
  exact .inr (.inr (.inl h))
 have O:∀ k,OB K { S with vat:=upd S.vat v v4 } k->OB K S k∨w.heap.size<=k:=λk U=>by
  rcases U with h|h|h|h|⟨u,hu,h⟩
  .exact .inl (.inl h)
  .exact .inl (.inr (.inl h))
  .grind
  .exact .inl (.inr (.inr (.inr (.inl h))))
  by_cases e:u=v
  .grind [Jt]
  simp only[Jc _ _ e]at h;exact .inl (.inr (.inr (.inr (.inr ⟨u,hu,h⟩))))
 have a3:((List.range K.n).map S.vat).set v v4=(List.range K.n).map (upd S.vat v v4):=by
  apply List.ext_getElem?
  grind [Jt,Jc]
 rw[a3]at s3;have F5:=F4.other a1 s5 rfl;have nJ:¬ ((S.vat v).ownBlock=some K.J∨(Value.slice K.Ba K.n K.n).ownBlock=some K.J):=by
  rintro(h|h)
  .exact H.jb.ne_own G rfl h.symm
  exact H.jb.ne_own H.at_ rfl h.symm
 refine⟨s1.trans (by simp[hv]),s2,h1,⟨Jr H.jb y nJ,Vg (Vg H.row G hg rfl) a1 s5 rfl,s3,⟨λi hi=>?_,F5.dis⟩,Qj H.all y (λg Z=>?_),λu g hu Z e=>?_,λj D=>?_,λj D=>H.trig y (λk _ U=>a2 k U) D,λj k D U=>?_,H.gi,H.ginj,λj D=>⟨(H.jlo j D).1,Nat.le_trans (H.jlo j D).2 y.size⟩,H.jg,H.bj⟩,y⟩
 .have:=F5.own i hi;grind [Jt,List.length_append,List.length_singleton,Jc]
 .rintro(h|h)
  .exact H.alld v g hv h Z
  exact Jxh H.at_ H.all rfl h Z
 .by_cases e':u=v
  .subst e';simp only[Jt]at Z;rcases hn g Z with h'|h'
   .exact H.alld u g hu h' e
   obtain⟨_,_,_,_,hf⟩:=Jv H.all;grind
  simp only[Jc _ _ e']at Z;exact H.alld u g hu Z e
 .refine Jr (H.its j D) y ?_;rintro(h|h)
  .exact(H.its j D).ne_own G rfl h.symm
  exact(H.its j D).ne_own H.at_ rfl h.symm
 rcases O k U with h'|h'
 .exact H.iv j k D h'
 have:=(H.jlo j D).2;exact .inr (by simp only;omega)
end
open Go.RowKit Pl Go.Wk
attribute [local irreducible] WG
variable {vs:List Nat}{cs xs:List Value}{ca d g i m n q:Nat}{vars:Nat->List Nat}{G G' L e p:Nat->Nat}{N N' NY bx':Nat->Prop}{v x y yv:Value}{w w1 w2:World}
structure YS(s:Nat)(yv:Value)(bx:Nat->Prop)(Y:Nat->List Row->World->Prop): Prop where
 keep:∀ base l w w',Y base l w->GrN (λk=>s<=k/\k<base) w w'->Y base l w'
 call:∃ fid first cap,yv=.func (.func fid) first cap/\∀ base l w vr z,base<=w.heap.size->Y base l w->RowV w vr z->l.length<65536->Ret Tryz.prog fid (first.toList++[vr]++cap.toList) w λr w'=>r=.bool true/\Y base (l++[z]) w'/\GrN (λk=>bx k∨base<=k) w w'
theorem Jcs(ha:Xm vs)(hl:∀ u∈vs,u<n): vs.length<=n:=by
 have key:∀ k,lv vs k<=k:=by
  intro k;induction k with
  | zero=>rw[Jwc];exact Nat.le_refl _
  | succ k ih=>
   by_cases h:k∈vs
   repeat grind [Yj,Jjt]
 have:=key n;rwa [Qqd hl]at this
theorem Jgd{cs:List Nat}(h:i<cs.length): (nz cs).getD i 0=(cs.getD i 0:Int):=by
 simp[nz,List.getD,List.getElem?_eq_getElem h]
structure RunOk(n:Nat)(ts:List TA)(vars:Nat->List Nat)(rs:Nat->List Row): Prop where
 n32:n<=32
 m32:ts.length<=32
 at_:∀ i,i<ts.length->(ts.getD i ta0).2=⟨nz (vars i),(vars i).length,rs i⟩
 asc:∀ i,i<ts.length->Xm (vars i)
 lt:∀ i,i<ts.length->∀ u∈vars i,u<n
 cov:∀ v,v<n->∃ i,i<ts.length/\v∈vars i
 srt:∀ i,i<ts.length->Lt [] (rs i)
 len:∀ i,i<ts.length->∀ r∈rs i,r.length=(vars i).length
 big:∀ i,i<ts.length->(rs i).length<=65536
theorem Kj{base base' e sz:Nat}(h:w.ownsRow base e sz v m xs)(hb:base'<=base): w.ownsRow base' e sz v m xs:=by
 rcases h with⟨y,⟨rfl,rfl⟩|⟨g,u,j,rfl,i,B⟩⟩
 .exact⟨y,.inl ⟨rfl,rfl⟩⟩
 exact⟨y,.inr ⟨g,u,j,rfl,Nat.le_trans hb i,B⟩⟩
theorem _root_.Go.Wk.Blk.sub2{t:TypeId}(h:Blk w g t cs)(h0:cs[i]?=some x)(h1:cs[i+1]?=some y): ∀ j u,[x,y][j]?=some u->w.cell? ((⟨g,i,none⟩:Addr).add j)=some u:=λj u B=>by
 match j,B with
 | 0,B=>simp only[List.getElem?_cons_zero,Option.some.injEq]at B;subst B;exact h.sub h0
 | 1,B=>simp only[List.getElem?_cons_succ,List.getElem?_cons_zero,Option.some.injEq]at B;subst B;exact h.sub h1
 | j+2,B=>simp at B
def Us(d t:Nat): List Value:=(List.range d).map λj=>.int .i64 ((if j<t then j else 0:Nat):Int)
theorem Xzb(d:Nat): (madeCells (Value.int .i64 0).cells (d*1)).toList=Us d 0:=by
 rw[Nat.mul_one];have e:(madeCells (Value.int .i64 0).cells d).toList=List.replicate d (Value.int .i64 0):=Vw _ _;rw[e];simp[Us,List.map_const']
theorem Xxz(d:Nat): Us d d=Jb (nz (List.range d)):=by grind [Us,Jb,nz,List.map_map,List.map_congr_left,List.mem_range.1]
theorem Xxw{t:Nat}(h:t<d): (Us d t).set t (.int .i64 (t:Int))=Us d (t+1):=by
 apply List.ext_getElem?
 grind [Us,List.getElem?_range]
theorem Xxx(d t:Nat): (Us d t).length=d:=by simp[Us]
theorem Qmt(A:Option Addr)(n c:Nat): ∀ u∈[Value.slice A n c],u.oneCell'=true:=λu i=>by rw[List.mem_singleton.1 i];rfl
def itp(g:Nat): Value:=.pointer (some ⟨g,0,none⟩)
def Zh(vars:Nat->List Nat)(G:Nat->Nat)(q:Nat)(v:Nat): List Value:=((List.range q).filter λi=>decide (v∈vars i)).map λi=>itp (G i)
theorem Xzf(vars:Nat->List Nat)(G:Nat->Nat)(q v:Nat): (Zh vars G q v).length<=q:=by grind [Zh,List.length_map,List.length_filter_le,List.range,List.length_range]
theorem Xzd(vars:Nat->List Nat)(G:Nat->Nat)(q v:Nat): Zh vars G (q+1) v=Zh vars G q v++if v∈vars q then[itp (G q)] else[]:=by grind [Zh,List.range_succ,List.filter_cons_of_pos,List.filter_cons_of_neg]
theorem Xzg(h:∀ j,j<q->G j=G' j)(v:Nat): Zh vars G q v=Zh vars G' q v:=by grind [Zh,List.map_congr_left,List.mem_range.1,List.mem_filter.1]
theorem _root_.Go.Wk.GrN.cut(hx:Ext w w1)(hg:GrN N w1 w2)(hN:∀ k,k<w.heap.size->N k->N' k): GrN N' w w2 :=
 ⟨hg.os.trans hx.os,hg.tape.trans hx.tape,hg.output.trans hx.output,Nat.le_trans hx.size hg.size,λk i hn=>(hg.block k (nM i hx.size) (λe=>hn (hN k i e))).trans (hx.block k i)⟩
theorem Cfg.steps{c:JC}{Y:List Row->World->Prop}{z:Row}{f h:Nat->Nat->Nat}{l:List Row}(H:Cfg c Y w z L p e f h l)(hok:JOk c)(hY:YC c Y NY){st:Int}(hJ:Blk w c.J 290 [c.rowv,c.ja,.int .i64 st,c.yv])(st':Int):
  Cfg c Y (w.setCell ⟨c.J,2,none⟩ (.int .i64 st')) z L p e f h l/\GrN c.NI w (w.setCell ⟨c.J,2,none⟩ (.int .i64 st')):=by
 have hg2:GrN (λk=>k=c.J) w (w.setCell ⟨c.J,2,none⟩ (.int .i64 st')):=GrN.set _ rfl;have j:GrN c.NI w (w.setCell ⟨c.J,2,none⟩ (.int .i64 st')):=GrN.set _ (.inl rfl);refine⟨⟨H.env.gr (j.mono λk _ u=>hok.sub k u),λi hi=>?_,Qj H.row hg2 (λg D=>H.rowJ D),H.zl,⟨_,hJ.set 2 _⟩,hY.keep _ _ _ H.y j⟩,j⟩;obtain⟨st,B⟩:=H.its i hi;exact⟨st,Jr B hg2 (hok.gj i hi)⟩
theorem Qvs(h:Xm vs): vs.Nodup:=h.imp λh e=>by omega
theorem Jmn(n:Nat): (madeCells (Value.slice none 0 0).cells (n*1)).toList=List.replicate n (Value.slice none 0 0):=by rw[Nat.mul_one];exact Vw _ _
theorem Qfz{ts:List TA}{Aa:Option Addr}{rs:Nat->List Row}{Y:Nat->List Row->World->Prop}(hok:RunOk n ts vars rs)(hR:Rd w 3 Aa ts.length (atC ts))(hat:∀ p∈ts,AtV w p.1 p.2)(hbx:∀ k,bx' k->k<w.heap.size)(hY:YS w.heap.size yv bx' Y)(hY0:∀ w',Ext w w'->Y w'.heap.size [] w')(hcap:∀ l:List Row,Lt [] l->(∀ x∈l,Ia n ts.length vars rs x)->l.length<=65536):
  Ret Tryz.prog 170 [.int .i64 (n:Int),.slice Aa ts.length ca,yv] w λu w'=>GrN bx' w w'/\∃ st base l,u=.tuple #[.int .i64 st,.int .i64 0]/\base<=w'.heap.size/\Y base l w'/\Lt [] l/\∀ x,x∈l↔Ia n ts.length vars rs x:=by
 have di:=hok.n32;have dk:=hok.m32;obtain⟨m,hm⟩:∃ m,m=ts.length:=⟨_,rfl⟩;obtain⟨bg,first,bh,ew,d1⟩:=hY.call;subst ew;refine Jz Tryz.func170 Tryz.ntmps170 rfl kr rfl ?_;refine ρ ?_;have d8:Ext w w.drew:=(Ext.refl w).drew;refine drG kr ?_;refine gpre (fuel':=5) [(0,0),(0,2),(0,4)] #[true,false,true,false,true,false,false,false] kr kr rfl ?_;refine ρd ?_;refine Jbv ?_;refine gcut 3 #[true,true,true,true,true,false,false,false] (fun (x:Option Addr×Option Addr)=>[(0,.int .i64 (n:Int)),(1,.slice Aa ts.length ca),(2,.func (.func bg) first bh),(24,.slice x.1 n n),(26,.slice x.2 n n),(27,.func (.func bg) first bh)])
  (λx w'=>Ext w.drew w'/\Uv w' w.heap.size (.slice x.1 n n) (List.replicate n V0)/\w'.ownsRow w.heap.size 291 1 (.slice x.2 n n) n (List.replicate n (.slice none 0 0))) ?_ ?_
 .rintro⟨Ra,Ba⟩ w1 ⟨de,ax,cd⟩;refine gpre (fuel':=0) [(1,5),(1,6),(0,7)] #[true,true,true,true,true,true,true,true] kr kr rfl ?_;refine Jwr ?_;refine bld (Xkr _ _ _ _ _ _ _) ?_;refine Je (Jwq (Ext.refl _) ?_);refine Jwr ?_;refine bx ?_;intro w2 J a1 hJ f3;refine Je (Jwq a1 ?_);refine ρd ?_;refine Jbv ?_;refine gend kr ?_;refine ρ ?_;have ab:Ext w w2:=(d8.trans de).trans a1;have dz:w.heap.size<=J:=nL (d8.trans de).size hJ;obtain⟨K,hK⟩:∃ K:RK,K=⟨n,vars,rs,w.heap.size,J,Ra,Ba,.func (.func bg) first bh⟩:=⟨_,rfl⟩;have H2:RB K 0 ⟨λ_=>0,λ_=>none,λ_=>0,λ_=>0,.slice none 0 0,λ_=>.slice none 0 0⟩ (λ_=>[]) [] w2:=by
   subst hK;refine⟨f3,Jh ax a1,?_,⟨λi hi=>Xr _ _ _ _,λi j g _ _ _ e=>(by cases e)⟩,Xr _ _ _ _,λv g _ e=>(by cases e),λj hj=>om,λj hj=>om,λj k hj=>om,λi j hi=>om,λi j _ hj=>om,λj hj=>om,λj hj=>om,dz⟩;have:=Jh cd a1;have e:List.replicate n (Value.slice none 0 0)=(List.range n).map λ_=>Value.slice none 0 0:=by simp[List.map_const']
   rw[e]at this;exact this
  clear ax cd;refine Js (fun (i:Nat)=>[(0,.int .i64 (n:Int)),(1,.slice Aa ts.length ca),(8,.pointer (some ⟨J,0,none⟩)),(30,.slice Aa ts.length ca),(31,.int .i64 (ts.length:Int)),(32,.int .i64 (i:Int))])
   (λi w'=>i<=ts.length/\Ext w2 w'/\∀ j,j<i->rs j≠[]) (λi=>ts.length-i) 0 sB ⟨Nat.zero_le _,Ext.refl _,λj hj=>om⟩ ?_
  rintro i w3 ⟨hi,Z,c6⟩;refine ρ ?_;refine ci (λh=>?_) (λh=>?_)
  .have li:i<ts.length:=by have:=oT h;omega
   have e7:=hR.ext (ab.trans Z);obtain⟨t1,t2,t3,a,hp⟩:∃ t1 t2 t3 a,ts.getD i ta0=((t1,t2,t3),a):=⟨_,_,_,_,rfl⟩;have a8:AtV w (t1,t2,t3) a:=by have:=hat _ (Kr rfl li);rw[hp]at this;exact this
   have ea:a=⟨nz (vars i),(vars i).length,rs i⟩:=by have:=hok.at_ i li;rw[hp]at this;exact this
   clear h;obtain⟨⟨D,d,e1,hd,f6,ds⟩,e2,a6⟩:=id a8;simp only at e1 e2;subst e1;subst e2;obtain⟨ps,G,gc,_,aw,_⟩:=id a6;simp only at aw;subst aw;refine ρ ?_;refine ixq 3 i e7 li ?_;refine ρ ?_;refine lds (cs:=[.slice D a.vars.length d,.int .i64 (a.ar:Int),.slice G ps.length gc]) (λj u hu=>Kc e7 rfl li (by rw[hp];exact hu)) ?_;refine ρ ?_;refine alc Yg ?_;intro w4 b a5 hb hB;refine ρ ?_;refine stb hB ?_ a8.one;intro w5 fd cy co;have aq:Ext w3 w5:=co w3 a5 hb;refine ρ ?_;refine lds (cs:=[.int .i64 (a.ar:Int),.slice G ps.length gc]) (fd.sub2 (i:=1) rfl rfl) ?_;refine ρ ?_;refine cl (Gt ((a8.ext (((ab.trans Z).trans aq))).rel)) ?_;rintro u w6 ⟨rfl,bm⟩;refine ρ ?_;refine ci (λh=>?_) (λh=>?_)
   .refine ρ ?_;have bu:Ext w w6:=((ab.trans Z).trans aq).trans bm;refine Xb ⟨(GrN.ext bu),0,w6.heap.size,[],rfl,Nat.le_refl _,hY0 w6 bu,List.Pairwise.nil,λx=>⟨λhx=>(by cases hx),λhx=>?_⟩⟩;have U:=hx.2 i li;have h2:a.rows.length=0:=by have:=Ug h;omega
    rw[ea]at h2;have h3:rs i=[]:=List.eq_nil_of_length_eq_zero h2;rw[h3]at U;cases U
   have h2:rs i≠[]:=λe=>by
    have h3:=Uj h;rw[ea,e]at h3;exact h3 rfl
   refine ρ ?_;refine Jp (i+1) sO ⟨om,(Z.trans aq).trans bm,λj hj=>?_⟩ om;by_cases e:j=i
   .rw[e];exact h2
   exact c6 j om
  have cx:i=ts.length:=by have:=oF h;omega
  subst cx;refine ρ ?_;refine Qq (fun (q:Nat) (S:RS)=>[(0,.int .i64 (n:Int)),(8,.pointer (some ⟨J,0,none⟩)),(11,S.va),(41,.slice Aa ts.length ca),(42,.int .i64 (ts.length:Int)),(43,.int .i64 (q:Int))])
   (λq S w'=>q<=ts.length/\Ext w w'/\RB K q S (Zh vars S.G q) ((List.range q).map λj=>itp (S.G j)) w') (λq _=>ts.length-q) 0 ⟨λ_=>0,λ_=>none,λ_=>0,λ_=>0,.slice none 0 0,λ_=>.slice none 0 0⟩ sB
   ⟨Nat.zero_le _,ab.trans Z,H2.ext Z⟩ ?_
  rintro q S w4 ⟨hq,a5,H4⟩;refine ρ ?_;refine ci (λh=>?_) (λh=>?_)
  .have lq:q<ts.length:=by have:=oT h;omega
   have e6:=hR.ext a5;obtain⟨t1,t2,t3,a,hp⟩:∃ t1 t2 t3 a,ts.getD q ta0=((t1,t2,t3),a):=⟨_,_,_,_,rfl⟩;have a8:AtV w (t1,t2,t3) a:=by have:=hat _ (Kr rfl lq);rw[hp]at this;exact this
   have ea:a=⟨nz (vars q),(vars q).length,rs q⟩:=by have:=hok.at_ q lq;rw[hp]at this;exact this
   subst ea;clear h;obtain⟨⟨D,d,e1,hd,f6,ds⟩,e2,a6⟩:=id a8;simp only at e1 e2;subst e1;subst e2;obtain⟨ps,G,gc,_,aw,_⟩:=id a6;simp only at aw;subst aw;have dh:=Xw (vars q);have fk:(vars q).length<=n:=Jcs (hok.asc q lq) (hok.lt q lq);refine ρ ?_;refine ixq 3 q e6 lq ?_;refine ρ ?_;refine lds (cs:=[.slice D (nz (vars q)).length d,.int .i64 ((vars q).length:Int),.slice G ps.length gc]) (λj u hu=>Kc e6 rfl lq (by rw[hp];exact hu)) ?_;refine ρ ?_;refine alc Yg ?_;intro w5 b co hb hB;refine ρ ?_;refine stb hB ?_ a8.one;intro w6 ef hg6 bm;have bw:Ext w4 w6:=bm w4 co hb;have H6:=H4.ext bw;refine ρ ?_;refine ld (ef.at (i:=0) rfl) ?_;refine ρ ?_;rw[dh];refine mkn EI (vars q).length om (by unfold maxLen;omega) ?_;intro w7 O d9 cu fn;rw[Xzb]at cu;refine ρ ?_;refine Js (fun (t:Nat)=>[(0,.int .i64 (n:Int)),(8,.pointer (some ⟨J,0,none⟩)),(11,S.va),(41,.slice Aa ts.length ca),(42,.int .i64 (ts.length:Int)),(43,.int .i64 (q:Int)),(13,.pointer (some ⟨b,0,none⟩)),(14,.slice O (vars q).length (vars q).length),(51,.slice O (vars q).length (vars q).length),(52,.int .i64 ((vars q).length:Int)),(53,.int .i64 (t:Int))])
    (λt w'=>t<=(vars q).length/\Ext w6 w'/\w'.ownsRow w6.heap.size 3 1 (.slice O (vars q).length (vars q).length) (vars q).length (Us (vars q).length t)) (λt=>(vars q).length-t) 0 sB
    ⟨Nat.zero_le _,d9,cu⟩ ?_
   clear cu d9;rintro t w8 ⟨ht,bl,b1⟩;refine ρ ?_;refine ci (λh=>?_) (λh=>?_)
   .have lt:t<(vars q).length:=by have:=oT h;omega
    clear h;refine ρ ?_;refine ix t (Rd.own b1) lt ?_;obtain⟨s1,s2,s3,s4,s5⟩:=Xp b1 (q:=t) om (.int .i64 (t:Int));have dx:t<(Us (vars q).length t).length:=by rw[Xxx];exact lt
    refine ρ ?_;refine sto (s1.trans (gE dx)) s2 ?_;rw[Xxw lt]at s3;have ap:Ext w6 (w8.setCell (adr O t) (.int .i64 (t:Int))):=Ja bl s5 (λk hk=>by
     obtain⟨_,_,_,_,hf⟩:=Jv b1;exact(hf k hk).1)
    refine ρ ?_;exact Jp (t+1) sO ⟨om,ap,s3⟩ om
   have cq:t=(vars q).length:=by have:=oF h;omega
   subst cq;clear h;rw[Xxz]at b1;have ee:=ef.ext bl;have bt:Ext w w8:=(a5.trans bw).trans bl;have cz:IntsV w8 (.slice O (vars q).length (vars q).length) (nz (List.range (vars q).length)):=by
    have e:(nz (List.range (vars q).length)).length=(vars q).length:=by rw[Xw,List.length_range]
    exact⟨O,(vars q).length,by rw[e],by rw[e];exact Nat.le_refl _,by rw[e];omega,by rw[e];exact Rd.own b1⟩
   refine ρ ?_;refine lds (cs:=[.int .i64 ((vars q).length:Int),.slice G ps.length gc]) (ee.sub2 (i:=1) rfl rfl) ?_;refine ρ ?_;refine cl (Qch (a8.ext bt).rel (hok.srt q lq) (hok.len q lq) cz (show(vars q).length<=32 by omega) (hok.big q lq)) ?_;rintro u w9 ⟨ap,tv,rfl,⟨bi,rfl⟩,e4⟩;refine ρ ?_;refine alc Jcz ?_;intro fj b2 dc f7 fc;refine ρ ?_;refine stb (cs':=[.slice bi (vars q).length (vars q).length]) fc ?_ (Qmt _ _ _);intro d7 eh fg db;have ac:Ext w9 d7:=db w9 dc f7;refine ρ ?_;refine ldW eh ?_;refine ρ ?_;refine cl (Qcj d7) ?_;rintro u d6 ⟨au,g,rfl,dq,ce⟩;have H8:=H6.ext bl;have e0:Off (λk=>k<w8.heap.size) w9 (λu=>TriA u bi (K.vars q).length (K.rs q)):=by
    subst hK;exact e4.imp λu h=>h.a
   have be:ItB d6 g bi (K.vars q).length 0 0 0 (λ_=>0) (λ_=>0) 0:=by subst hK;exact ce
   have er:=H8.iter ap e0 (ac.trans au) (nL ac.size dq) be;have bf:=ee.ext (((ap.trans ac)).trans au);have bs:K.n=n:=by rw[hK]
   have d4:K.base=w.heap.size:=by rw[hK]
   have f9:K.J=J:=by rw[hK]
   have b9:K.Ba=Ba:=by rw[hK]
   have an:Ext w d6:=(bt.trans ap).trans (ac.trans au);have cw:∀ {w':World} {e sz m':Nat} {v:Value} {xs:List Value},w'.ownsRow K.base e sz v m' xs->∀ k,v.ownBlock=some k->w.heap.size<=k:=λho k ek=>by
    obtain⟨_,_,_,_,hf⟩:=Jv ho;rw[<-d4];exact(hf k ek).1
   refine ρ ?_;refine bsl (Qvb (some ⟨g,0,none⟩)) ?_;intro fi b3 a3 fm ff;have bj:=er.ext a3;refine ρ ?_;refine apb (base:=K.base) EIt bj.all (ff.rd (n:=1) rfl) (λu hu=>by rw[List.mem_singleton.1 hu];rfl) (by unfold maxLen;simp;omega) (by simp;omega) (by rw[d4];exact(an.trans a3).size) ?_;intro cn eu c5 ag c7;have ep:=bj.pushAll c5 ag c7;have ch:=(bf.ext a3).grown ag ((bf.ext a3).ne_own bj.all rfl);have bz:Ext w eu:=Ja (an.trans a3) ag (cw bj.all);refine ρ ?_;refine ld (ch.at (i:=0) rfl) ?_;refine ρ ?_;refine Qq (fun (t:Nat) (vt:Nat->Value)=>[(0,.int .i64 (n:Int)),(8,.pointer (some ⟨J,0,none⟩)),(11,cn),(41,.slice Aa ts.length ca),(42,.int .i64 (ts.length:Int)),(43,.int .i64 (q:Int)),(18,.pointer (some ⟨g,0,none⟩)),(78,.slice D (nz (vars q)).length d),(79,.int .i64 ((nz (vars q)).length:Int)),(80,.int .i64 (t:Int))])
    (λt vt w'=>t<=(vars q).length/\Ext w w'/\RB K (q+1) { G:=upd S.G q g,A:=upd S.A q bi,lo:=upd S.lo q w8.heap.size,hi:=upd S.hi q w9.heap.size,va:=cn,vat:=vt } (λv=>Zh vars S.G q v++if v∈(vars q).take t then[itp g] else[]) (((List.range q).map λj=>itp (S.G j))++[itp g]) w') (λt _=>(vars q).length-t) 0 S.vat sB
    ⟨Nat.zero_le _,bz,?_⟩ ?_
   .have e:(λv=>Zh vars S.G q v++if v∈(vars q).take 0 then[itp g] else[])=Zh vars S.G q:=by funext v;simp
    rw[e];exact ep
   clear ep bj c5 ag c7 ch bz er bf ce be e4 e0;rintro t vt cm ⟨ht,af,am⟩;refine ρ ?_;refine ci (λh=>?_) (λh=>?_)
   .have lt:t<(vars q).length:=by have:=oT h;omega
    clear h;obtain⟨vi,cp⟩:∃ vi,vi=(vars q).getD t 0:=⟨_,rfl⟩;have ey:vi∈vars q:=by rw[cp];exact getD_mem' 0 _ lt
    have aj:vi<n:=hok.lt q lq vi ey;have av:vi<K.n:=by rw[bs];exact aj
    have cg:=ds.ext af;refine ρ ?_;refine ix t cg (by rw[dh];exact lt) ?_;refine ρ ?_;refine ld (cg.cell (Qs lt)) ?_;rw[<-cp];obtain⟨own,ay⟩:∃ own,own=(vt vi).ownBlock:=⟨_,rfl⟩;have bd:=am.jb;rw[f9,b9,bs]at bd;have a7:=am.at_;rw[bs,b9]at a7;have az:=am.lists.own vi av;have nJ:¬ one own J:=λe=>by
     have U:own=some J:=e;exact bd.ne_own az rfl (by rw[<-U];exact ay)
    have nA:∀ ad,Ba=some ad->¬ one own ad.block:=λad e h'=>by
     subst e;exact Jxh a7 az rfl rfl (by have U:own=some ad.block:=h';rw[<-U];exact ay.symm)
    refine ρ ?_;refine drN (one own) 8 [(0,0),(0,1),(0,2),(0,3),(0,4),(0,5),(0,6),(0,7),(0,8),(0,9),(0,10),(0,11),(0,12),(1,13),(1,14),(0,15),(2,16)] kr ?_;have a2:Ext cm cm.drew:=(Ext.refl cm).drew;have eo:=am.ext a2;have bc:=bd.ext a2;have ah:=Jh a7 a2;have d0:((List.range n).map vt)[vi]?=some (vt vi):=by simp[aj]
    refine ρn ?_;refine nld (Qy (bc.at (i:=1) rfl) nJ) ?_;refine ρn ?_;refine nld (Qy (bc.at (i:=1) rfl) nJ) ?_;refine ρn ?_;refine nix vi (Rd.own ah) aj ?_;refine ρn ?_;refine nld (λw' hg=>(Ud (Rd.own ah) hg (λ_ ad e=>nA ad e)).cell d0) ?_;refine ρn ?_;refine nop ?_;refine bsl (Qvb (some ⟨g,0,none⟩)) ?_;intro fh b4 ae fl fe;refine ρ ?_;refine Qg (GrN.ext ae) ?_;have ak:=eo.ext ae;refine nop ?_;have dx:=Xzf vars S.G q vi;refine apb (base:=K.base) EIt (ak.lists.own vi av) (fe.rd (n:=1) rfl) (λu hu=>by rw[List.mem_singleton.1 hu];rfl) ?_ ?_ (by rw[d4];exact((af.trans a2).trans ae).size) ?_
    .rw[List.length_append];unfold maxLen;split<;>simp<;>omega
    .rw[List.length_append];split<;>simp<;>omega
    intro v4 et dg b5 dj;refine ρ ?_;refine Qg (GrN.by b5 λj ej=>by rw[<-ay]at ej;exact ej) ?_;obtain⟨c1,c2,c3,en,c8⟩:=ak.pushAt av dg b5 dj;rw[b9]at c1 c2 en c8;have ck:=Vg ak.at_ (ak.lists.own vi av) b5 rfl;rw[bs,b9]at ck;refine ρn ?_;refine nix vi (Rd.own ck) aj ?_;refine ρn ?_;refine Xu ?_;refine sto c1 c2 ?_ (hv:=c3);have da:Ext w (et.setCell (adr Ba vi) v4):=c8.old ((af.trans a2).trans ae) (λk hk=>by
     rcases hk with hk|hk
     .exact cw (ak.lists.own vi av) k hk
     exact cw ak.at_ k (by rw[b9];exact hk))
    refine ω5 ?_;refine Uh ?_;refine ρn ?_;refine ρ ?_;refine Ju (t+1) (upd vt vi v4) sO ⟨om,da,?_⟩ om;have df:(vars q).take (t+1)=(vars q).take t++[vi]:=by rw[Qr 0 lt,cp]
    have f0:vi ∉ (vars q).take t:=λhm=>by
     have U:((vars q).take (t+1)).Nodup:=(Qvs (hok.asc q lq)).sublist (List.take_sublist _ _);rw[df,List.nodup_append]at U;exact U.2.2 _ hm _ (List.mem_singleton.2 rfl) rfl
    have e:upd (λv=>Zh vars S.G q v++if v∈(vars q).take t then[itp g] else[]) vi ((Zh vars S.G q vi++if vi∈(vars q).take t then[itp g] else[])++[.pointer (some ⟨g,0,none⟩)])=(λv=>Zh vars S.G q v++if v∈(vars q).take (t+1) then[itp g] else[]):=by
     funext v
     rw[df];by_cases e:v=vi
     .subst e;rw[Jt,if_neg f0,if_pos (by simp)];simp[itp]
     rw[Jc _ _ e];congr 1
     by_cases U:v∈(vars q).take t
     .rw[if_pos U,if_pos (by simp[U])]
     rw[if_neg U,if_neg (by simp[U,e])]
    rw[<-e];exact en
   have cq:t=(vars q).length:=by have:=oF h;omega
   subst cq;clear h;refine ρ ?_;refine Ju (q+1) ⟨upd S.G q g,upd S.A q bi,upd S.lo q w8.heap.size,upd S.hi q w9.heap.size,cn,vt⟩ sO ⟨om,af,?_⟩ om;have e1:(λv=>Zh vars S.G q v++if v∈(vars q).take (vars q).length then[itp g] else[])=Zh vars (upd S.G q g) (q+1):=by
    funext v
    rw[Xzd,List.take_length,Jt,Xzg (G':=upd S.G q g) (λj hj=>(Jc _ _ om).symm)]
   have e2:((List.range q).map λj=>itp (S.G j))++[itp g]=(List.range (q+1)).map λj=>itp (upd S.G q g j):=by
    rw[List.range_succ,List.map_append,List.map_singleton,Jt];congr 1
    refine List.map_congr_left λj hj=>?_;have:=List.mem_range.1 hj;rw[Jc _ _ om]
   rw[e1,e2]at am;exact am
  have ez:q=ts.length:=by have:=oF h;omega
  subst ez;clear h;subst hK;obtain⟨h0,bq⟩:∃ h0,h0=w4.heap.size:=⟨_,rfl⟩;obtain⟨a9,ai⟩:∃ a9:Nat->Prop,a9=λk=>k=J∨(∃ i,i<ts.length/\k=S.G i)∨(Value.slice Ra n n).ownBlock=some k:=⟨_,rfl⟩;obtain⟨c,hc⟩:∃ c:JC,c=⟨⟨S.G,S.A,λi=>(vars i).length,rs⟩,n,ts.length,vars,J,Ra,w.heap.size,.slice Ba n n,.func (.func bg) first bh,S.vat,λk=>bx' k∨h0<=k∨a9 k⟩:=⟨_,rfl⟩;have d3:∀ k,c.NI k↔a9 k:=λk=>by subst hc;subst ai;exact Iff.rfl
  have br:∀ k,c.N k↔bx' k∨h0<=k∨a9 k:=λk=>by subst hc;exact Iff.rfl
  have e9:J<h0:=by rw[bq];exact H4.jb.lt
  have c0:∀ {e sz m':Nat} {v:Value} {xs:List Value},w4.ownsRow w.heap.size e sz v m' xs->∀ k,v.ownBlock=some k->w.heap.size<=k/\k<h0:=λho k ek=>by
   obtain⟨_,_,_,_,hf⟩:=Jv ho;rw[bq];exact hf k ek
  have b8:∀ k,a9 k->w.heap.size<=k/\k<h0:=λk hk=>by
   subst ai;rcases hk with hk|⟨i,hi,hk⟩|hk
   .subst hk;exact⟨dz,e9⟩
   .subst hk;have U:=(H4.its i hi).lt;have h2:=H4.jg i hi;simp only at h2;omega
   exact c0 H4.row k hk
  have f8:∀ k,k<h0->¬ bx' k->¬ a9 k->¬ c.N k:=λk U h2 h3 h4=>by
   rcases(br k).1 h4 with h5|h5|h5
   .exact h2 h5
   .omega
   exact h3 h5
  have cb:∀ k,w.heap.size<=k->¬ bx' k:=λk hk hb=>by have:=hbx k hb;omega
  have aa:∀ {e sz m':Nat} {v:Value} {xs:List Value},w4.ownsRow w.heap.size e sz v m' xs->Nat.beq e 290=false->Nat.beq e 319=false->Nat.beq 102 e=false->∀ k,v.ownBlock=some k->¬ c.N k:=λho e1 e2 e3 k ek=>by
   have U:=c0 ho k ek;refine f8 k U.2 (cb k U.1) λh2=>?_;subst ai;rcases h2 with h2|⟨i,hi,h2⟩|h2
   .subst h2;exact H4.jb.ne_own ho e1 ek.symm
   .subst h2;exact(H4.its i hi).ne_own ho e2 ek.symm
   exact Jxh H4.row ho e3 h2 ek
  have fa:∀ v,c.I v=(List.range ts.length).filter λi=>decide (v∈vars i):=λv=>by subst hc;rfl
  have c4:∀ v,Jxc c.F (c.I v)=Zh vars S.G ts.length v:=λv=>by rw[fa];subst hc;rfl
  have eb:∀ v,(c.I v).length=(Zh vars S.G ts.length v).length:=λv=>by rw[<-c4];simp[Jxc]
  have ba:JOk c:=by
   have dm:∀ i j,i<ts.length->j<ts.length->S.G i=S.G j->i=j:=λi j hi hj e=>by
    rcases Nat.lt_trichotomy i j with U|U|U
    .have:=H4.ginj i j U hj;omega
    .exact U
    have:=H4.ginj j i U hi;omega
   have f4:∀ i,i<ts.length->S.G i≠J:=λi hi e=>by have:=H4.jg i hi;simp only at this;omega
   have dt:∀ i,i<ts.length->(vars i).length<=32:=λi hi=>by have:=Jcs (hok.asc i hi) (hok.lt i hi);omega
   subst hc;exact⟨di,dk,hok.asc,hok.lt,λi _=>rfl,dt,c6,hok.srt,hok.len,hok.big,dm,f4,hok.cov,λk hk=>.inr (.inr ((d3 k).1 hk))⟩
  have d5:JEnv c w4:=by
   refine⟨λi hi=>?_,⟨Ba,n,by subst hc;rfl,?_⟩,λv hv=>?_⟩
   .have bp:i<ts.length:=by subst hc;exact hi
    have U:=H4.tri i bp;have h2:Off c.N w4 (λu=>TriA u (S.A i) (vars i).length (rs i)):=U.mono λk hk h=>by
     have h3:=(H4.jlo i bp);have h4:=H4.iv i k bp;simp only at h3;rcases(br k).1 h with h5|h5|h5
     .have:=hbx k h5;exact .inl om
     .omega
     subst ai;rcases h5 with h5|⟨i',cx,h5⟩|h5
     .exact h4 (.inl h5)
     .subst h5;exact H4.gi i' i cx bp
     exact h4 (.inr (.inl h5))
    subst hc;exact h2
   .have U:=Jkq H4.at_ (aa H4.at_ rfl rfl rfl);have h2:=U.imp (Ψ:=λu=>Rd u 1 Ba n ((List.range n).map S.vat)) λu h=>Rd.own h;have:c.n=n/\c.vat=S.vat:=by subst hc;exact⟨rfl,rfl⟩
    rw[this.1,this.2];exact h2
   have aj:v<n:=by subst hc;exact hv
   have ho:=H4.lists.own v aj;obtain⟨B,cc,e1,e2,e3⟩:=Jv ho;have:c.vat v=S.vat v:=by subst hc;rfl
   refine⟨B,cc,by rw[this,e1,eb],?_⟩;rw[c4,eb];refine(Jkq ho (aa ho rfl rfl rfl)).imp λu h=>?_;rw[e1]at h;exact Rd.own h
  have d2:YC c (λl u=>Y h0 l u/\h0<=u.heap.size) (λk=>bx' k∨h0<=k):=by
   refine⟨λk hk=>(br k).2 (by rcases hk with h|h;(exact .inl h);exact .inr (.inl h)),λk hk h=>?_,λl u u' h hg=>⟨hY.keep _ _ _ _ h.1 (hg.mono λk _ hk=>?_),Nat.le_trans h.2 hg.size⟩,bg,first,bh,by subst hc;rfl,λl u vr z h hr hl=>?_⟩
   .have U:=b8 k ((d3 k).1 h);rcases hk with h2|h2
    .exact cb k U.1 h2
    omega
   .have U:=b8 k ((d3 k).1 hk);exact U
   refine(d1 h0 l u vr z h.2 h.1 hr hl).mono ?_;rintro r u' ⟨U,h2,h3⟩;exact⟨U,⟨h2,Nat.le_trans h.2 h3.size⟩,h3⟩
  have du:c.n=n:=by subst hc;rfl
  have dw:c.m=ts.length:=by subst hc;rfl
  have ed:Cfg c (λl u=>Y h0 l u/\h0<=u.heap.size) w4 (List.replicate n V0) (λi=>lv (c.vars i) 0) (λ_=>0) (λ_=>0) (λ_ _=>0) (λ_ _=>0) []:=by
   refine⟨d5,λi hi=>⟨0,?_⟩,?_,by rw[du];simp,⟨0,?_⟩,by rw[bq];exact hY0 w4 a5,by rw[bq];exact Nat.le_refl _⟩
   .simp only[Jwc];rw[dw]at hi;have:=H4.its i hi;subst hc;exact this
   .have:=H4.row;subst hc;exact this
   have:=H4.jb;subst hc;exact this
  have cj:∀ x,c.Ans x↔Ia n ts.length vars rs x:=λx=>by subst hc;exact Iff.rfl
  have e8:Pth c 0 (List.replicate n V0) (λ_=>0) (λ_=>0):=by
   refine⟨λi hi=>?_,λi hi h=>?_⟩
   .rw[Jwc,Yn,if_pos rfl,List.take_zero]
   rw[Jwc]at h;omega
  have b6:c.J=J:=by subst hc;rfl
  refine ρ ?_;have c9:=Xjd ba d2 (λl U h2=>hcap l U λx hx=>(cj x).1 (h2 x hx)) n 0 (List.replicate n V0) (λ_=>0) (λ_=>0) (λ_ _=>0) (λ_ _=>0) [] w4 (by rw[du];omega) ed e8 List.Pairwise.nil (λx hx=>by cases hx) (λx hx=>by cases hx);rw[b6]at c9;refine cl c9 ?_;rintro u w5 ⟨rfl,cy,z5,f5,h5,l5,H5,_,_,dl,f2⟩;have b7:w5.ownsRow w.heap.size 297 1 S.va ts.length ((List.range ts.length).map λj=>itp (S.G j)):=by
   have U:=H4.all;rw[List.length_map,List.length_range]at U;exact Qj U cy (aa H4.all rfl rfl rfl)
  obtain⟨VA,vc,ei,_,_⟩:=Jv b7;rw[ei]at b7 ⊢;have cr:Off c.N w5 (λu=>Rd u 1 VA ts.length ((List.range ts.length).map λj=>itp (S.G j))):=by
   refine(Jkq b7 λg eg=>?_).imp λu h=>Rd.own h;exact aa H4.all rfl rfl rfl g (by rw[ei];exact eg)
  refine ρ ?_;refine Js (fun (i:Nat)=>[(8,.pointer (some ⟨J,0,none⟩)),(104,.slice VA ts.length vc),(105,.int .i64 (ts.length:Int)),(106,.int .i64 (i:Int))])
   (λi w'=>i<=ts.length/\GrN c.N w5 w'/\Cfg c (λl u=>Y h0 l u/\h0<=u.heap.size) w' z5 (λi=>lv (c.vars i) 0) (λ_=>0) (λ_=>0) f5 h5 l5) (λi=>ts.length-i) 0 sB ⟨Nat.zero_le _,GrN.refl _ _,H5⟩ ?_
  rintro i w6 ⟨hi,hg6,H6⟩;refine ρ ?_;refine ci (λh=>?_) (λh=>?_)
  .have li:i<ts.length:=by have:=oT h;omega
   clear h;have e5:=cr w6 hg6;refine ρ ?_;refine ix i e5 li ?_;refine ρ ?_;refine ld (e5.cell (show((List.range ts.length).map λj=>itp (S.G j))[i]?=some (.pointer (some ⟨S.G i,0,none⟩)) by simp[li,itp])) ?_;obtain⟨sj,bb⟩:=H6.jb;rw[b6]at bb;refine ρ ?_;refine drN (λ_=>False) 10 [(0,0),(0,1),(0,2),(0,3),(0,4),(1,5),(0,6),(0,7),(0,8),(2,9)] kr ?_;have ao:Ext w6 w6.drew:=(Ext.refl w6).drew;have em:=H6.ext d2 ao;have a4:=bb.ext ao;obtain⟨si,ec⟩:=em.its i (by rw[dw];exact li);have fb:c.F.G i=S.G i:=by subst hc;rfl
   rw[fb]at ec;refine ρn ?_;refine nld (Qy (a4.at (i:=2) rfl) (λe=>e)) ?_;refine ρn ?_;refine nop ?_;refine cl (Qsc ec) ?_;rintro u w7 ⟨rfl,rfl⟩;refine ρ ?_;refine Qg (GrN.refl _ _) ?_;refine ρn ?_;refine Xu ?_;refine sto (p:=⟨J,2,none⟩) (a4.cell 2) (a4.frozen _) ?_;rw[<-b6]at a4;obtain⟨H8,dn⟩:=em.steps ba d2 a4 (IntKind.i64.wrap (sj+si));rw[b6]at H8 dn;refine ω5 ?_;refine Uh ?_;refine ρn ?_;refine ρ ?_;exact Jp (i+1) sO ⟨om,(hg6.trans (GrN.ext ao)).trans (dn.mono λk _ hk=>ba.sub k hk),H8⟩ om
  clear h;obtain⟨sj,bb⟩:=H6.jb;rw[b6]at bb;refine ρ ?_;refine ld (bb.at (i:=2) rfl) ?_;refine ρ ?_;refine Xb ⟨GrN.cut a5 (cy.trans hg6) λk hk h=>?_,sj,h0,l5,rfl,H6.y.2,H6.y.1,dl,λx=>?_⟩
  .rcases(br k).1 h with U|U|U
   .exact U
   .have:=a5.size;omega
   have:=(b8 k U).1;omega
  rw[f2,<-cj x];constructor
  .rintro(U|U)
   .cases U
   exact U.1
  intro U;exact .inr ⟨U,rfl⟩
 intro rest;refine gtwo 1 3 kr rfl rfl rfl ?_ ?_
 .refine ρ ?_;refine mkn EV n om (by unfold maxLen;omega) ?_;intro w2 A2 a1 bo _;refine Je (Qqv a1 ?_);refine gpre (fuel':=3) [(1,3)] #[true,true,true,true,true,false,false,false] kr kr rfl ?_;refine Jwr ?_;refine mkn EIts n om (by unfold maxLen;omega) ?_;intro w3 A3 Z bn _;refine Je (Jwq Z ?_);refine Jzh (Jbv ?_);refine rest (A2,A3) _ _ ⟨a1.trans Z,?_,?_⟩ sB
  .rw[Uv,List.length_replicate,<-Jfg];exact Jh bo Z
  rw[Jmn]at bn;exact Kj bn a1.size
 refine ρ ?_;refine mkn EIts n om (by unfold maxLen;omega) ?_;intro w2 A2 a1 bo _;refine Je (Qqv a1 ?_);refine gpre (fuel':=3) [(1,1)] #[true,true,true,true,true,false,false,false] kr kr rfl ?_;refine Jwr ?_;refine mkn EV n om (by unfold maxLen;omega) ?_;intro w3 A3 Z bn _;refine Je (Jwq Z ?_);refine Jzh (Jbv ?_);refine rest (A3,A2) _ _ ⟨a1.trans Z,?_,?_⟩ sB
 .rw[Uv,List.length_replicate,<-Jfg];exact Kj bn a1.size
 rw[Jmn]at bo;exact Jh bo Z
end Go.Proofs.YtebiphhfkdbpfaaGreatDoor
namespace Go.Wk
open Go.RowKit
variable {d n t t2 ty:Nat}
theorem fnl{P:Program}{al:AL}{w:World}{Q:Exit->Act->World->Prop}{ops:Array Oper}{rest:List Oper}{pos:String}{aft:Array Edge}{tt:TT}[h:Tab P tt]{x:Operand}{k:TK}{ps rs:Array TypeId}{va:Bool}{f:Fn}{first cap:Array Value}(kk:WL P n ops Q rest ((d,.bool false)::al) w)(ht:tk tt t=some k:=by rfl)(hk:k.desc=.func ps rs va:=by rfl)(hx:ev al x=some (.func f first cap):=by rfl)(hd:Nat.blt d n=true:=by rfl):
  WL P n ops Q (⟨some d,.binOp .eql t x (.const .nilFunc) t2,ty,pos,aft,none⟩::rest) al w :=
 wop hd (λa j=>by
  have i:=Gz h.ok ht hk rfl;have y:a.eval (.const .nilFunc)=.nilFunc:=rfl;have u:∀ d:Nat,(Op.equalIn (d+1) t (.func f first cap) .nilFunc).run P w=.ok false w:=λd=>by simp[Op.equalIn,run_underlying i]
  simp[execOp,j.ev hx,y,eqGuard,binOp,Op.equal,Op.maxDepth,u 9999]) kk
end Go.Wk
namespace Go.Proofs.YtebiphhfkdbpfaaGreatDoor
open Go.RowKit Pl Go.Wk
attribute [local irreducible] WC WL QX WD WDB WP WN WG
variable {b ca n s:Nat}{Y:Nat->List Row->World->Prop}{yv:Value}
structure YZ(s:Nat)(yv:Value)(bx:Nat->Prop)(Y:Nat->List Row->World->Prop): Prop where
 keep:∀ base l w w',Y base l w->GrN (λk=>s<=k/\k<base) w w'->Y base l w'
 call:∃ fid first cap,yv=.func (.func fid) first cap/\∀ base l w w1 vr z,base<=w.heap.size->Y base l w->Ext w w1->RowX w1 (λk=>k<w.heap.size) vr z->l.length<65536->Ret Tryz.prog fid (first.toList++[vr]++cap.toList) w1 λr w'=>r=.bool true/\Y base (l++[z]) w'/\GrN (λk=>bx k∨base<=k) w1 w'
theorem Xjs{bx:Nat->Prop}(hY:YZ s yv bx Y)(hb:s<=b)(hbx:∀ k,bx k->k<s):
  YS (b+1) (.func (.func 171) #[] #[.pointer (some ⟨b,0,none⟩)]) bx (λbase l w=>(Y base l w/\Blk w b 202 [yv])/\b<base):=by
 obtain⟨a4,first,a5,U,B⟩:=hY.call;subst U;refine⟨λbase l w w' h G=>⟨⟨hY.keep _ _ _ _ h.1.1 (G.mono λk _ O=>⟨om,O.2⟩),Jr h.1.2 G (λO=>om)⟩,h.2⟩,_,_,_,rfl,λbase l w vr z D h hr hl=>?_⟩;obtain⟨⟨hy,hB⟩,a2⟩:=h;have J:¬ (bx b∨base<=b):=by grind
 refine Jz Tryz.func171 Tryz.ntmps171 rfl kr rfl ?_;refine ρ ?_;refine drN (λk=>bx k∨base<=k) 8 [(0,0),(0,1),(1,2),(1,3),(0,4)] kr ?_;have j:Ext w w.drew:=(Ext.refl w).drew;have a3:=hB.ext j;have Z:=hY.keep _ _ _ _ hy (GrN.ext j);refine ρn ?_;refine nld (Qy (a3.at (i:=0) rfl) J) ?_;refine ρn ?_;refine nop ?_;refine cl (Jlr (hr.ext j) (λk=>k<w.drew.heap.size) (λk O=>O)) ?_;rintro u w1 ⟨hu,y⟩;refine ρ ?_;refine Qg (GrN.ext y) ?_;refine nop ?_;refine clv (B base l w.drew w1 u z D Z y hu hl) ?_;rintro r w2 ⟨rfl,a1,hg2⟩;refine ρ ?_;refine Qg hg2 ?_;refine ρn ?_;refine ρ ?_;have G:GrN (λk=>bx k∨base<=k) w w2:=(GrN.ext (j.trans y)).trans hg2;exact Jq ⟨rfl,⟨⟨a1,Jr hB G J⟩,a2⟩,G⟩
theorem Xjr{w:World}{ts:List TA}{Aa:Option Addr}{vars:Nat->List Nat}{rs:Nat->List Row}{bx':Nat->Prop}(hok:RunOk n ts vars rs)(hR:Rd w 3 Aa ts.length (atC ts))(hle:ts.length<=ca)(hat:∀ p∈ts,AtV w p.1 p.2)(hchk:Jzk n (ts.map (·.2)))(hbx:∀ k,bx' k->k<w.heap.size)(hY:YZ w.heap.size yv bx' Y)(hY0:∀ w',Ext w w'->Y w'.heap.size [] w')(hcap:∀ l:List Row,Lt [] l->(∀ x∈l,Ia n ts.length vars rs x)->l.length<=65536):
  Ret Tryz.prog 118 [.int .i64 (n:Int),yv,.slice Aa ts.length ca] w λu w'=>GrN bx' w w'/\∃ st base l,u=.tuple #[.int .i64 st,.int .i64 0]/\w.heap.size<=base/\base<=w'.heap.size/\Y base l w'/\Lt [] l/\∀ x,x∈l↔Ia n ts.length vars rs x:=by
 have a4:=hok.m32;obtain⟨a2,first,a3,U,_⟩:=hY.call;subst U;refine Jz Tryz.func118 Tryz.ntmps118 rfl kr rfl ?_;refine ρ ?_;refine bx ?_;intro w1 b y hb hB;refine ρ ?_;refine cl (Qqq (n:=(n:Int)) (ats:=ts.map (·.2)) ⟨ts,Aa,ca,rfl,rfl,hle,om,hR.ext y,λp Z=>(hat p Z).ext y⟩) ?_
 rintro u w2 ⟨G,e,rfl,he⟩;have e0:=he.2 hchk;subst e0;have D:=hB.ext G;refine ρ ?_;refine ld (D.at (i:=0) rfl) ?_;refine ρ ?_;refine fnl ?_;have j:=y.trans G;have a5:b+1<=w2.heap.size:=D.lt;refine ρ ?_;refine cl (Qfz (bx':=bx') (Y:=λbase l w=>(Y base l w/\Blk w b 202 [.func (.func a2) first a3])/\b<base) hok (hR.ext j) (λp Z=>(hat p Z).ext j) (λk J=>nM (hbx k J) j.size) ?_ (λw' B=>⟨⟨hY0 w' (j.trans B),D.ext B⟩,by have:=B.size;omega⟩) hcap) ?_
 .have O:=Xjs hY hb hbx;exact⟨λbase l u u' h hg=>O.keep base l u u' h (hg.mono λk _ J=>⟨om,J.2⟩),O.call⟩
 rintro u w3 ⟨a1,st,base,l,rfl,O,⟨⟨h2,_⟩,h3⟩,h4,h5⟩;refine ρ ?_;exact Xb ⟨GrN.cut j a1 λk _ J=>J,st,base,l,rfl,om,O,h2,h4,h5⟩
end Go.Proofs.YtebiphhfkdbpfaaGreatDoor
namespace Go.Wk
open Go.RowKit
variable {e:Act}{parts:Array (Nat×Operand)}{pw:Array (Nat×Value)}{a b:Int}{k1 k2:IntKind}{vs:List Value}{i s t v:Nat}{x y:Operand}{yt:TypeId}
section
variable {N:Nat->Prop} {P:Program} {n:Nat} {al:AL} {w:World} {Q:Exit->Act->World->Prop} {ops:Array Oper} {rest:List Oper} {drest:List (Nat×Oper)}
variable {d ty:Nat} {pos:String} {aft:Array Edge}
theorem Jrl{t:TypeId}(hx:ev al x=some (.int k1 a))(hy:ev al y=some (.int k2 b))(h0:0<=b)(he:Fr n al e)(dst:Option Nat)(w:World):
  (execOp e.eval ⟨dst,.binOp .shr t x y yt,ty,pos,aft,none⟩).run P w=.ok (.value (.int k1 (a.fdiv (2^(min b.toNat k1.bits))))) w:=by
 have i:¬ b<0:=om
 simp[execOp,he.ev hx,he.ev hy,eqGuard,binOp,Op.shift,i]
theorem Jkh{t:TypeId}(hx:ev al x=some (.int k1 a))(hy:ev al y=some (.int k2 b))(h0:0<=b)(he:Fr n al e)(dst:Option Nat)(w:World):
  (execOp e.eval ⟨dst,.binOp .shl t x y yt,ty,pos,aft,none⟩).run P w=.ok (.value (.int k1 (k1.wrap (a*2^(min b.toNat k1.bits))))) w:=by
 have i:¬ b<0:=om
 simp[execOp,he.ev hx,he.ev hy,eqGuard,binOp,Op.shift,i]
theorem Jrd(s v:Nat)(hv:v<=32): ((s:Int)).fdiv (2^(min ((v:Nat):Int).toNat 32))=((s / 2^v:Nat):Int):=by grind
theorem Jjm(hv:v<32): 2^v<4294967296:=nM (Nat.pow_lt_pow_right (by decide:1<2) hv) (by decide)
theorem Jyb(hv:v<32): IntKind.u32.wrap (1*2^(min ((v:Nat):Int).toNat 32))=((2^v:Nat):Int):=by
 have h:=Jjm hv;rw[Int.toNat_natCast,Nat.min_eq_left om,Int.one_mul];have:((2:Int)^v)=((2^v:Nat):Int):=by simp
 rw[this,IntKind.wrap_u32];grind
theorem Jqt{t:TypeId}(hv:v<=32)(kk:WL P n ops Q rest ((d,.int .u32 ((s / 2^v:Nat):Int))::al) w)(hx:ev al x=some (.int .u32 (s:Int)):=by rfl)(hy:ev al y=some (.int .i64 (v:Int)):=by rfl)(hd:Nat.blt d n=true:=by rfl):
  WL P n ops Q (⟨some d,.binOp .shr t x y yt,ty,pos,aft,none⟩::rest) al w:=by
 rw[<-Jrd s v hv]at kk;exact wop hd (λa i=>Jrl hx hy om i (some d) w) kk
theorem sl32{t:TypeId}(hv:v<32)(kk:WL P n ops Q rest ((d,.int .u32 ((2^v:Nat):Int))::al) w)(hy:ev al y=some (.int .i64 (v:Int)):=by rfl)(hd:Nat.blt d n=true:=by rfl):
  WL P n ops Q (⟨some d,.binOp .shl t (.const (.int .u32 1)) y yt,ty,pos,aft,none⟩::rest) al w:=by
 rw[<-Jyb hv]at kk;exact wop hd (λa i=>Jkh (x:=.const (.int .u32 1)) rfl hy om i (some d) w) kk
theorem dsl32{t:TypeId}(hv:v<32)(kk:WD P n ops Q drest ((d,.int .u32 ((2^v:Nat):Int))::al) w)(hy:ev al y=some (.int .i64 (v:Int)):=by rfl)(hd:Nat.blt d n=true:=by rfl):
  WD P n ops Q ((0,⟨some d,.binOp .shl t (.const (.int .u32 1)) y yt,ty,pos,aft,none⟩)::drest) al w:=by
 rw[<-Jyb hv]at kk;exact dy (λw' _ a i=>Jkh (x:=.const (.int .u32 1)) rfl hy om i (some d) w') hd kk
theorem Jgf{t:TypeId}(hv:v<32)(kk:WN N P n ops Q drest ((d,.int .u32 ((2^v:Nat):Int))::al) w)(hy:ev al y=some (.int .i64 (v:Int)):=by rfl)(hd:Nat.blt d n=true:=by rfl):
  WN N P n ops Q ((0,⟨some d,.binOp .shl t (.const (.int .u32 1)) y yt,ty,pos,aft,none⟩)::drest) al w:=by
 rw[<-Jyb hv]at kk;exact ny_ (λw' _ a i=>Jkh (x:=.const (.int .u32 1)) rfl hy om i (some d) w') hd kk
end
section
variable {N:Nat->Prop} {P:Program} {n:Nat} {al:AL} {w:World} {Q:Exit->Act->World->Prop} {ops:Array Oper} {drest:List (Nat×Oper)}
variable {d ty:Nat} {pos:String} {aft:Array Edge}
theorem Jrr{v:Value}(hb:∀ w,(Instr.build t pw).run P w=.ok v w)(hx:evs al (parts.toList.map (·.2))=some vs)(hp:((parts.toList.map (·.1)).zip vs).toArray=pw){a:Act}(ha:Fr n al a)(dst:Option Nat)(w:World):
  (execOp a.eval ⟨dst,.build t parts,ty,pos,aft,none⟩).run P w=.ok (.value v) w:=by
 subst hp;have u:=ha.evs hx;have j:(parts.map fun (i,x)=>(i,a.eval x))=((parts.toList.map (·.1)).zip vs).toArray:=by grind
 simp only[execOp,j,Sem.run_bind,hb w];rfl
theorem nbld{v:Value}(hb:∀ w,(Instr.build t pw).run P w=.ok v w)(kk:WN N P n ops Q drest ((d,v)::al) w)(hx:evs al (parts.toList.map (·.2))=some vs:=by rfl)(hp:((parts.toList.map (·.1)).zip vs).toArray=pw:=by rfl)(hd:Nat.blt d n=true:=by rfl): WN N P n ops Q ((0,⟨some d,.build t parts,ty,pos,aft,none⟩)::drest) al w :=
 ny_ (λw' _ a i=>Jrr hb hx hp i (some d) w') hd kk
theorem dbld{v:Value}(hb:∀ w,(Instr.build t pw).run P w=.ok v w)(kk:WD P n ops Q drest ((d,v)::al) w)(hx:evs al (parts.toList.map (·.2))=some vs:=by rfl)(hp:((parts.toList.map (·.1)).zip vs).toArray=pw:=by rfl)(hd:Nat.blt d n=true:=by rfl): WD P n ops Q ((0,⟨some d,.build t parts,ty,pos,aft,none⟩)::drest) al w :=
 dy (λw' _ a i=>Jrr hb hx hp i (some d) w') hd kk
end
theorem Ip(hs:s<4294967296): (bits .and .u32 ((s / 2^v:Nat):Int) 1 == 1)=s.testBit v:=by
 have i:s / 2^v<4294967296:=Nat.lt_of_le_of_lt (Nat.div_le_self _ _) hs;have j:=u32_and_nat (s / 2^v) 1 i om;grind
theorem Qvk(hs:s<4294967296): (bits .and .u32 ((s / 2^v:Nat):Int) 1 == 0) = !s.testBit v:=by
 have i:s / 2^v<4294967296:=Nat.lt_of_le_of_lt (Nat.div_le_self _ _) hs;have j:=u32_and_nat (s / 2^v) 1 i om;grind
def Ue(s t:Nat): Nat:=s &&& (4294967295-t)
theorem Qvv(hs:s<4294967296): Ue s t<4294967296:=by grind [Ue,Nat.lt_of_le_of_lt,Nat.and_le_left]
theorem Jct(hs:s<4294967296)(ht:t<4294967296): (Ue s t).testBit i=(s.testBit i && !t.testBit i):=by
 unfold Ue;have e:4294967295-t=2^32-(t+1):=om
 rw[Nat.testBit_and,e,Nat.testBit_two_pow_sub_succ om];by_cases hi:i<32
 .grind
 have:s.testBit i=false:=Nat.testBit_lt_two_pow (nM hs (Nat.pow_le_pow_right (n:=2) (by decide) (show 32<=i by omega)));rw[this];rfl
theorem Jvc(hs:s<4294967296)(ht:t<4294967296): bits .andNot .u32 (s:Int) (t:Int)=((Ue s t:Nat):Int):=u32_andNot_nat s t hs ht
theorem Jqf(hs:s<4294967296)(ht:t<4294967296): bits .or .u32 (s:Int) (t:Int)=((s ||| t:Nat):Int):=u32_or_nat s t hs ht
theorem Jkr(hs:s<4294967296)(ht:t<4294967296): s ||| t<4294967296:=Nat.or_lt_two_pow (n:=32) hs ht
end Go.Wk
