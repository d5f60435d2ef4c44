/- Part 17. -/
import Derived.Test.YtebcagekopgdhaaGreatDoorB16
set_option linter.unusedVariables false
set_option maxRecDepth 100000
set_option maxHeartbeats 40000000
namespace Go.Proofs.YtebcagekopgdhaaGreatDoor
open Go.RowKit Pl Go.Wk
attribute [local irreducible] WC WL QX WD WDB WP WN
section
variable {w:World} {g:Nat} {A:Option Addr} {d L p e:Nat} {f h:Nat->Nat} {st:Int} {rs:List Row}
theorem Qgb{v:V}(hB:ItB w g A d L p e f h st)(hT:Off (λk=>k=g) w (λu=>TriA u A d rs))(hL:0<L)(hLd:L<=d)(hd:d<=32)(hpe:p<e)(he:e<=(lvl rs (L-1)).length)(hm:e<=1000000)(hs:∀ i j,p<=i->i<j->j<e->cmpV ((lvl rs (L-1)).getD i V0) ((lvl rs (L-1)).getD j V0)<0):
  Ret Tryz.prog 228 [.pointer (some ⟨g,0,none⟩),v.val] w λu w'=>GrN (λk=>k=g) w w'/\∃ q st',u=.bool (decide (q<e))/\p<=q/\q<=e/\(∀ i,p<=i->i<q->cmpV ((lvl rs (L-1)).getD i V0) v<0)/\(q<e->¬ cmpV ((lvl rs (L-1)).getD q V0) v<0)/\ItB w' g A d L q e f h st':=by
 obtain ⟨val,b2⟩:∃ val:Nat->V,val=λi=>(lvl rs (L-1)).getD i V0:=⟨_,rfl⟩;have ab:∀ i,(lvl rs (L-1)).getD i V0=val i:=λi=>by rw [b2]
 simp only [ab]at hs ⊢;have below:∀ {o i:Nat},p<=i->i<=o->o<e->cmpV (val o) v<0->cmpV (val i) v<0:=fun {o i} J h2 h3 h4=>by
  by_cases e':i=o
  .subst e';exact h4
  .exact cmp_V.lt_trans (hs i o J om h3) h4
 refine Jz Tryz.func228 Tryz.ntmps228 rfl kr rfl ?_;refine ρ ?_;refine bx (cs:=v.cells) ?_;intro w1 b b1 hb bc;have ba:b≠g:=by have:=hB.lt;omega
 have ac:¬ (λk=>k=g) b:=ba;refine ρ ?_;refine cl (Jqc (hB.ext b1)) ?_;rintro u w2 ⟨rfl,ay⟩;have aj:=b1.trans ay;have bd:=hB.ext aj;have bb:GrN (λk=>k=g) w w2:=GrN.ext aj;refine ρ ?_;refine cf ?_ ?_
 .simp [hL,hpe]
 refine ρ ?_;refine drN (λ_=>False) 10 [(0,0),(0,1),(0,2),(0,3),(0,4),(0,5),(0,6),(2,7),(2,8)] kr ?_;have am:Ext w2 w2.drew:=(Ext.refl w2).drew;have aq:=bd.ext am;have a8:=(bc.ext ay).ext am;have ap:=bb.trans (GrN.ext am);refine ρn ?_;refine nld (Jm (aq.at (i:=2) rfl) (λe=>e)) ?_;refine ρn ?_;refine Xd (cs:=v.cells) (λw' hg j u hu=>(Jd a8 hg (λe=>e)).at hu) ?_;refine ρn ?_;refine Xv ?_;refine cl (Jdq (q:=p) (qi:=(p:Int)) aq (hT.gr ap) hL hLd hd om rfl) ?_;rintro u w4 ⟨rfl,ao,aw,ai⟩;have ak:=Jd a8 ao ac;have a5:=ap.trans ao;refine ρ ?_;refine Us ?_;refine Xv ?_;refine ρ ?_;rw [ab];refine ci (λJ=>?_) (λJ=>?_)
 .have h2:¬ cmpV (val p) v<0:=by simpa using J
  refine ρ ?_;refine Jj ⟨a5,p,aw,by rw [decide_eq_true hpe],Nat.le_refl _,om,λi J h2=>om,λ_=>h2,ai⟩
 have h2:cmpV (val p) v<0:=by simpa using J
 clear J;refine ρ ?_;refine ld (ai.at (i:=2) rfl) ?_;refine ρ ?_;refine Xr (fun (o step:Nat) (st:Int)=>[(0,.pointer (some ⟨g,0,none⟩)),(3,.pointer (some ⟨b,0,none⟩)),(5,.int .i64 (o:Int)),(6,.int .i64 (step:Int))])
  (λo step st w'=>GrN (λk=>k=g) w w'/\ItB w' g A d L p e f h st/\Blk w' b 47 v.cells/\p<=o/\o<e/\cmpV (val o) v<0/\1<=step/\step<=2000000) (λo _ _=>e-o) p 1 aw sB
  ⟨a5,ai,ak,Nat.le_refl _,hpe,h2,Nat.le_refl _,om⟩ ?_
 clear ai ak a5 ao aq a8 ap;rintro o step b6 w5 ⟨af,ah,O,ad,b5,a2,b8,b7⟩;refine ρ ?_;refine ld (ah.at (i:=3) rfl) ?_;refine ρ ?_;refine Jhk (fun (t:Bool) (st:Int)=>[(0,.pointer (some ⟨g,0,none⟩)),(3,.pointer (some ⟨b,0,none⟩)),(5,.int .i64 (o:Int)),(6,.int .i64 (step:Int)),(42,.bool t)])
  (λt st w'=>GrN (λk=>k=g) w w'/\ItB w' g A d L p e f h st/\Blk w' b 47 v.cells/\(t=true->o+step<e/\cmpV (val (o+step)) v<0)/\(t=false->e<=o+step∨¬ cmpV (val (o+step)) v<0)) ?_ ?_
 .refine ki 35 (λJ=>?_) (λJ=>?_)
  .have h3:o+step<e:=by have:=oT J;omega
   refine ρ ?_;refine lds (cs:=v.cells) (λj u hu=>O.at hu) ?_;refine ρ ?_;refine cl (Jdq (q:=o+step) (qi:=(o:Int)+(step:Int)) ah (hT.gr af) hL hLd hd om om) ?_;rintro u w6 ⟨rfl,Z,aa,a1⟩;refine ρ ?_;rw [ab];refine Zn _ aa sB ⟨af.trans Z,a1,Jd O Z ac,λh'=>⟨h3,of_decide_eq_true h'⟩,λh'=>.inr (oF h')⟩
  .refine ρ ?_;exact Zn false b6 sB ⟨af,ah,O,λh'=>(by cases h'),λ_=>.inl (by have:=oF J;omega)⟩
 clear af ah O;rintro t aa w6 ⟨Z,a1,a7,b4,b3⟩;refine ci (λJ=>?_) (λJ=>?_)
 .obtain ⟨h3,h4⟩:=b4 J;refine ρ ?_;exact Qa (o+step) (step*2) aa sO ⟨Z,a1,a7,om,om,h4,om,om⟩ om
 have h3:=b3 J;clear b4 b3 J;refine ρ ?_;refine ld (a1.at (i:=3) rfl) ?_;refine ρ ?_;have b9:∃ hi:Nat,(if (e:Int)<(o:Int)+(step:Int) then (e:Int) else (o:Int)+(step:Int))=(hi:Int)/\o<hi/\hi<=e/\(hi<e->¬ cmpV (val hi) v<0):=by
  by_cases h4:e<o+step
  .exact ⟨e,by rw [if_pos om],b5,Nat.le_refl _,λh'=>om⟩
  .refine ⟨o+step,by rw [if_neg om];omega,om,om,λh'=>?_⟩;rcases h3 with h5|h5
   .omega
   .exact h5
 obtain ⟨hi,ar,an,a4,a3⟩:=b9;rw [ar];refine Xr (fun (o hi:Nat) (st:Int)=>[(0,.pointer (some ⟨g,0,none⟩)),(3,.pointer (some ⟨b,0,none⟩)),(5,.int .i64 (o:Int)),(7,.int .i64 (hi:Int))])
  (λo hi st w'=>GrN (λk=>k=g) w w'/\ItB w' g A d L p e f h st/\Blk w' b 47 v.cells/\p<=o/\cmpV (val o) v<0/\o<hi/\hi<=e/\(hi<e->¬ cmpV (val hi) v<0)) (λo hi _=>hi-o) o hi aa sB
  ⟨Z,a1,a7,ad,a2,an,a4,a3⟩ ?_
 clear Z a1 a7 ad b5 a2 b8 b7 h3 an a4 a3 ar;rintro C G av w7 ⟨ae,ag,a6,ad,a2,an,a4,a3⟩;refine ρ ?_;refine ci (λJ=>?_) (λJ=>?_)
 .have bf:C+1<G:=by have:=oT J;omega
  refine ρ ?_;refine qn (G-C) 2 ?_;refine ρ ?_;have be:C<C+(G-C) / 2/\C+(G-C) / 2<G:=om
  generalize hmm:(G-C) / 2=m at *
  refine lds (cs:=v.cells) (λj u hu=>a6.at hu) ?_;refine ρ ?_;refine cl (Jdq (q:=C+m) (qi:=(C:Int)+(m:Int)) ag (hT.gr ae) hL hLd hd om om) ?_;rintro u w8 ⟨rfl,U,au,a9⟩;refine ρ ?_;rw [ab];refine ci (λh2=>?_) (λh2=>?_)
  .refine ρ ?_;exact Qa (C+m) G au sO ⟨ae.trans U,a9,Jd a6 U ac,om,of_decide_eq_true h2,om,a4,a3⟩ om
  .refine ρ ?_;exact Qa C (C+m) au sO ⟨ae.trans U,a9,Jd a6 U ac,ad,a2,om,om,λ_=>oF h2⟩ om
 .have ar:G=C+1:=by have:=oF J;omega
  refine ρ ?_;refine sto (p:=⟨g,2,none⟩) (ag.cell 2) (ag.frozen _) ?_;have a9:ItB (w7.setCell ⟨g,2,none⟩ (.int .i64 (G:Int))) g A d L G e f h av:=ag.set 2 (.int .i64 (G:Int));have U:GrN (λk=>k=g) w (w7.setCell ⟨g,2,none⟩ (.int .i64 (G:Int))):=ae.trans (GrN.set _ rfl);refine ρ ?_;refine cl (Jqc a9) ?_;rintro u w9 ⟨rfl,ax⟩;refine ρ ?_;refine Jj ⟨U.trans (GrN.ext ax),G,av,?_,om,a4,λi J h2=>below J (show i<=C by omega) om a2,a3,a9.ext ax⟩;congr 1
  exact decide_eq_decide.2 ⟨λh'=>h'.2,λh'=>⟨hL,h'⟩⟩
end
open Go.RowKit Pl Go.Wk
theorem Qzg: Qt Tryz.prog 300=some (.agg #[.int .i64 0,.int .i64 0]):=kr
theorem Qqh(x y:Int)(w:World): (Instr.build 300 #[(0,.int .i64 x),(1,.int .i64 y)]).run Tryz.prog w=.ok (.agg #[.int .i64 x,.int .i64 y]) w:=kr
theorem Jws{x y:Int}: ∀ u∈[Value.int .i64 x,.int .i64 y],u.oneCell'=true:=by intro u o;simp at o;rcases o with rfl|rfl<;>rfl
section
variable {w:World} {g:Nat} {A:Option Addr} {d L p e:Nat} {f h:Nat->Nat} {st:Int} {rs:List Row}
theorem Jlf(w:World): Ret Tryz.prog 227 [.agg #[.slice A d d]] w λu w'=>u=.int .i64 (d:Int)/\Ext w w':=by
 refine Jz Tryz.func227 Tryz.ntmps227 rfl kr rfl ?_;refine ρ ?_;refine bx ?_;intro G b o J C;refine ρ ?_;refine ld (C.at (i:=0) rfl) ?_;refine ρ ?_;exact Jj ⟨rfl,o⟩
def Yx(rs:List Row)(L p:Nat): Row:=if L=0 then [] else (pfx rs L).getD p []
theorem Jdp(hB:ItB w g A d L p e f h st){j:Nat}{u:Value}(hu:[Value.slice A d d][j]?=some u): w.cell? (((⟨g,0,none⟩:Addr).add 0).add j)=some u:=by
 match j,hu with
 | 0,hu=>rw [add_zero,add_zero,hB.cell];exact hu
 | j+1,hu=>simp at hu
theorem it_at(hB:ItB w g A d L p e f h st){j:Nat}{u:Value}(hu:[Value.int .i64 (p:Int),.int .i64 (e:Int)][j]?=some u): w.cell? (((⟨g,0,none⟩:Addr).add 2).add j)=some u:=by
 match j,hu with
 | 0,hu=>rw [add_zero,Vg,hB.cell];exact hu
 | 1,hu=>rw [Vg,Vg,hB.cell];exact hu
 | j+2,hu=>simp at hu
theorem Qgc(hB:ItB w g A d L p e f h st)(hT:Off (λk=>k=g) w (λu=>TriA u A d rs))(hLd:L<d)(hd:d<=32)(hpe:0<L->p<e/\e<=(pfx rs L).length)(hrs:rs≠[])(hsrt:Srt [] rs)(hm:rs.length<=1000000)(hlen:∀ r∈rs,r.length=d):
  Ret Tryz.prog 216 [.pointer (some ⟨g,0,none⟩)] w λu w'=>u=.bool true/\GrN (λk=>k=g) w w'/\∃ lo hi,lo<hi/\hi<=(pfx rs (L+1)).length/\(∀ i,i<(pfx rs (L+1)).length->(((pfx rs (L+1)).getD i []).take L=Yx rs L p↔lo<=i/\i<hi))/\ItB w' g A d (L+1) lo hi (upd f L p) (upd h L e) st:=by
 refine Jz Tryz.func216 Tryz.ntmps216 rfl kr rfl ?_;refine ρ ?_;refine Qzq [(0,.pointer (some ⟨g,0,none⟩)),(30,.bool false)] (λw'=>Ext w w') ?_ ?_
 .refine dr [(0,0),(0,1),(0,2),(0,3),(0,4),(0,5),(0,6),(0,7),(0,8),(0,9),(1,10),(0,11),(0,12),(0,13),(0,14),(0,15),(0,16),(0,17),(0,18),(0,19),(0,20),(0,21),(0,22),(1,23),(0,24),(0,25)] kr ?_;have O:Ext w w.drew:=(Ext.refl w).drew;have G:=hB.ext O;refine ρd ?_;refine dpnl ?_;refine ρd ?_;refine dld (G.at (i:=1) rfl) ?_;refine ρd ?_;have rest:∀ (al:AL) (w2:World),True:=λ_ _=>trivial;refine dki 13 (λh1=>?_) (λh1=>?_)
  .have C:0<L:=by have:=oT h1;omega
   refine ρd ?_;refine dcl (Jqc G) ?_;rintro u w2 ⟨rfl,Z⟩;refine ⟨Z,?_⟩;have av:=G.ext Z;refine ρd ?_;refine dkf 19 ?_ ?_
   .have:=hpe C;simp [C,this.1]
   refine ρd ?_;refine dld (av.at (i:=1) rfl) ?_;refine ρd ?_;refine Qk (cs:=[.slice A d d]) (λj u hu=>Jdp av hu) ?_;refine ρd ?_;refine dcl (Jlf _) ?_;rintro u w3 ⟨rfl,U⟩;refine ⟨U,?_⟩;refine ρd ?_;refine ρ ?_;refine Jns (Sub.cons rfl (Sub.cons ?_ Sub.nil)) ((O.trans Z).trans U);exact congrArg (λz=>some (Value.bool z)) (dF om)
  .have C:L=0:=by have:=oF h1;omega
   refine ρd ?_;refine dld (G.at (i:=1) rfl) ?_;refine ρd ?_;refine Qk (cs:=[.slice A d d]) (λj u hu=>Jdp G hu) ?_;refine ρd ?_;refine dcl (Jlf _) ?_;rintro u w3 ⟨rfl,U⟩;refine ⟨U,?_⟩;refine ρd ?_;refine ρ ?_;refine Jns (Sub.cons rfl (Sub.cons ?_ Sub.nil)) (O.trans U);exact congrArg (λz=>some (Value.bool z)) (dF om)
 intro w1 ab;have a3:=hB.ext ab;obtain ⟨vv,fv,fs,hR,hv,hf,hc⟩:=(hT.ext ab).here;have be:(pfx rs (L+1)).length<=1000000:=by
  have:=Jzx (rs.map (List.take (L+1)));rw [List.length_map]at this;exact nL this hm
 refine ρ ?_;refine lds (cs:=[.slice A d d]) (λj u hu=>Jdp a3 hu) ?_;refine ρ ?_;refine cl (Jyx (l:=0) (vs:=lvl rs) hR (λl hl=>by obtain ⟨B,c,e,_⟩:=hv l hl;exact ⟨B,c,e⟩) rfl hd) ?_;rintro u w2 ⟨rfl,Z⟩;rw [if_pos (show 0<d by omega),Jql];refine ρ ?_;refine bld (Qqh _ _ _) ?_;refine ρ ?_;refine alc Qzg ?_;intro w3 b U hb b7;refine ρ ?_;refine stb b7 ?_ (Jws (x:=0) (y:=((pfx rs (0+1)).length:Int)));intro w4 a6 b2 ae;have a1:Ext w1 w4:=(Z.trans (ae w2 U hb));have au:=a3.ext a1;have ay:b≠g:=by have:=a3.lt;have:=Z.size;omega
 refine ρ ?_;refine ld (au.at (i:=1) rfl) ?_;refine ρ ?_;refine Kr (fun (lo hi:Nat)=>[(0,.pointer (some ⟨g,0,none⟩)),(3,.pointer (some ⟨b,0,none⟩))])
  (λlo hi w'=>Ext w1 w'/\Blk w' b 300 [.int .i64 (lo:Int),.int .i64 (hi:Int)]/\hi<=(pfx rs (L+1)).length/\∀ i,i<(pfx rs (L+1)).length->(((pfx rs (L+1)).getD i []).take L=Yx rs L p↔lo<=i/\i<hi)) ?_ ?_
 .refine ci (λh1=>?_) (λh1=>?_)
  .have C:0<L:=by have:=oT h1;omega
   obtain ⟨k,rfl⟩:∃ k,L=k+1:=⟨L-1,om⟩;have lk:k<d:=om
   obtain ⟨bc,bb⟩:=hpe C;obtain ⟨F,fc,b3,b6⟩:=hf k lk;have a8:=hc k om;obtain ⟨c1,c2,c3⟩:=a8;have bd:p<=1000000:=by
    have:=Jzx (rs.map (List.take (k+1)));rw [List.length_map]at this;have h4:(pfx rs (k+1)).length<=rs.length:=this;omega
   have lp:p<(fs k).length:=om
   have a7:p+1<(fs k).length:=om
   refine ρ ?_;refine drN (λ_=>False) 10 [(0,0),(0,1),(0,2),(0,3),(0,4),(0,5),(0,6),(0,7),(0,8),(0,9),(0,10),(0,11),(0,12),(0,13)] kr ?_;have a5:=a1.drew;have G:=a3.ext a5;have ak:=hR.ext a5;have b5:w4.drew.cell? ((adr A (k*2)).add 1)=some (fv k):=by rw [Xb];exact ak.cell (Gr d vv fv lk).2
   refine ρn ?_;refine nld (Jm (G.at (i:=0) rfl) (λe=>e)) ?_;refine ρn ?_;refine nld (Jm (G.at (i:=1) rfl) (λe=>e)) ?_;refine ρn ?_;refine Vt 2 k ak lk ?_;refine ρn ?_;refine nld (Jm b5 (λe=>e)) ?_;rw [b3];refine ρn ?_;refine ρ ?_;refine drN (λ_=>False) 10 [(0,0),(0,1),(0,2),(0,3),(0,4),(0,5),(0,6),(0,7),(0,8),(0,9),(0,10),(0,11),(0,12),(0,13),(0,14),(0,15),(0,16),(1,17),(2,18)] kr ?_;have a4:=a5.drew;have am:=a3.ext a4;have a9:=b6.ext a4;have an:=(a6.ext (Ext.refl w4).drew).ext (Ext.refl w4.drew).drew;refine ρn ?_;refine nld (Jm (am.at (i:=2) rfl) (λe=>e)) ?_;refine ρn ?_;refine nix p a9 lp ?_;refine ρn ?_;refine nld (Jm (a9.cell (Xh lp)) (λe=>e)) ?_;refine ρn ?_;refine nld (Jm (am.at (i:=2) rfl) (λe=>e)) ?_;refine ρn ?_;refine nix (p+1) a9 a7 ?_;refine ρn ?_;refine nld (Jm (a9.cell (Xh a7)) (λe=>e)) ?_;refine ρn ?_;refine nop ?_
   refine bld (Qqh _ _ _) ?_;refine ρ ?_;refine Je (GrN.refl _ _) ?_;refine ρn ?_;refine Xv ?_;refine stb an ?_ (Jws (x:=(((fs k).getD p 0:Nat):Int)) (y:=(((fs k).getD (p+1) 0:Nat):Int)));intro w5 J bf aw;refine ρ ?_;refine Zn ((fs k).getD p 0) ((fs k).getD (p+1) 0) sB ⟨aw w1 a4 (nL Z.size hb),J,c2 _ a7,λi hi=>?_⟩;rw [c3 p i a7 hi |>.symm,Yx,if_neg om]
  .have C:L=0:=by have:=oF h1;omega
   subst C;refine ρ ?_;refine Zn 0 (pfx rs (0+1)).length sB ⟨a1,a6,Nat.le_refl _,λi hi=>?_⟩;rw [Yx,if_pos rfl,List.take_zero];exact ⟨λ_=>⟨Nat.zero_le _,hi⟩,λ_=>rfl⟩
 clear b2 ae au a1 a6;rintro lo hi w5 ⟨aa,J,ax,a8⟩;have ac:lo<hi:=by
  have b4:∃ i,i<(pfx rs (L+1)).length/\((pfx rs (L+1)).getD i []).take L=Yx rs L p:=by
   have hr:∃ r∈rs,r.take L=Yx rs L p:=by
    by_cases C:L=0
    .subst C;obtain ⟨r,hr⟩:=List.exists_mem_of_ne_nil rs hrs;exact ⟨r,hr,by rw [Yx,if_pos rfl,List.take_zero]⟩
    .have:=hpe om;rw [Yx,if_neg C];exact (Jjw hsrt).1 (getD_mem' [] _ om)
   obtain ⟨r,hr,er⟩:=hr;obtain ⟨i,hi,ei⟩:=List.getElem_of_mem ((Jjw hsrt (l:=L+1)).2 ⟨r,hr,rfl⟩);refine ⟨i,hi,?_⟩;rw [Jp [] _ hi,ei,List.take_take,Nat.min_eq_left om,er]
  obtain ⟨i,hi,ei⟩:=b4;have:=(a8 i hi).1 ei;omega
 have ba:=a3.ext aa;refine ρ ?_;refine ld (J.at (i:=0) rfl) ?_;refine ρ ?_;refine ld (J.at (i:=1) rfl) ?_;refine ρ ?_;refine cf ?_ ?_
 .exact Jxk om
 refine ρ ?_;refine drN (λ_=>False) 10 [(0,0),(0,1),(0,2),(0,3),(0,4),(0,5),(0,6),(0,7),(0,8),(0,9),(0,10),(0,11),(2,12)] kr ?_;have O:Ext w5 w5.drew:=(Ext.refl w5).drew;have ad:=ba.ext O;have ap:=J.ext O;refine ρn ?_;refine nld (Jm (ad.at (i:=1) rfl) (λe=>e)) ?_;refine ρn ?_;refine Xd (cs:=[.int .i64 (p:Int),.int .i64 (e:Int)]) (λw' hg j u hu=>it_at (Jd ad hg (λe=>e)) hu) ?_;refine ρn ?_;refine nixa L (show L<32 by omega) ?_;refine ρn ?_;refine Xv ?_;have af:=seg2 (cs:=itC A d L p e f h st) (o:=4+L*2) (u:=.int .i64 (p:Int)) (v:=.int .i64 (e:Int)) (by rw [Jvf];omega);refine stB (o:=4+L*2) (us:=[.int .i64 (p:Int),.int .i64 (e:Int)]) ad (by rw [Jvf];simp only [List.length_cons,List.length_nil];omega) Jws ?_ (hp:=(Vg g (0+4) (L*2)).trans (by rw [Nat.zero_add]));intro w7 ar aj;have aq:ItB w7 g A d L p e (upd f L p) (upd h L e) st:=by
  have e1:(itC A d L p e f h st).take (4+L*2)++[Value.int .i64 (p:Int),.int .i64 (e:Int)]++(itC A d L p e f h st).drop (4+L*2+[Value.int .i64 (p:Int),.int .i64 (e:Int)].length)=itC A d L p e (upd f L p) (upd h L e) st:=by
   rw [<-Qgg A d L p e f h st (show L<32 by omega) p e];exact af
  rw [e1]at ar;exact ar
 have ao:=ap.grown aj (λe=>ay (by injection e));have ai:GrN (λk=>k=g) w w7:=(GrN.ext ((ab.trans aa).trans O)).trans (GrN.by aj λk e=>by injection e with e;exact e.symm);refine ρ ?_;refine ldW ao ?_;refine ρ ?_;refine stB (o:=2) (us:=[.int .i64 (lo:Int),.int .i64 (hi:Int)]) aq (by rw [Jvf];simp) Jws ?_;intro w8 b9 b1;have a2:ItB w8 g A d L lo hi (upd f L p) (upd h L e) st:=b9;have ah:=ai.trans (GrN.by b1 λk e=>by injection e with e;exact e.symm);refine ρ ?_;refine ld (a2.at (i:=1) rfl) ?_;refine ρ ?_;refine sto (p:=⟨g,1,none⟩) (a2.cell 1) (a2.frozen _) ?_;have b8:ItB (w8.setCell ⟨g,1,none⟩ (.int .i64 ((L:Int)+1))) g A d (L+1) lo hi (upd f L p) (upd h L e) st:=a2.set 1 (.int .i64 ((L:Int)+1));have ag:GrN (λk=>k=g) w (w8.setCell ⟨g,1,none⟩ (.int .i64 ((L:Int)+1))):=ah.trans (GrN.set _ rfl);refine ρ ?_;exact Jj ⟨rfl,ag,lo,hi,ac,ax,a8,b8⟩
end
open Go.RowKit Pl Go.Wk
def gtN(U:List V)(key:V): Nat:=(U.filter λy=>decide (cmpV key y<0)).length
theorem Qhb(U:List V)(key:V): gtN U key<=U.length:=List.length_filter_le _ _
theorem Jsr: ∀ {U:List V} {key key':V},key'∈U->cmpV key key'<0->gtN U key'<gtN U key
 | [],_,_,h,_=>by cases h
 | x::U,key,key',h,hlt=>by
  have mono:∀ U:List V,gtN U key'<=gtN U key:=λU=>by
   induction U with
   | nil=>exact Nat.le_refl _
   | cons y U ih=>
    unfold gtN at *;by_cases e:cmpV key' y<0
    .have:=cmp_V.lt_trans hlt e;rw [List.filter_cons_of_pos (by simpa using e),List.filter_cons_of_pos (by simpa using this)];simp only [List.length_cons];omega
    .rw [List.filter_cons_of_neg (by simpa using e)];by_cases e2:cmpV key y<0
     .rw [List.filter_cons_of_pos (by simpa using e2)];simp only [List.length_cons];omega
     .rw [List.filter_cons_of_neg (by simpa using e2)];exact ih
  rcases List.mem_cons.1 h with rfl|h'
  .have:=mono U;unfold gtN at *;rw [List.filter_cons_of_neg (by rw [Zv];simp),List.filter_cons_of_pos (by simpa using hlt)];simp only [List.length_cons];omega
  .have ih:=Jsr h' hlt;unfold gtN at *;by_cases e:cmpV key' x<0
   .have:=cmp_V.lt_trans hlt e;rw [List.filter_cons_of_pos (by simpa using e),List.filter_cons_of_pos (by simpa using this)];simp only [List.length_cons];omega
   .rw [List.filter_cons_of_neg (by simpa using e)];by_cases e2:cmpV key x<0
    .rw [List.filter_cons_of_pos (by simpa using e2)];simp only [List.length_cons];omega
    .rw [List.filter_cons_of_neg (by simpa using e2)];exact ih
structure Fix where
 G: Nat->Nat
 A:Nat->Option Addr
 d:Nat->Nat
 rs:Nat->List Row
structure Lev where
 L: Nat->Nat
 lo:Nat->Nat
 e:Nat->Nat
 f:Nat->Nat->Nat
 h:Nat->Nat->Nat
def Fix.val(F:Fix)(V':Lev)(i a:Nat): V:=(lvl (F.rs i) (V'.L i-1)).getD a V0
def Jjt(F:Fix)(I:List Nat): List Value:=I.map λi=>.pointer (some ⟨F.G i,0,none⟩)
theorem Jjs{F:Fix}{I:List Nat}{k:Nat}(h:k<I.length): (Jjt F I)[k]?=some (.pointer (some ⟨F.G (I.getD k 0),0,none⟩)):=by simp [Jjt,List.getD,List.getElem?_eq_getElem h]
structure OnS(F:Fix)(V':Lev)(I:List Nat): Prop where
 lev:∀ i∈I,0<V'.L i/\V'.L i<=F.d i/\F.d i<=32
 rng:∀ i∈I,V'.e i<=(lvl (F.rs i) (V'.L i-1)).length/\V'.e i<=1000000
 srt:∀ i∈I,∀ a b,V'.lo i<=a->a<b->b<V'.e i->cmpV (F.val V' i a) (F.val V' i b)<0
 inj:∀ i∈I,∀ j∈I,F.G i=F.G j->i=j
 len:I.length<=32
def NG(F:Fix)(I:List Nat)(J:Nat)(k:Nat): Prop:=k=J∨∃ i∈I,k=F.G i
def Its(F:Fix)(V':Lev)(I:List Nat)(w:World)(p:Nat->Nat): Prop:=∀ i∈I,∃ st,ItB w (F.G i) (F.A i) (F.d i) (V'.L i) (p i) (V'.e i) (V'.f i) (V'.h i) st
def Cmn(F:Fix)(V':Lev)(I:List Nat)(y:V): Prop:=∀ i∈I,∃ a,V'.lo i<=a/\a<V'.e i/\F.val V' i a=y
def JB(w:World)(J:Nat)(jr ja yv:Value): Prop:=∃ st:Int,Blk w J 281 [jr,ja,.int .i64 st,yv]
def Io(F:Fix)(V':Lev)(I:List Nat): List V:=I.flatMap λi=>(List.range (V'.e i-V'.lo i)).map λa=>F.val V' i (V'.lo i+a)
theorem Qpx{F:Fix}{V':Lev}{I:List Nat}{i a:Nat}(hi:i∈I)(h1:V'.lo i<=a)(h2:a<V'.e i): F.val V' i a∈Io F V' I:=by
 refine List.mem_flatMap.2 ⟨i,hi,List.mem_map.2 ⟨a-V'.lo i,List.mem_range.2 om,?_⟩⟩;congr 1;omega
theorem Qxk{F:Fix}{V':Lev}: ∀ {I:List Nat},(∀ i∈I,V'.e i<=1000000)->(Io F V' I).length<=I.length*1000000
 | [],_=>Nat.le_refl _
 | i::I,h=>by
  have ih:=Qxk (F:=F) (V':=V') (I:=I) (λj hj=>h j (List.mem_cons_of_mem _ hj));have h1:=h i (mC ..);simp only [Io,List.flatMap_cons,List.length_append,List.length_map,List.length_range,List.length_cons]at ih ⊢;omega
theorem Qmg{a b c:V}(h1:cmpV a b<=0)(h2:cmpV b c<=0): cmpV a c<=0:=cmp_V.trans a b c h1 h2
theorem Qwj(k n:Nat): (k:Int).tmod (n:Int)=((k % n:Nat):Int):=by rw [Int.tmod_eq_emod_of_nonneg om];rfl
open Go.RowKit Pl Go.Wk
theorem _root_.Go.Wk.GrN.newBy{N:Nat->Prop}{w w' w'':World}{b:Nat}(h:GrN N w w')(hg:w'.grownBy w'' (some b))(hb:w.heap.size<=b): GrN N w w'' :=
 ⟨hg.os.trans h.os,hg.tape.trans h.tape,hg.output.trans h.output,Nat.le_trans h.size hg.size,λk o hn=>(hg.block k (nM o h.size) (λe=>by injection e with e;omega)).trans (h.block k o hn)⟩
theorem Jpr{α:Type}{l:List α}(h:l.Nodup){i j:Nat}(hi:i<l.length)(hj:j<l.length)(e:l[i]=l[j]): i=j:=by
 have o:=List.pairwise_iff_getElem.1 h;rcases Nat.lt_trichotomy i j with h1|h1|h1
 .exact absurd e (o i j hi hj h1)
 .exact h1
 .exact absurd e.symm (o j i hj hi h1)
theorem Qdq{n k s:Nat}(h1:1<=s)(h2:s<n)(h3:s<=k): (k-s) % n≠k % n:=by
 intro e;have C:(k-s+s) % n=(k-s) % n:=by rw [Nat.sub_add_cancel h3];exact e.symm
 have o:((k-s) % n+s) % n=(k-s) % n:=by rw [Nat.mod_add_mod];exact C
 generalize hx:(k-s) % n=x at *
 have u:x<n:=by rw [<-hx];exact Nat.mod_lt _ om
 rcases Nat.lt_or_ge (x+s) n with h6|h6
 .rw [Nat.mod_eq_of_lt h6]at o;omega
 .rw [Nat.mod_eq_sub_mod h6,Nat.mod_eq_of_lt om]at o;omega
theorem Qdr{n k r:Nat}(hr:r<n)(hk:n<=k): ∃ s,1<=s/\s<=n/\(k-s) % n=r:=by
 have G:k % n<n:=Nat.mod_lt _ om;have u:=Nat.div_add_mod k n;by_cases h:r<k % n
 .refine ⟨k % n-r,om,om,?_⟩;have:k-(k % n-r)=n*(k / n)+r:=om
  rw [this,Nat.mul_add_mod,Nat.mod_eq_of_lt hr]
 .refine ⟨k % n+n-r,om,om,?_⟩;have C:1<=k / n:=(Nat.one_le_div_iff om).2 hk;obtain ⟨q,o⟩:∃ q,k / n=q+1:=⟨k / n-1,om⟩;rw [o,Nat.mul_succ]at u;have:k-(k % n+n-r)=n*q+r:=om
  rw [this,Nat.mul_add_mod,Nat.mod_eq_of_lt hr]
theorem Jrc{w:World}{F:Fix}{V':Lev}{I:List Nat}{J:Nat}{p:Nat->Nat}{jr ja yv:Value}{B:Option Addr}{c:Nat}(hO:OnS F V' I)(hne:0<I.length)(hnd:I.Nodup)(hIts:Its F V' I w p)(hJ:JB w J jr ja yv)(hJG:∀ i∈I,F.G i≠J)(hT:∀ i∈I,Off (NG F I J) w (λu=>TriA u (F.A i) (F.d i) (F.rs i)))(hB:Off (NG F I J) w (λu=>Rd u 1 B I.length (Jjt F I)))(hp:∀ i∈I,V'.lo i<=p i/\p i<V'.e i)(hK:∀ i∈I,∀ a,V'.lo i<=a->a<p i->cmpV (F.val V' i a) (F.val V' (I.getD 0 0) (p (I.getD 0 0)))<0):
  Ret Tryz.prog 217 [.pointer (some ⟨J,0,none⟩),.slice B I.length c] w λu w'=>GrN (NG F I J) w w'/\JB w' J jr ja yv/\∃ p' t,u=.bool t/\Its F V' I w' p'/\(∀ i∈I,V'.lo i<=p' i/\p' i<=V'.e i) /\
   (t=true->∃ x,(∀ i∈I,p' i<V'.e i/\F.val V' i (p' i)=x)/\cmpV (F.val V' (I.getD 0 0) (p (I.getD 0 0))) x<=0/\∀ y,Cmn F V' I y->cmpV (F.val V' (I.getD 0 0) (p (I.getD 0 0))) y<=0->cmpV x y<=0) /\
   (t=false->∀ y,Cmn F V' I y->¬ cmpV (F.val V' (I.getD 0 0) (p (I.getD 0 0))) y<=0):=by
 have ab:I.getD 0 0∈I:=getD_mem' 0 I hne;obtain ⟨K0,b4⟩:∃ K0,K0=F.val V' (I.getD 0 0) (p (I.getD 0 0)):=⟨_,rfl⟩;rw [<-b4]at hK ⊢;have cm:=hO.len;have aq:∀ i∈I,F.G i<w.heap.size:=λi hi=>by obtain ⟨st,C⟩:=hIts i hi;exact C.lt
 have bo:J<w.heap.size:=by obtain ⟨st,C⟩:=hJ;exact C.lt
 refine Jz Tryz.func217 Tryz.ntmps217 rfl kr rfl ?_;refine ρ ?_;refine ix 0 hB.here hne ?_;refine ρ ?_;refine ld (hB.here.cell (Jjs hne)) ?_;refine ρ ?_;obtain ⟨cq,bs⟩:=hIts _ ab;have aj:=hO.lev _ ab;have b1:=hp _ ab;have c4:=hO.rng _ ab;refine cl (Jdr bs (hT _ ab).here aj.2.1 aj.2.2 (λ_=>c4.1)) ?_;rintro u w1 ⟨be,v,rfl,hv⟩;have c3:=hv ⟨aj.1,b1.2⟩;have c2:v=K0:=by rw [c3,b4];rfl
 subst c2;rw [decide_eq_true (show 0<V'.L (I.getD 0 0)/\p (I.getD 0 0)<V'.e (I.getD 0 0) from ⟨aj.1,b1.2⟩)];refine ρ ?_;refine alc (cs:=V0.cells) Gq ?_;intro w2 bk bd b2 bu;refine ρ ?_;refine stb (cs':=v.cells) bu ?_ (V.one _);intro w3 au cd bc;have am:Ext w1 w3:=bc w1 bd b2;have a6:=be.trans am;have bj:w.heap.size<=bk:=nL be.size b2;refine ρ ?_;refine Jjg (fun (same k:Nat) (key:V) (p:Nat->Nat)=>[(0,.pointer (some ⟨J,0,none⟩)),(1,.slice B I.length c),(5,.pointer (some ⟨bk,0,none⟩)),(7,.int .i64 (same:Int)),(8,.int .i64 (k:Int))])
  (λsame k key p w'=>GrN (NG F I J) w w'/\JB w' J jr ja yv/\Its F V' I w' p/\Blk w' bk 47 key.cells/\(∀ i∈I,V'.lo i<=p i/\p i<V'.e i)/\(∀ i∈I,∀ a,V'.lo i<=a->a<p i->cmpV (F.val V' i a) key<0)/\cmpV v key<=0/\(∀ y,Cmn F V' I y->cmpV v y<=0->cmpV key y<=0) /\
   1<=same/\same<=I.length/\same<=k/\k+(gtN (Io F V' I) key*33+(I.length-same))<=2000000000/\(∀ s,1<=s->s<=same->F.val V' (I.getD ((k-s) % I.length) 0) (p (I.getD ((k-s) % I.length) 0))=key)) (λsame k key p=>gtN (Io F V' I) key*33+(I.length-same)) 1 1 v p sB
  ⟨GrN.ext a6,?_,λi hi=>?_,au,hp,hK,by rw [Zv];omega,λy _ h'=>h',Nat.le_refl _,hne,Nat.le_refl _,?_,λs C h2=>?_⟩ ?_
 .obtain ⟨st,hJ⟩:=hJ;exact ⟨st,hJ.ext a6⟩
 .obtain ⟨st,hI⟩:=hIts i hi;exact ⟨st,hI.ext a6⟩
 .have C:=Qhb (Io F V' I) v;have h2:=Qxk (F:=F) (V':=V') (I:=I) (λi hi=>(hO.rng i hi).2);omega
 .have:s=1:=om
  subst this;rw [Nat.sub_self,Nat.zero_mod];exact b4.symm
 clear au cd bc bu am a6 bd b2 hJ hIts hp hK bs b1;rintro same k key p w4 ⟨ak,⟨sj,bq⟩,a4,ar,a2,b3,ax,a8,cw,cv,cr,d2,bf⟩;refine ρ ?_;refine ci (λC=>?_) (λC=>?_)
 .have cz:same<I.length:=by have:=oT C;omega
  clear C;have c0:=hB w4 ak;refine ρ ?_;refine rem (show ((I.length:Nat):Int)≠0 by omega) ?_;rw [Qwj];have lr:k % I.length<I.length:=Nat.mod_lt _ hne;refine ρ ?_;refine ix (k % I.length) c0 lr ?_;refine ρ ?_;refine ld (c0.cell (Jjs lr)) ?_;refine ρ ?_;obtain ⟨i,hi⟩:∃ i,i=I.getD (k % I.length) 0:=⟨_,rfl⟩;rw [<-hi];have o:i∈I:=by rw [hi];exact getD_mem' 0 I lr
  refine lds (cs:=key.cells) (λj u hu=>ar.at hu) ?_;refine ρ ?_;obtain ⟨cp,cg⟩:=a4 i o;have a3:=hO.lev i o;have ay:=hO.rng i o;have c8:=a2 i o;have bn:Off (λk=>k=F.G i) w4 (λu=>TriA u (F.A i) (F.d i) (F.rs i)):=((hT i o).gr ak).mono λj _ ej=>.inr ⟨i,o,ej⟩;refine cl (Qgb (v:=key) cg bn a3.1 a3.2.1 a3.2.2 c8.2 ay.1 ay.2 (λa b C h2 h3=>hO.srt i o a b om h2 h3)) ?_;rintro u w5 ⟨ae,q,c1,rfl,cy,cx,c7,c6,br⟩;have ch:∀ j∈I,j≠i->¬ (λk=>k=F.G i) (F.G j):=λj hj ca e=>ca (hO.inj j hj i o e);have bh:GrN (NG F I J) w4 w5:=ae.mono λj _ ej=>.inr ⟨i,o,ej⟩;have ah:Its F V' I w5 (upd p i q):=λj hj=>by
   by_cases e:j=i
   .subst e;rw [Jf];exact ⟨c1,br⟩
   .rw [Jy _ _ e];obtain ⟨st,a5⟩:=a4 j hj;exact ⟨st,Jd a5 ae (ch j hj e)⟩
  have bp:=Jd bq ae (λe=>hJG i o e.symm);have bl:¬ (λk=>k=F.G i) bk:=λe=>by have C:=aq i o;omega
  have bt:=Jd ar ae bl;have ad:=ak.trans bh;have O:∀ a,V'.lo i<=a->a<q->cmpV (F.val V' i a) key<0:=λa C h2=>by
   by_cases h3:a<p i
   .exact b3 i o a C h3
   .exact c7 a om h2
  refine ρ ?_;refine ci (λC=>?_) (λC=>?_)
  .have aa:¬ q<V'.e i:=by simpa using C
   refine ρ ?_;refine Jj ⟨ad,⟨sj,bp⟩,upd p i q,false,rfl,ah,λj hj=>?_,λe=>(by cases e),λ_ y hy aw=>?_⟩
   .by_cases e:j=i
    .subst e;rw [Jf];omega
    .rw [Jy _ _ e];have:=a2 j hj;omega
   .obtain ⟨a,h2,h3,h4⟩:=hy i o;have h5:=a8 y hy aw;have h6:=O a h2 om;rw [h4]at h6;have:=cmp_V.anti key y;omega
  have aa:q<V'.e i:=by simpa using C
  have c5:=c6 aa;clear C;refine ρ ?_;refine cl (Jdr br (bn w5 ae) a3.2.1 a3.2.2 (λ_=>ay.1)) ?_;rintro u w6 ⟨av,nx,rfl,c9⟩;have a1:nx=F.val V' i q:=c9 ⟨a3.1,aa⟩;rw [decide_eq_true (show 0<V'.L i/\q<V'.e i from ⟨a3.1,aa⟩)];refine ρ ?_;refine alc (cs:=V0.cells) Gq ?_;intro w7 b7 bb bm bz;refine ρ ?_;refine stb (cs':=nx.cells) bz ?_ (V.one _);intro w8 bw cc ba;have a7:Ext w5 w8:=av.trans (ba w6 bb bm);have ag:=bp.ext a7;refine ρ ?_;refine ld (ag.at (i:=2) rfl) ?_;refine ρ ?_;refine sto (p:=⟨J,2,none⟩) (ag.cell 2) (ag.frozen _) ?_;have ce:=ag.set 2 (.int .i64 (IntKind.i64.wrap (sj+1)));have cb:GrN (NG F I J) w8 (w8.setCell ⟨J,2,none⟩ (.int .i64 (IntKind.i64.wrap (sj+1)))):=GrN.set _ (.inl rfl);have cn:w.heap.size<=b7:=nL ad.size (nL av.size bm);have bv:Blk (w8.setCell ⟨J,2,none⟩ (.int .i64 (IntKind.i64.wrap (sj+1)))) b7 47 nx.cells:=bw.far (by simp only;omega) _;have ai:Blk (w8.setCell ⟨J,2,none⟩ (.int .i64 (IntKind.i64.wrap (sj+1)))) bk 47 key.cells:=(bt.ext a7).far (by simp only;omega) _
  have b5:Its F V' I (w8.setCell ⟨J,2,none⟩ (.int .i64 (IntKind.i64.wrap (sj+1)))) (upd p i q):=λj hj=>by
   obtain ⟨st,a5⟩:=ah j hj;exact ⟨st,(a5.ext a7).far (hJG j hj) _⟩
  have ao:=(ad.trans (GrN.ext a7)).trans cb;clear cc ba bw bz bb av ag;generalize w8.setCell ⟨J,2,none⟩ (.int .i64 (IntKind.i64.wrap (sj+1)))=w9 at *
  have bg:∀ j∈I,V'.lo j<=upd p i q j/\upd p i q j<V'.e j:=λj hj=>by
   by_cases e:j=i
   .subst e;rw [Jf];have:=a2 j hj;omega
   .rw [Jy _ _ e];exact a2 j hj
  refine ρ ?_;refine lds (cs:=nx.cells) (λj u hu=>bv.at hu) ?_;refine ρ ?_;refine lds (cs:=key.cells) (λj u hu=>ai.at hu) ?_;refine ρ ?_;refine cl (Jjh nx key _) ?_;rintro u b9 ⟨rfl,Z⟩;refine ρ ?_;have ap:JB b9 J jr ja yv:=⟨_,ce.ext Z⟩;have a9:Its F V' I b9 (upd p i q):=λj hj=>by
   obtain ⟨st,a5⟩:=b5 j hj;exact ⟨st,a5.ext Z⟩
  refine ci (λC=>?_) (λC=>?_)
  .have bi:nx=key:=cmp_V.zero _ _ (Xf C);refine ρ ?_;refine Gy (same+1) (k+1) key (upd p i q) sO ⟨ao.trans (GrN.ext Z),ap,a9,ai.ext Z,bg,λj hj a h2 h3=>?_,ax,a8,om,om,om,om,λs h2 h3=>?_⟩ om
   .by_cases e:j=i
    .subst e;rw [Jf]at h3;exact O a h2 h3
    .rw [Jy _ _ e]at h3;exact b3 j hj a h2 h3
   .by_cases e:s=1
    .subst e;rw [Nat.add_sub_cancel,<-hi,Jf,<-a1,bi]
    .have h4:k+1-s=k-(s-1):=om
     rw [h4];have h5:(k-(s-1)) % I.length<I.length:=Nat.mod_lt _ hne;have h6:I.getD ((k-(s-1)) % I.length) 0≠i:=λe2=>by
      rw [hi,Jp 0 I h5,Jp 0 I lr]at e2;have e3:=Jpr hnd h5 lr e2;exact Qdq (n:=I.length) (k:=k) (s:=s-1) om om om e3
     rw [Jy _ _ h6];exact bf (s-1) om om
  .have ck:=Xg C;have ac:cmpV key nx<0:=by
    have h2:=cmp_V.anti nx key;have h3:¬ cmpV nx key<0:=by rw [a1];exact c5
    omega
   have d0:=Jsr (U:=Io F V' I) (by rw [a1];exact Qpx o om aa) ac;have b8:=ai.ext Z;refine ρ ?_;refine lds (cs:=nx.cells) (λj u hu=>(bv.ext Z).at hu) ?_;refine ρ ?_;refine stb (cs':=nx.cells) b8 ?_ (V.one _);intro co b6 af cj;have an:∀ {g:Nat},g<w.heap.size->some g≠some bk:=fun {g} hg e=>by injection e with e;omega
   refine ρ ?_;refine Gy 1 (k+1) nx (upd p i q) sO ⟨(ao.trans (GrN.ext Z)).newBy af bj,?_,λj hj=>?_,b6,bg,λj hj a h2 h3=>?_,?_,λy hy aw=>?_,Nat.le_refl _,hne,om,om,λs h2 h3=>?_⟩ om
   .obtain ⟨st,hJ⟩:=ap;exact ⟨st,hJ.grown af (an bo)⟩
   .obtain ⟨st,a5⟩:=a9 j hj;exact ⟨st,a5.grown af (an (aq j hj))⟩
   .by_cases e:j=i
    .subst e;rw [Jf]at h3;exact cmp_V.lt_trans (O a h2 h3) ac
    .rw [Jy _ _ e]at h3;exact cmp_V.lt_trans (b3 j hj a h2 h3) ac
   .exact Qmg ax om
   .obtain ⟨a,h2,h3,h4⟩:=hy i o;have h5:=a8 y hy aw;have h6:q<=a:=by
     rcases Nat.lt_or_ge a q with h7|h7
     .have h8:=O a h2 h7;rw [h4]at h8;have:=cmp_V.anti key y;omega
     .exact h7
    rw [a1,<-h4];by_cases e:a=q
    .subst e;rw [Zv];omega
    .have:=hO.srt i o q a om om h3;omega
   .have:s=1:=om
    subst this;rw [Nat.add_sub_cancel,<-hi,Jf];exact a1.symm
 .have d1:same=I.length:=by have:=oF C;omega
  refine ρ ?_;refine Jj ⟨ak,⟨sj,bq⟩,p,true,rfl,a4,λi hi=>⟨(a2 i hi).1,Nat.le_of_lt (a2 i hi).2⟩,λ_=>⟨key,λi hi=>⟨(a2 i hi).2,?_⟩,ax,a8⟩,λe=>by cases e⟩;obtain ⟨r,hr,er⟩:=List.getElem_of_mem hi;obtain ⟨s,C,h2,h3⟩:=Qdr hr (show I.length<=k by omega);have:=bf s C om;rw [h3,Jp 0 I hr,er]at this;exact this
end Go.Proofs.YtebcagekopgdhaaGreatDoor
namespace Go.Proofs.YtebcagekopgdhaaGreatDoor
open Pl
def Qo(vs:List Nat): Prop:=vs.Pairwise (· < ·)
def lv(vs:List Nat)(v:Nat): Nat:=(vs.filter λu=>decide (u<v)).length
theorem Jrh(vs:List Nat)(v:Nat): lv vs v<=vs.length:=List.length_filter_le _ _
theorem Jzf(vs:List Nat): lv vs 0=0:=by simp [lv]
theorem Jrk{vs:List Nat}{n:Nat}(h:∀ u∈vs,u<n): lv vs n=vs.length:=by
 unfold lv;rw [List.filter_eq_self.2 (λu o=>by simpa using h u o)]
theorem Jzg(u:Nat)(vs:List Nat)(v:Nat): lv (u::vs) v=(if u<v then 1 else 0)+lv vs v:=by
 unfold lv;by_cases h:u<v
 .rw [List.filter_cons_of_pos (by simpa using h),if_pos h,List.length_cons];omega
 .rw [List.filter_cons_of_neg (by simpa using h),if_neg h];omega
theorem Jct{vs:List Nat}{v:Nat}(h:∀ u∈vs,v<=u): lv vs v=0:=by
 unfold lv;rw [List.filter_eq_nil_iff.2 (λu o=>by have:=h u o;simp;omega)];rfl
theorem Ih{vs:List Nat}{v:Nat}(h:v ∉ vs): lv vs (v+1)=lv vs v:=by
 induction vs with
 | nil=>rfl
 | cons u vs ih=>
  rw [Jzg,Jzg,ih (λo=>h (List.mem_cons_of_mem _ o))];have:u≠v:=λe=>h (by rw [e];exact mC ..);by_cases h1:u<v
  .rw [if_pos h1,if_pos om]
  .rw [if_neg h1,if_neg om]
theorem Vd{vs:List Nat}{v:Nat}(ha:Qo vs)(h:v∈vs): lv vs (v+1)=lv vs v+1/\lv vs v<vs.length/\vs.getD (lv vs v) 0=v:=by
 induction vs with
 | nil=>cases h
 | cons u vs ih=>
  obtain ⟨C,U⟩:=List.pairwise_cons.1 ha;rw [Jzg,Jzg];rcases List.mem_cons.1 h with rfl|h'
  .have e1:lv vs v=0:=Jct λx o=>Nat.le_of_lt (C x o);have Z:lv vs (v+1)=0:=Jct λx o=>C x o;rw [if_pos (show v<v+1 by omega),if_neg (show ¬ v<v by omega),e1,Z];exact ⟨rfl,by rw [List.length_cons];omega,rfl⟩
  .have O:=C v h';obtain ⟨J,i2,G⟩:=ih U h';rw [if_pos (show u<v+1 by omega),if_pos O,J];refine ⟨om,by rw [List.length_cons];omega,?_⟩;rw [Nat.add_comm 1,List.getD_cons_succ];exact G
theorem Qfd{vs:List Nat}{v:Nat}(ha:Qo vs): vs.take (lv vs v)=vs.filter λu=>decide (u<v):=by
 induction vs with
 | nil=>rfl
 | cons u vs ih=>
  obtain ⟨C,G⟩:=List.pairwise_cons.1 ha;by_cases h:u<v
  .rw [Jzg,if_pos h,Nat.add_comm 1,List.take_succ_cons,ih G,List.filter_cons_of_pos (by simpa using h)]
  .have e:lv (u::vs) v=0:=Jct λx o=>by
    rcases List.mem_cons.1 o with rfl|h'
    .omega
    .have:=C x h';omega
   rw [e,List.take_zero,List.filter_eq_nil_iff.2];intro x o;have:v<=x:=by
    rcases List.mem_cons.1 o with rfl|h'
    .omega
    .have:=C x h';omega
   simp;omega
theorem Jll{z z':Row}{v u:Nat}(h:z.take v=z'.take v)(hu:u<v): z.getD u V0=z'.getD u V0:=by
 have:=congrArg (λl=>l.getD u V0) h;simp only [List.getD,List.getElem?_take,if_pos hu]at this;exact this
theorem Jcj{vs:List Nat}{v:Nat}{z z':Row}(ha:Qo vs)(h:z.take v=z'.take v): (pmR vs z).take (lv vs v)=(pmR vs z').take (lv vs v):=by
 unfold pmR;rw [<-List.map_take,<-List.map_take,Qfd ha];exact List.map_congr_left λu o=>Jll h (by simpa using (List.mem_filter.1 o).2)
theorem Jpd{vs:List Nat}{z:Row}{k:Nat}(h:k<vs.length): (pmR vs z).getD k V0=z.getD (vs.getD k 0) V0:=Jwn h
theorem Jpb{vs:List Nat}{v:Nat}{z:Row}(ha:Qo vs)(h:v∈vs): (pmR vs z).take (lv vs v+1)=(pmR vs z).take (lv vs v)++[z.getD v V0]:=by
 obtain ⟨_,o,u⟩:=Vd ha h;rw [Qy V0 (by rw [Qh];exact o),Jpd o,u]
theorem Qjk: ∀ (v:Nat) (z z':Row),z.take v=z'.take v->v<z.length->v<z'.length->cmpV (z.getD v V0) (z'.getD v V0)<0->Jw z z' []<0
 | 0,a::z,b::z',_,_,_,h=>by
  simp only [List.getD_cons_zero]at h;simp only [Jw];rw [if_neg om];exact h
 | v+1,a::z,b::z',h,h1,h2,h3=>by
  simp only [List.take_succ_cons,List.cons.injEq]at h;simp only [Jw];rw [if_pos (by rw [h.1];exact Zv b)];exact Qjk v z z' h.2 (by simpa using h1) (by simpa using h2) (by simpa using h3)
 | _,[],_,_,h,_,_=>by simp at h
 | _,_::_,[],_,_,h,_=>by simp at h
def Zr(n m:Nat)(vars:Nat->List Nat)(rs:Nat->List Row)(z:Row): Prop:=z.length=n/\∀ i,i<m->pmR (vars i) z∈rs i
theorem Qwm{q y:Row}{l:Nat}(h1:q.length=l+1)(h2:q.take l=y): q=y++[q.getD l V0]:=by
 have:=Qy V0 (l:=q) (k:=l) om;rw [List.take_of_length_le om,h2]at this;exact this
theorem Qbt{rs:List Row}{d l:Nat}(h:Srt [] rs)(hl:∀ r∈rs,r.length=d)(hld:l<=d){q:Row}(hq:q∈pfx rs l): q.length=l:=by
 obtain ⟨r,o,e⟩:=(Jjw h).1 hq;rw [<-e,List.length_take,hl r o];omega
theorem Qvm{z:Row}{v:Nat}(x:V): (z.set v x).take v=z.take v:=List.take_set_of_le (Nat.le_refl _)
theorem Qvp{z:Row}{v:Nat}(x:V)(h:v<z.length): (z.set v x).getD v V0=x:=by rw [Jqt V0 _ _ _ _ h,if_pos rfl]
theorem Jlk{z z':Row}{u v:Nat}(h:z.take v=z'.take v)(hu:u<=v): z.take u=z'.take u:=by
 have:=congrArg (List.take u) h;rwa [List.take_take,List.take_take,Nat.min_eq_left hu]at this
theorem Qwl{z z':Row}{v:Nat}(h:z.take v=z'.take v)(h1:v<z.length)(h2:v<z'.length)(h3:z.getD v V0=z'.getD v V0): z.take (v+1)=z'.take (v+1):=by
 rw [Qy V0 h1,Qy V0 h2,h,h3]
end Go.Proofs.YtebcagekopgdhaaGreatDoor
