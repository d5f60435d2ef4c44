/- Part 8. -/
import Derived.Test.YtebiphhfkdbpfaaGreatD07
import Derived.ProofKit
import Derived.OpenShut
import Derived.ShutString
import Derived.ChangeOld
import Derived.Deep.Slices
import Derived.Deep.Fields
import Derived.Test.YtebiphhfkdbpfaaGreatRows
import Derived.SizedLaws
set_option linter.unusedVariables false
set_option maxRecDepth 100000
set_option maxHeartbeats 40000000
namespace Go.Proofs.YtebiphhfkdbpfaaGreat
open Go.RowKit Pl Go.Wk Bl Nw
attribute [local irreducible] WC WL QX WD WDB WP WN WG WH
theorem zB32: Xk Tryz.prog 98=some (.agg ((List.replicate 32 false).map Value.bool).toArray):=kr
theorem Qys(n v:Nat): (List.replicate n false).getD v false=false:=by
 rw[List.getD,List.getElem?_replicate];split<;>rfl
theorem Qyx{vl va:Value}{bs:List Atm}{n:Nat}{w:World}(hl:GX 2 RaC Nn w vl (bs.map raO))(ha:IntsV w va (nz (bs.map (·.ar)))):
  Ret Tryz.prog 14 [.int .i64 (n:Int),vl,va] w λu w'=>(∃ e,u=.int .i64 e/\(e=0↔Gm (n:Int) bs))/\Ext w w':=by
 obtain⟨A,c,_,rfl,hc,bd,hR,_,he⟩:=id hl.el;obtain⟨B,bc,rfl,_,_,ah⟩:=ha;have av:(bs.map raO).length=bs.length:=List.length_map ..;have ao:(nz (bs.map (·.ar))).length=bs.length:=by rw[Jm,List.length_map]
 rw[av]at hR bd;rw[ao]at ah;refine Jz Tryz.func14 Tryz.ntmps14 rfl kr rfl ?_;rw[av,ao];refine ρ ?_;refine ci (λh=>?_) (λh=>?_)
 .have h:=oT h;refine ρ ?_;exact Jq ⟨⟨3,rfl,λe=>absurd e (by decide),λhc=>by have:=hc.2.1;omega⟩,Ext.refl _⟩
 have bm:n<=32:=by have:=oF h;omega
 clear h;refine ρ ?_;refine ci (λh=>?_) (λh=>?_)
 .have h:=oT h;refine ρ ?_;exact Jq ⟨⟨12,rfl,λe=>absurd e (by decide),λhc=>by have:=hc.2.2.1;omega⟩,Ext.refl _⟩
 have bl:bs.length<=32:=by have:=oF h;omega
 clear h;refine ρ ?_;refine alc zB32 ?_;intro w0 b7 b2 bf bj;refine ρ ?_;refine Qw (fun (i:Nat) (ss:List Bool)=>[(0,.int .i64 (n:Int)),(1,.slice A bs.length c),(2,.slice B bs.length bc),(7,.pointer (some ⟨b7,0,none⟩)),(8,.int .i64 (i:Int))])
  (λi ss w'=>Ext w w'/\i<=bs.length/\(∀ j,j<i->Za (n:Int) (bs.getD j a0))/\Blk w' b7 98 (ss.map Value.bool)/\ss.length=32/\∀ v,v<32->(ss.getD v false=true↔∃ j,j<i/\(v:Int)∈(bs.getD j a0).vars)) (λi _=>bs.length-i) 0 (List.replicate 32 false) sB
  ⟨b2,Nat.zero_le _,λj J=>absurd J (Nat.not_lt_zero _),bj,by simp,λv hv=>⟨λe=>(by rw[Qys]at e;cases e),λ⟨j,J,_⟩=>absurd J (Nat.not_lt_zero _)⟩⟩ ?_
 rintro i ss w1 ⟨ae,hi,am,hS,ai,a3⟩;refine ρ ?_;refine ci (λh=>?_) (λh=>?_)
 .have li:i<bs.length:=by have:=oT h;omega
  clear h;obtain⟨ce,_,⟨v1,v2,rfl,an⟩,be⟩:=he i om;have hA:=an.here.1;have bg:(bs.map raO)[i].vars=(bs.getD i a0).vars:=by simp[List.getD,List.getElem?_eq_getElem li,raO]
  rw[bg]at hA;have bh:(bs.map (·.ar)).getD i 0=(bs.getD i a0).ar:=by simp[List.getD,List.getElem?_eq_getElem li]
  have ap:bs.getD i a0∈bs:=getD_mem' a0 bs li;have a8:¬ Za (n:Int) (bs.getD i a0)->∀ e:Int,e≠0->(e=0↔Gm (n:Int) bs):=λh e he=>⟨λh'=>absurd h' he,λh'=>absurd (h'.2.2.2.1 _ ap) h⟩;generalize hga:bs.getD i a0=a at *
  obtain⟨D,d,rfl,hd,bp,hD⟩:=hA;have c0:∀ {w':World},Ext w w'->w'.cell? ((adr A (i*2)).add 0)=some (.slice D a.vars.length d):=λhx=>Qm hx (be 0 _ rfl);refine ρ ?_;refine Jl (fun (k:Nat)=>[(0,.int .i64 (n:Int)),(1,.slice A bs.length c),(2,.slice B bs.length bc),(7,.pointer (some ⟨b7,0,none⟩)),(8,.int .i64 (i:Int)),(9,.int .i64 (k:Int))])
   (λk w'=>Ext w w'/\Ext w1 w'/\1<=k/\(k=1∨k<=a.vars.length)/\∀ j,0<j->j<k->j<a.vars.length->a.vars.getD (j-1) 0<a.vars.getD j 0) (λk=>a.vars.length+1-k) 1 sB ⟨ae,Ext.refl _,Nat.le_refl _,.inl rfl,λj h1 h2=>om⟩ ?_
  rintro k w2 ⟨a7,ac,b9,b8,Z⟩;refine ρ ?_;refine ixq 2 i (hR.ext a7) li ?_;refine ρ ?_;refine ld (c0 a7) ?_;refine ρ ?_;refine ci (λh=>?_) (λh=>?_)
  .have lk:k<a.vars.length:=by have:=oT h;omega
   clear h;have a1:Ext w2 w2.drew:=(Ext.refl w2).drew;have y:=a7.trans a1;refine ρ ?_;refine dr [(0,0),(0,1),(0,2),(0,3),(0,4),(0,5),(0,6),(0,7),(0,8),(0,9),(0,10),(0,11),(0,12),(0,13),(0,14),(0,15),(0,16),(0,17)] kr ?_;refine ρd ?_;refine Qs 2 i (hR.ext y) li ?_;refine ρd ?_;refine dld (c0 y) ?_;refine ρd ?_;refine dix (k-1) (hD.ext y) om ?_;refine ρd ?_;refine dld ((hD.ext y).cell (Yx (by omega:k-1<a.vars.length))) ?_;refine ρd ?_;refine Qs 2 i (hR.ext y) li ?_;refine ρd ?_;refine dld (c0 y) ?_;refine ρd ?_;refine dix k (hD.ext y) lk ?_;refine ρd ?_;refine dld ((hD.ext y).cell (Yx lk)) ?_;refine ρd ?_;refine ρ ?_;refine ci (λh=>?_) (λh=>?_)
   .have h:=oT h;refine ρ ?_;exact Jq ⟨⟨16,rfl,a8 (λhk=>by have:=hk.1 k om lk;omega) 16 (by decide)⟩,y⟩
   have h:=oF h;refine ρ ?_;exact Jg (k+1) sO ⟨y,ac.trans a1,om,.inr om,λj h1 h2 h3=>by
    rcases Nat.lt_or_ge j k with h4|h4
    .exact Z j h1 h4 h3
    have:j=k:=om
    subst this;omega⟩ om
  have au:Jzj a.vars:=λj h1 h2=>Z j h1 (by have:=oF h;omega) h2;clear h Z b9 b8;refine ρ ?_;refine Jl (fun (k:Nat)=>[(0,.int .i64 (n:Int)),(1,.slice A bs.length c),(2,.slice B bs.length bc),(7,.pointer (some ⟨b7,0,none⟩)),(8,.int .i64 (i:Int)),(10,.int .i64 (k:Int))])
   (λk w'=>Ext w w'/\Ext w1 w'/\k<=a.vars.length/\∀ j,j<k->0<=a.vars.getD j 0/\a.vars.getD j 0<(n:Int)) (λk=>a.vars.length-k) 0 sB ⟨a7,ac,Nat.zero_le _,λj J=>absurd J (Nat.not_lt_zero _)⟩ ?_
  rintro q w3 ⟨F,aa,hq,a5⟩;refine ρ ?_;refine ixq 2 i (hR.ext F) li ?_;refine ρ ?_;refine ld (c0 F) ?_;refine ρ ?_;refine ci (λh=>?_) (λh=>?_)
  .have lq:q<a.vars.length:=by have:=oT h;omega
   clear h;have a6:¬ (0<=a.vars.getD q 0/\a.vars.getD q 0<(n:Int))->¬ Za (n:Int) a:=λh hk=>h (hk.2.1 _ (getD_mem' 0 _ lq));refine ρ ?_;refine ixq 2 i (hR.ext F) li ?_;refine ρ ?_;refine ld (c0 F) ?_;refine ρ ?_;refine ix q (hD.ext F) lq ?_;refine ρ ?_;refine ld ((hD.ext F).cell (Yx lq)) ?_;refine ρ ?_;refine ki 75 (λh=>?_) (λh=>?_)
   .have h:=oT h;refine ρ ?_;exact Jq ⟨⟨3,rfl,a8 (a6 om) 3 (by decide)⟩,F⟩
   have bo:=oF h;refine ρ ?_;refine ixq 2 i (hR.ext F) li ?_;refine ρ ?_;refine ld (c0 F) ?_;refine ρ ?_;refine ix q (hD.ext F) lq ?_;refine ρ ?_;refine ld ((hD.ext F).cell (Yx lq)) ?_;refine ρ ?_;refine ci (λh=>?_) (λh=>?_)
   .have h:=oT h;refine ρ ?_;exact Jq ⟨⟨3,rfl,a8 (a6 om) 3 (by decide)⟩,F⟩
   have h:=oF h;refine ρ ?_;exact Jg (q+1) sO ⟨F,aa,om,λj J=>by
    rcases Nat.lt_or_ge j q with h4|h4
    .exact a5 j h4
    have:j=q:=om
    subst this;omega⟩ om
  have aj:∀ v∈a.vars,0<=v/\v<(n:Int):=mem_getD λj J=>a5 j (by have:=oF h;omega);clear h a5;have a1:Ext w3 w3.drew:=(Ext.refl w3).drew;have G:=F.trans a1;refine ρ ?_;refine dr [(0,0),(0,1),(0,2),(0,3),(0,4),(0,5),(0,6),(0,7),(0,8),(0,9),(0,10)] kr ?_;refine ρd ?_;refine Qs 2 i (hR.ext G) li ?_;refine ρd ?_;refine dld (c0 G) ?_;refine ρd ?_;refine dix i (ah.ext G) li ?_;refine ρd ?_;refine dld (v:=.int .i64 (a.ar:Int)) (((ah.ext G).cell (Qg (by rw[List.length_map];exact li))).trans (by rw[bh])) ?_;refine ρd ?_;refine ρ ?_;refine ci (λh=>?_) (λh=>?_)
  .have b6:a.vars.length≠a.ar:=λe=>by rw[e]at h;simp at h
   refine ρ ?_;exact Jq ⟨⟨6,rfl,a8 (λhk=>b6 hk.2.2) 6 (by decide)⟩,G⟩
  have bb:a.vars.length=a.ar:=by simp at h;omega
  clear h;have bi:=hS.ext (aa.trans a1);refine ρ ?_;refine Qw (fun (k:Nat) (s2:List Bool)=>[(0,.int .i64 (n:Int)),(1,.slice A bs.length c),(2,.slice B bs.length bc),(7,.pointer (some ⟨b7,0,none⟩)),(8,.int .i64 (i:Int)),(11,.int .i64 (k:Int))])
   (λk s2 w'=>Ext w w'/\k<=a.vars.length/\Blk w' b7 98 (s2.map Value.bool)/\s2.length=32/\∀ v,v<32->(s2.getD v false=true↔(∃ j,j<i/\(v:Int)∈(bs.getD j a0).vars)∨(v:Int)∈a.vars.take k)) (λk _=>a.vars.length-k) 0 ss sB
   ⟨G,Nat.zero_le _,bi,ai,λv hv=>by rw[a3 v hv];simp⟩ ?_
  rintro r s2 w4 ⟨O,hr,a9,a4,a2⟩;refine ρ ?_;refine ixq 2 i (hR.ext O) li ?_;refine ρ ?_;refine ld (c0 O) ?_;refine ρ ?_;refine ci (λh=>?_) (λh=>?_)
  .have lr:r<a.vars.length:=by have:=oT h;omega
   clear h;have bn:=aj _ (getD_mem' 0 a.vars lr);obtain⟨v,hv⟩:∃ v:Nat,a.vars.getD r 0=(v:Int):=⟨(a.vars.getD r 0).toNat,om⟩;have U:v<32:=om
   refine ρ ?_;refine ixq 2 i (hR.ext O) li ?_;refine ρ ?_;refine ld (c0 O) ?_;refine ρ ?_;refine ix r (hD.ext O) lr ?_;refine ρ ?_;refine ld (v:=.int .i64 (v:Int)) (((hD.ext O).cell (Yx lr)).trans (by rw[hv])) ?_;refine ρ ?_;refine ixb v U ?_;refine ρ ?_;refine sto (p:=⟨b7,v,none⟩) (v:=.bool true) (a9.atc (v:=.bool (s2.getD v false)) (by simp[List.getD,a4,U])) (a9.frozen _) ?_;have aw:=a9.set v (.bool true);have aq:w.heap.size<=b7:=bf;have ay:Ext w (w4.setCell ⟨b7,v,none⟩ (.bool true)):=O.setCell aq _;have ax:(s2.map Value.bool).set v (.bool true)=(s2.set v true).map Value.bool:=by rw[List.map_set]
   rw[ax]at aw;have b4:a.vars.take (r+1)=a.vars.take r++[(v:Int)]:=by rw[Xc 0 lr,hv]
   refine ρ ?_;refine Jr (r+1) (s2.set v true) sO ⟨ay,lr,aw,by simp[a4],λu hu=>?_⟩ om;rw[Qmj _ _ _ _ om,b4];by_cases e:u=v
   .subst e;simp
   rw[if_neg e,a2 u hu];have:¬ (u:Int)=(v:Int):=om
   simp[this]
  have b5:r=a.vars.length:=by have:=oF h;omega
  subst b5;clear h;refine ρ ?_;refine Jr (i+1) s2 sO ⟨O,om,λj J=>?_,a9,a4,λv hv=>?_⟩ om
  .rcases Nat.lt_or_ge j i with h4|h4
   .exact am j h4
   have:j=i:=om
   subst this;rw[hga];exact⟨au,aj,bb⟩
  rw[a2 v hv,List.take_length];constructor
  .rintro(⟨j,J,hm⟩|hm)
   .exact⟨j,om,hm⟩
   exact⟨i,om,by rw[hga];exact hm⟩
  rintro⟨j,J,hm⟩;rcases Nat.lt_or_ge j i with h4|h4
  .exact .inl ⟨j,h4,hm⟩
  have:j=i:=om
  subst this;rw[hga]at hm;exact .inr hm
 have ba:i=bs.length:=by have:=oF h;omega
 subst ba;clear h;have af:∀ j,j<bs.length->bs.getD j a0∈bs:=λj J=>getD_mem' a0 bs J;have ak:∀ a∈bs,Za (n:Int) a:=λa ha=>by
  obtain⟨j,J,rfl⟩:=List.getElem_of_mem ha;have:=am j J;rw[List.getD,List.getElem?_eq_getElem J]at this;exact this
 refine ρ ?_;refine Jl (fun (v:Nat)=>[(0,.int .i64 (n:Int)),(7,.pointer (some ⟨b7,0,none⟩)),(12,.int .i64 (v:Int))])
  (λv w'=>w'=w1/\v<=n/\∀ u,u<v->ss.getD u false=true) (λv=>n-v) 0 sB ⟨rfl,Nat.zero_le _,λu hu=>absurd hu (Nat.not_lt_zero _)⟩ ?_
 rintro v w2 ⟨rfl,hv,ad⟩;refine ρ ?_;refine ci (λh=>?_) (λh=>?_)
 .have lv:v<n:=by have:=oT h;omega
  clear h;have U:v<32:=om
  refine ρ ?_;refine ixb v U ?_;refine ρ ?_;refine ld (hS.atc (i:=v) (v:=.bool (ss.getD v false)) (by simp[List.getD,ai,U])) ?_;refine ρ ?_;refine ci (λh=>?_) (λh=>?_)
  .have hf:¬ ss.getD v false=true:=λe=>by rw[e]at h;simp at h
   refine ρ ?_;refine Jq ⟨⟨22,rfl,λe=>absurd e (by decide),λhc=>?_⟩,ae⟩;obtain⟨a,ha,hm⟩:=hc.2.2.2.2 v om;obtain⟨j,J,rfl⟩:=List.getElem_of_mem ha;refine absurd ((a3 v om).2 ⟨j,J,?_⟩) hf;rw[List.getD,List.getElem?_eq_getElem J];exact hm
  have ht:ss.getD v false=true:=by revert h;cases ss.getD v false<;>simp
  refine ρ ?_;exact Jg (v+1) sO ⟨rfl,lv,λu hu=>by
   rcases Nat.lt_or_ge u v with h4|h4
   .exact ad u h4
   have:u=v:=om
   subst this;exact ht⟩ om
 have b3:v=n:=by have:=oF h;omega
 subst b3;refine ρ ?_;refine Jq ⟨⟨0,rfl,λ_=>⟨om,om,bl,ak,λu hu=>?_⟩,λ_=>rfl⟩,ae⟩;obtain⟨j,J,hm⟩:=(a3 u om).1 (ad u om);exact⟨_,af j J,hm⟩
end Go.Proofs.YtebiphhfkdbpfaaGreat
namespace Go.Wk
variable {d n ty v:Nat}
theorem sl32b{P:Program}{al:AL}{w:World}{Q:Exit->Act->World->Prop}{ops:Array Oper}{rest:List Oper}{pos:String}{aft:Array Edge}{y:Operand}{t yt:TypeId}{k2:IntKind}(hv:v<32)(kk:WL P n ops Q rest ((d,.int .u32 ((2^v:Nat):Int))::al) w)(hy:ev al y=some (.int k2 (v:Int)):=by rfl)(hd:Nat.blt d n=true:=by rfl):
  WL P n ops Q (⟨some d,.binOp .shl t (.const (.int .u32 1)) y yt,ty,pos,aft,none⟩::rest) al w:=by
 rw[<-Jyt hv]at kk;exact wop hd (λa u=>Jkd (x:=.const (.int .u32 1)) rfl hy om u (some d) w) kk
end Go.Wk
namespace Go.Proofs.YtebiphhfkdbpfaaGreat
open Go.RowKit Pl Go.Wk Bl Nw
attribute [local irreducible] WC WL QX WD WDB WP WN WG WH
variable {l:List PA}{n s:Nat}
def atP(p:PA): Atm:=⟨nz p.vs,p.vs.length,p.rs⟩
structure CtxP(n:Nat)(l:List PA): Prop where
 asc:∀ p∈l,Qd p.vs
 lt:∀ p∈l,∀ v∈p.vs,v<n
 len:∀ p∈l,∀ r∈p.rs,r.length=p.vs.length
 d4:∀ p∈l,∀ r∈p.rs,∀ x∈r,D4 x
 cnt:∀ p∈l,p.rs.length<=12
 srt:∀ p∈l,Lt [] p.rs
 cov:∀ v,v<n->∃ p∈l,v∈p.vs
 few:l.length<=32
theorem CtxP.sm(h:CtxP n l)(hn:n<=8): SmL l :=
 ⟨λa u v y=>nM (h.lt a u v y) hn,h.len,h.d4,λa u=>nL (h.cnt a u) (by decide)⟩
theorem Jgc{n:Nat}: ∀ {l:List LA} {ms:List (List Row)},ms.length=l.length->(∀ a∈l,a.fits)->(∀ i (h1:i<l.length) (h2:i<ms.length),Rl l[i] ms[i])->n<=32->(∀ a∈l.zipWith atm ms,Za (n:Int) a) ->
  ∃ pas:List PA,l.zipWith atm ms=pas.map atP/\l.zipWith rat' ms=pas.map raP/\pas.length=l.length/\(l.map λa=>(lvs a).length)=pas.map (λp=>p.vs.length) /\
   ∀ p∈pas,Qd p.vs/\(∀ v∈p.vs,v<n)/\(∀ r∈p.rs,r.length=p.vs.length)/\(∀ r∈p.rs,∀ x∈r,D4 x)/\p.rs.length<=12/\Lt [] p.rs
 | [],[],_,_,_,_,_=>⟨[],rfl,rfl,rfl,rfl,λp hp=>by cases hp⟩
 | a::l,m::ms,hl,hf,hR,hn,hok=>by
  obtain⟨pas,h1,h2,h3,h4,h5⟩:=Jgc (n:=n) (l:=l) (ms:=ms) (by simpa using hl) (λb hb=>hf b (List.mem_cons_of_mem _ hb)) (λi g1 g2=>hR (i+1) (by simp;omega) (by simp;omega)) hn (λb hb=>hok b (by rw[List.zipWith_cons_cons];exact List.mem_cons_of_mem _ hb));have hk:=hok (atm a m) (by rw[List.zipWith_cons_cons];exact mC);have hk32:Za 32 (atm a m):=⟨hk.1,λv hv=>⟨(hk.2.1 v hv).1,by have:=(hk.2.1 v hv).2;omega⟩,hk.2.2⟩;have ok:=okA hk32;have hmr:MadeR a m:=Qyn (hR 0 (by simp) (by simp)) (hf a mC);refine⟨⟨vsO a,m⟩::pas,?_,?_,by simp[h3],?_,λp hp=>?_⟩
  .rw[List.zipWith_cons_cons,List.map_cons,h1,ok.atm];rfl
  .rw[List.zipWith_cons_cons,List.map_cons,h2];show(⟨Qz a,m⟩:RA)::_=_;rw[ok.nz];rfl
  .rw[List.map_cons,List.map_cons,h4,ok.len]
  rcases List.mem_cons.1 hp with rfl|hp
  .refine⟨ok.asc,λv hv=>?_,λr hr=>by rw[hmr.len r hr,ok.len],hmr.d4,hmr.cnt,hmr.lt⟩;have:=(hk.2.1 (v:Int) (by rw[show(atm a m).vars=Qz a from rfl,ok.nz];exact List.mem_map.2 ⟨v,hv,rfl⟩)).2;omega
  exact h5 p hp
theorem Qpc{l:List LA}{ms:List (List Row)}(hl:ms.length=l.length)(hf:∀ a∈l,a.fits)(hR:∀ i (h1:i<l.length) (h2:i<ms.length),Rl l[i] ms[i])(hc:Gm (n:Int) (l.zipWith atm ms)):
  ∃ pas:List PA,l.zipWith atm ms=pas.map atP/\l.zipWith rat' ms=pas.map raP/\pas.length=l.length/\CtxP n pas:=by
 obtain⟨pas,h1,h2,O,_,D⟩:=Jgc hl hf hR (by have:=hc.2.1;omega) hc.2.2.2.1;refine⟨pas,h1,h2,O,λp y=>(D p y).1,λp y=>(D p y).2.1,λp y=>(D p y).2.2.1,λp y=>(D p y).2.2.2.1,λp y=>(D p y).2.2.2.2.1,λp y=>(D p y).2.2.2.2.2,λv U=>?_,?_⟩
 .obtain⟨a,F,J⟩:=hc.2.2.2.2 v om;rw[h1]at F;obtain⟨p,y,rfl⟩:=List.mem_map.1 F;obtain⟨u,G,e⟩:=List.mem_map.1 J;have:u=v:=by
   have e:(u:Int)=(v:Int):=e;omega
  subst this;exact⟨p,y,G⟩
 have:=hc.2.2.1;rw[h1,List.length_map]at this;exact this
def p0: PA:=⟨[],[]⟩
theorem Qdq(l:List PA): paR l.length (λi=>(l.getD i p0).vs) (λi=>(l.getD i p0).rs)=l:=by
 unfold paR;refine List.ext_getElem (by simp) λi y u=>?_;simp[List.getD,List.getElem?_eq_getElem u]
theorem MatS.d4{l:List PA}{n s:Nat}{M:List Row}(h:CtxP n l)(hs:s<2^n)(hM:MatS l s M): ∀ r∈M,r.length=(bk s 32).length/\∀ y∈r,D4 y:=by
 intro r hr;obtain⟨x,rfl,hx⟩:=(hM.2 r).1 hr;refine⟨by simp,λy Z=>?_⟩;obtain⟨u,hu,rfl⟩:=List.mem_map.1 Z;have O:=(bk_mem.1 hu).2;obtain⟨p,F,hv⟩:=h.cov u (Yw hs O);obtain⟨j,G,e⟩:=List.getElem_of_mem hv;have U:p.vs.getD j 0=u:=by rw[List.getD,List.getElem?_eq_getElem G];exact e
 obtain⟨q,J,hg⟩:=hx p F;have:=hg j G (by rw[U];exact O);rw[U]at this;have D:j<q.length:=by rw[h.len p F q J];exact G
 rw[<-this,List.getD,List.getElem?_eq_getElem D];exact h.d4 p F q J _ (List.getElem_mem D)
theorem bk_n(hs:s<2^n)(hn:n<=32): (bk s 32).length<=n:=by
 have:=Jjf ((Yv s 32).imp λh=>om) (m:=List.range n) λu y=>List.mem_range.2 (Yw hs (bk_mem.1 y).2);rw[List.length_range]at this;exact this
theorem MatS.cnt{M:List Row}(h:CtxP n l)(hs:s<2^n)(hn:n<=8)(hM:MatS l s M): M.length<=65536 :=
 nL (Jwg hM.1 (hM.d4 h hs)) (Jqw (nL (bk_n hs om) hn))
theorem Qgr{vo:Value}{w:World}(hC:CtxP n l)(hn:n<=8)(hG:GX 3 AtC Nn w vo (l.map atP))(hs:s<2^n):
  Ret Tryz.prog 15 [.int .i64 (n:Int),.int .u32 (s:Int),vo] w λu w'=>Ext w w'/\∃(t':V3) (st:Int) (M:List Row),u=.tuple #[.agg t'.cells.toArray,.int .i64 st,.int .i64 0]/\Off (Ol w) w' (λx=>AtV x t' (atP ⟨bk s 32,M⟩))/\MatS l s M:=by
 obtain⟨J,A,c,G,rfl,hc,_,hR,aa⟩:=Jft (hG.1.imp (Ψ:=AtG) (f:=λa=>a) λcs a _ ⟨t,e,h⟩=>⟨t,e,h.here⟩);rw[List.map_id']at G;have F:J.length=l.length:=by
  have:=congrArg List.length G;rw[List.length_map,List.length_map]at this;exact this.symm
 have D:∀ i,i<J.length->l.getD i p0∈l:=λi hi=>getD_mem' p0 l om;have a4:∀ i,i<J.length->(J.getD i ta0).2=⟨nz (l.getD i p0).vs,(l.getD i p0).vs.length,(l.getD i p0).rs⟩:=λi hi=>by
  rw[<-Jqr,<-G];have a9:i<l.length:=om
  simp[List.getD,List.getElem?_eq_getElem a9,atP]
 have a7:MOk n J (λi=>(l.getD i p0).vs) (λi=>(l.getD i p0).rs) s:=by
  refine⟨⟨om,by rw[F];exact hC.few,a4,λi hi=>hC.asc _ (D i hi),λi hi=>hC.lt _ (D i hi),λv U=>?_,λi hi=>hC.srt _ (D i hi),λi hi=>hC.len _ (D i hi),λi hi=>nL (hC.cnt _ (D i hi)) (by decide)⟩,hs,λi hi r hr=>List.all_eq_true.2 λx O=>(hC.d4 _ (D i hi) r hr x O).valid,λi hi=>.inl (nL (hC.cnt _ (D i hi)) (by decide))⟩;obtain⟨p,hp,U⟩:=hC.cov v U;obtain⟨j,hj,rfl⟩:=List.getElem_of_mem hp;exact⟨j,om,by rw[List.getD,List.getElem?_eq_getElem hj];exact U⟩
 have a6:paR J.length (λi=>(l.getD i p0).vs) (λi=>(l.getD i p0).rs)=l:=by rw[F];exact Qdq l
 refine(Jpp a7 hR hc aa λL hL O=>?_).mono λu w' ⟨O,t',st,M,e,a1,a8,hm,_⟩=>⟨O,t',st,M,e,a1,by
  have:=Qgp hs a8 hm;rw[a6]at this;exact this⟩
 refine nL (Jwg hL λz hz=>?_) (Jqw (nL (bk_n hs om) hn));obtain⟨y,hy,rfl,hb⟩:=O z hz;refine⟨by simp[pmR],λv U=>?_⟩;obtain⟨u,hu,rfl⟩:=List.mem_map.1 U;have a3:=(bk_mem.1 hu).2;obtain⟨p,hp,a5⟩:=hC.cov u (Yw hs a3);obtain⟨i,hi,rfl⟩:=List.getElem_of_mem hp;have ac:l.getD i p0=l[i]:=by rw[List.getD,List.getElem?_eq_getElem hi];rfl
 obtain⟨j,hj,e⟩:=List.getElem_of_mem a5;have e2:(l[i]).vs.getD j 0=u:=by rw[List.getD,List.getElem?_eq_getElem hj];exact e
 obtain⟨q,Z,hg⟩:=hb i om;have Z:q∈(l.getD i p0).rs:=Z;have hg:∀ j,j<(l.getD i p0).vs.length->s.testBit ((l.getD i p0).vs.getD j 0)=true->q.getD j V0=y.getD ((l.getD i p0).vs.getD j 0) V0:=hg;rw[ac]at Z hg;have:=hg j hj (by rw[e2];exact a3);rw[e2]at this;have a2:j<q.length:=by rw[hC.len _ (List.getElem_mem hi) q Z];exact hj
 rw[<-this,List.getD,List.getElem?_eq_getElem a2];exact hC.d4 _ (List.getElem_mem hi) q Z _ (List.getElem_mem a2)
theorem Qvd(hs:s<4294967296)(hn:n<=31): bits .and .u32 (s:Int) (IntKind.u32.wrap (((2^n:Nat):Int)-1))=((s % 2^n:Nat):Int):=by
 have u:0<2^n:=Nat.two_pow_pos n;have y:2^n<=2147483648:=Nat.pow_le_pow_right (by decide:0<2) hn;rw[show((2^n:Nat):Int)-1=((2^n-1:Nat):Int) by omega,u32w om,u32_and_nat s (2^n-1) hs om,Nat.and_two_pow_sub_one_eq_mod]
end Go.Proofs.YtebiphhfkdbpfaaGreat
namespace Go.Wk
open Go.RowKit
variable {c c' e m m' t:Nat}{x y:Operand}{A A':Option Addr}
section
variable {P:Program} {n:Nat} {al:AL} {w:World} {Q:Exit->Act->World->Prop} {ops:Array Oper} {rest:List Oper} {d ty:Nat} {pos:String} {aft:Array Edge} {tt:TT}
theorem sl00[hT:Tab P tt]{k:TK}(kk:WL P n ops Q rest ((d,.slice A 0 0)::al) w)(ht:tk tt t=some k:=by rfl)(hk:k.desc=.slice e:=by rfl)(hx:ev al x=some (.slice A m c):=by rfl)(hd:Nat.blt d n=true:=by rfl):
  WL P n ops Q (⟨some d,.slice t x none (some (.const (.int .i64 0))) (some (.const (.int .i64 0))),ty,pos,aft,none⟩::rest) al w :=
 Jqg hT.ok 0 0 0 A 0 0 ht hk rfl hx rfl ⟨.i64,0,rfl,rfl⟩ ⟨.i64,0,rfl,rfl⟩ (.inr (by simp)) (nR _) (nR _) (Nat.zero_le _) (Jzb A _ _) rfl rfl hd kk
theorem ap00{sz bytes:Nat}{z:Value}(hE:ElT P t e sz bytes z){news:List Value}(hr:Rd w sz A' m' news)(h1:∀ u∈news,u.oneCell'=true)(h0:0<m')(h63:m'<=maxLen)(hby:m'*bytes<=140737488355328)(kk:∀ v' w',Ext w w'->w'.ownsRow w.heap.size e sz v' m' news->WL P n ops Q rest ((d,v')::al) w')(hx:ev al x=some (.slice A 0 0):=by rfl)(hy:ev al y=some (.slice A' m' c'):=by rfl)(hd:Nat.blt d n=true:=by rfl):
  WL P n ops Q (⟨some d,.call { callee:=.builtin .append,args:=#[x,y],argTypes:=#[t,t] },ty,pos,aft,none⟩::rest) al w:=by
 obtain⟨v',w',D,_,G,_,O,_⟩:=Jbh hE w.heap.size ty (v:=.slice A 0 0) (m:=0) (xs:=[]) (.inr ⟨A,rfl,Rd.nil⟩) (c':=c') hr h1 om (by rw[Nat.zero_add];exact hby) (nR _);have G:=G h0;rw[Nat.zero_add,List.nil_append]at G;have J:Ext w w':=O.elim (λ⟨U,Z⟩=>Jf (Ext.refl w) Z λk e=>by
  obtain⟨_,_,_,_,hf⟩:=Jv U;exact(hf k e).1) id
 exact wop hd (λa F=>by simp[execOp,resolve,invoke,builtin,F.ev hx,F.ev hy,D]) (kk v' w' J G)
end
end Go.Wk
namespace Go.Proofs.YtebiphhfkdbpfaaGreat
open Go.RowKit Pl Go.Wk Bl Nw
attribute [local irreducible] WC WL QX WD WDB WP WN WG WH
variable {vs:List Nat}{A B rs:List Row}{base n s0:Nat}{v v1 v2 vl vr:Value}{w:World}
theorem fldR(A B:Option Addr)(m c m' c':Nat)(w:World): (Instr.field 46 (.agg #[.slice A m c,.slice B m' c']) 1).run Tryz.prog w=.ok (.slice B m' c') w:=kr
def AgV(vs:List Int)(rs:List Row)(v:Value)(w:World): Prop:=∃ A n c B m d,v=.agg #[.slice A n c,.slice B m d]/\IntsV w (.slice A n c) vs/\RowsV w (.slice B m d) rs
theorem AgV.ext{vs:List Int}{rs:List Row}{v:Value}{w w':World}(h:AgV vs rs v w)(hx:Ext w w'): AgV vs rs v w':=by
 obtain⟨A,n,c,B,m,d,e,y,u⟩:=h;exact⟨A,n,c,B,m,d,e,y.ext hx,u.ext hx⟩
theorem agV{vs:List Int}(h1:IntsV w v1 vs)(h2:RowsV w v2 rs): AgV vs rs (.agg #[v1,v2]) w:=by
 obtain⟨A,c,rfl,_⟩:=id h1;obtain⟨ps,B,d,_,rfl,_⟩:=id h2;exact⟨_,_,_,_,_,_,rfl,h1,h2⟩
def SF.ag(vs:List Int)(rs:List Row): SF:=⟨AgV vs rs,λh hx=>h.ext hx⟩
def SF.rws(rs:List Row): SF:=⟨λv w=>RowsV w v rs,λh hx=>h.ext hx⟩
def SF.s00: SF:=⟨λv _=>∃ A,v=.slice A 0 0,λh _=>h⟩
def SF.b1(vr:Value): SF:=⟨λv w=>∃ b,v=.slice (some ⟨b,0,none⟩) 1 1/\Blk w b 54 [vr],λ⟨b,e,h⟩ hx=>⟨b,e,h.ext hx⟩⟩
def SF.ab(vs:List Int)(rs:List Row): SF:=⟨λv w=>∃ b A n c B m d,v=.slice (some ⟨b,0,none⟩) 1 1/\Blk w b 46 [.slice A n c,.slice B m d]/\IntsV w (.slice A n c) vs/\RowsV w (.slice B m d) rs,λ⟨b,A,n,c,B,m,d,e,h,h1,h2⟩ hx=>⟨b,A,n,c,B,m,d,e,h.ext hx,h1.ext hx,h2.ext hx⟩⟩
theorem Qvz{r:Row}(h:w.ownsRow base 54 1 v 1 [vr])(hr:RowV w vr r): RowsV w v [r]:=by
 obtain⟨A,c,rfl,y,_⟩:=Jv h;exact⟨[(vr,r)],A,c,rfl,rfl,y,by show 1<=1100000;decide,Rd.own h,λp u=>by rw[List.mem_singleton.1 u];exact hr⟩
theorem gxOne{b A n c B m d}{a:PA}(hB:Blk w b 46 [.slice A n c,.slice B m d])(h1:IntsV w (.slice A n c) (nz a.vs))(h2:RowsV w (.slice B m d) a.rs): GX 2 RaC Nn w (.slice (some ⟨b,0,none⟩) 1 1) ([a].map raP) :=
 Jjq (ps:=[([.slice A n c,.slice B m d],raP a)]) (hB.rd (n:=1) rfl) (nR 1) (by show 1<=1100000;decide) λp y=>by
  rw[List.mem_singleton.1 y];exact⟨rfl,_,_,rfl,λx u=>⟨h1.ext (Jjs u),h2.ext (Jjs u)⟩⟩
theorem Jgd: ∀ {l:List LA} {ms:List (List Row)},ms.length=l.length->(l.map λa=>(lvs a).length)=(l.zipWith atm ms).map (·.ar)
 | [],[],_=>rfl
 | a::l,m::ms,h=>by
  rw[List.zipWith_cons_cons,List.map_cons,List.map_cons,Jgd (by simpa using h)];rfl
theorem Jvw: ∀ {l:List LA} {ms:List (List Row)},l.zipWith rat' ms=(l.zipWith atm ms).map raO
 | [],_=>rfl
 | _::_,[]=>rfl
 | a::l,m::ms=>by
  rw[List.zipWith_cons_cons,List.zipWith_cons_cons,List.map_cons,Jvw];rfl
theorem smL2(hn:n<=8)(h1:∀ v∈vs,v<n)(hA:∀ r∈A,r.length=vs.length/\∀ y∈r,D4 y)(hB:∀ r∈B,r.length=vs.length/\∀ y∈r,D4 y)(cA:A.length<=1000000)(cB:B.length<=1000000): SmL [⟨vs,A⟩,⟨vs,B⟩]:=by
 have u:∀ {P:PA->Prop},P ⟨vs,A⟩->P ⟨vs,B⟩->∀ a∈[(⟨vs,A⟩:PA),⟨vs,B⟩],P a:=λh1 J a G=>by
  simp only[List.mem_cons,List.not_mem_nil,or_false]at G;rcases G with rfl|rfl<;>assumption
 exact⟨u (λv F=>nM (h1 v F) hn) λv F=>nM (h1 v F) hn,u (λr D=>(hA r D).1) λr D=>(hB r D).1,u (λr D=>(hA r D).2) λr D=>(hB r D).2,u cA cB⟩
theorem smL1(hn:n<=8)(h1:∀ v∈vs,v<n)(hA:∀ r∈A,r.length=vs.length/\∀ y∈r,D4 y)(cA:A.length<=1000000): SmL [⟨vs,A⟩]:=by
 have one:∀ {P:PA->Prop},P ⟨vs,A⟩->∀ a∈[(⟨vs,A⟩:PA)],P a:=λh1 a F=>by rw[List.mem_singleton.1 F];exact h1
 exact⟨one λv D=>nM (h1 v D) hn,one λr u=>(hA r u).1,one λr u=>(hA r u).2,one cA⟩
theorem Qtb{l:List LA}(hl:GX 3 LaC Nn w vl l)(hll:l.length<=1048576)(hn256:n<256)(hs0:s0<4294967296):
  Ret Tryz.prog 4 [.int .u8 (n:Int),vl,.int .u32 (s0:Int)] w λu w'=>u=.bool true/\Ext w w':=by
 refine Jz Tryz.func4 Tryz.ntmps4 rfl kr rfl ?_;refine ρ ?_;refine cl (Jpq hl hll) ?_;rintro u w1 ⟨an,h3⟩;rcases h3 with⟨hf,vo,vm,va,ms,rfl,cp,ej,hO,hM,hI⟩|⟨hno,rfl⟩
 case inr=>
  refine ρ ?_;refine cl (Jfs _) ?_;rintro x w4 ⟨rfl,a3⟩;refine ρ ?_;exact Jq ⟨rfl,an.trans a3⟩
 have aw:∀ {w2:World},Ext w w2->Ret Tryz.prog 8 [] w2 λu w'=>u=.bool true/\Ext w w':=λh=>(Jfs _).mono λu w' ⟨e,hx⟩=>⟨e,h.trans hx⟩;refine ρ ?_;by_cases h6:l.length<=6
 case neg=>
  refine kt 29 ?_ ?_
  .rw[decide_eq_false h6];rfl
  refine ρ ?_;refine cl (aw an) ?_;rintro x w4 ⟨rfl,a3⟩;refine ρ ?_;exact Jq ⟨rfl,a3⟩
 refine kf 29 ?_ ?_
 .rw[decide_eq_true h6];rfl
 refine ρ ?_;by_cases h5:n<=5
 case neg=>
  refine kt 33 ?_ ?_
  .exact decide_eq_true om
  refine ρ ?_;refine cl (aw an) ?_;rintro x w4 ⟨rfl,a3⟩;refine ρ ?_;exact Jq ⟨rfl,a3⟩
 refine kf 33 ?_ ?_
 .exact dF om
 rw[Jvw]at hM;rw[Jgd cp]at hI;have dq:IntKind.i64.wrap (n:Int)=(n:Int):=Zu om;refine ρ ?_;refine kv 35 (congrArg (Value.int .i64) dq) ?_;refine cl (Qyx (n:=n) hM hI) ?_;rintro u w2 ⟨⟨e,rfl,he⟩,bi⟩;have b7:=an.trans bi;by_cases h0:e=0
 case neg=>
  refine ρ ?_;refine ct ?_ ?_
  .simpa using h0
  refine ρ ?_;refine cl (aw b7) ?_;rintro x w4 ⟨rfl,a3⟩;refine ρ ?_;exact Jq ⟨rfl,a3⟩
 have cv:=he.1 h0;subst h0;clear he;obtain⟨U,eA,eR,fj,hC⟩:=Qpc cp hf ej cv;rw[eA]at hO;rw[<-Jvw,eR]at hM;have ae:n<=8:=om
 have cm:=hC.sm ae;have hS:s0 % 2^n<2^n:=Nat.mod_lt _ (Nat.two_pow_pos n);have au:s0 % 2^n<4294967296:=nN (Nat.mod_le _ _) hs0;have b9:=Qvd hs0 (by omega:n<=31);generalize s0 % 2^n=S at *
 refine ρ ?_;refine sl32b (v:=n) om ?_;refine ρ ?_;refine kv 2 (congrArg (Value.int .u32) b9) ?_;refine kv 50 (congrArg (Value.int .u32) b9) ?_;refine kv 49 (congrArg (Value.int .i64) dq) ?_;refine cl (Qgr hC ae (hO.ext AtC.sta (by decide) bi) hS) ?_;rintro u w3 ⟨ca,t',st,M,rfl,eg,ax⟩;have f3:=b7.trans ca;have cd:=bi.trans ca;have hG:=eg.here;have av:=ax.d4 hC hS;have ft:=ax.cnt hC hS ae;have fr:=bk_n hS (by omega:n<=32);obtain⟨t1,t2,t3⟩:=t';obtain⟨⟨E,ec,eE,_⟩,e2,a8,F,fc,fw,eF,_,f4,_⟩:=id hG;simp only at eE e2 eF;subst eE;subst e2;subst eF;refine ρ ?_;refine alc Vy ?_;intro w4 dt a3 eh ex;refine ρ ?_;refine stb (cs':=[.slice E (atP ⟨bk S 32,M⟩).vars.length ec,.int .i64 ((atP ⟨bk S 32,M⟩).ar:Int),.slice F a8.length fc]) ex ?_ (Jxg rfl);intro w5 ew fq e9;have b5:Ext w3 w5:=e9 w3 a3 eh;have et:=hG.ext b5;have b6:=cd.trans b5;refine ρ ?_;refine cl (Jbt cm (hM.ext RaC.sta (by decide) b6) om) ?_
 rintro u w6 ⟨j1,j2,vs,J,rfl,ef,hJ,ep,fu,e8⟩;have da:=ef.here;have ea:∀ v∈vs,v<n:=λv hv=>by
  obtain⟨p,hp,bm⟩:=(hJ.2.1 v).1 hv;exact hC.lt p hp v bm
 have d0:∀ v,S.testBit v=true->v∈vs:=λv hv=>by
  obtain⟨p,hp,bm⟩:=hC.cov v (Yw hS hv);exact(hJ.2.1 v).2 ⟨p,hp,bm⟩
 have ao:∀ v∈vs,v<32:=λv hv=>by have:=ea v hv;omega
 have eo:∀ r∈J,r.length=vs.length:=λr hr=>by
  obtain⟨x,rfl,_⟩:=(hJ.2.2.2 r).1 hr;simp
 refine ρ ?_;refine cl (Qyw da.1 da.2 au hJ.1 ao eo (λr hr x hx=>(ep r hr x hx).noS) om) ?_;rintro u w7 ⟨q1,q2,g1,rfl,ed,ek,e7⟩;have hQ:=ed.here;have fx:inS vs S=bk S 32:=Jwp hJ.1 ao d0;have ck:=Qpj cm.len hJ ao d0 ek ax;obtain⟨Q1,fe,ez,_⟩:=id hQ.1;obtain⟨a2,f2,pc,ey,f0,fk,fi,d7,bq⟩:=id hQ.2;subst ez;subst f0;subst ey;refine ρ ?_;refine fld (λw=>fldR _ _ _ _ _ _ w) ?_;refine ρ ?_;have c9:=e8.trans e7;refine Jl (fun (i:Nat)=>[(0,.int .u8 (n:Int)),(2,.int .u32 (S:Int)),(7,vo),(8,vm),(11,.pointer (some ⟨dt,0,none⟩)),(62,.slice f2 a2.length pc),(63,.int .i64 (a2.length:Int)),(64,.int .i64 (i:Int))])
  (λi w'=>i<=a2.length/\Ext w7 w') (λi=>a2.length-i) 0 sB ⟨Nat.zero_le _,Ext.refl _⟩ ?_
 rintro i w8 ⟨hi,aj⟩;have ak:=c9.trans aj;have de:=ew.ext ak;have dd:=et.ext ak;refine ρ ?_;refine ci (λh=>?_) (λh=>?_)
 .have li:i<a2.length:=by have:=oT h;omega
  clear h;have m1:=getD_mem' z0 a2 li;have c8:(a2.getD i z0).2∈a2.map (·.2):=List.mem_map.2 ⟨_,m1,rfl⟩
  have ap:=(bq _ m1).ext aj;have cn:=ck _ c8;have bp:=av _ cn;obtain⟨R,rc,eR,fh,fg,hR⟩:=id ap;generalize hre:(a2.getD i z0).2=r at *
  rw[eR]at ap;refine ρ ?_;refine ix i (d7.ext aj) li ?_;refine ρ ?_;refine ld (v:=.slice R r.length rc) (((d7.ext aj).cell (Yo li)).trans (by rw[eR])) ?_;refine ρ ?_;have a5:Ext w8 w8.drew:=(Ext.refl w8).drew;have c4:=de.ext a5;have c3:=dd.ext a5;have bo:=ap.ext a5;refine drH (λ_=>false) ?_;refine Uz (fuel':=11) 20 [(0,0),(0,2),(0,3),(0,4),(0,8)] #[true,false,true,true,true,false,false,false,true,false,false,false,false,false,false,false] kr kr rfl ?_;refine ρd ?_;refine Qk (cs:=[.slice E (atP ⟨bk S 32,M⟩).vars.length ec,.int .i64 ((atP ⟨bk S 32,M⟩).ar:Int),.slice F a8.length fc]) (λj u hu=>c4.at hu) ?_;refine ρd ?_;refine dld (c4.at (i:=0) rfl) ?_;refine ρd ?_;refine Qk (cs:=[.slice E (atP ⟨bk S 32,M⟩).vars.length ec,.int .i64 ((atP ⟨bk S 32,M⟩).ar:Int),.slice F a8.length fc]) (λj u hu=>c4.at hu) ?_;refine ρd ?_;refine Uk ?_;refine hmkS 20 2 _ #[true,true,true,true,true,true,true,true,true,true,true,true,true,true,false,false] [1,5,6,7,9,10,11,12,13] [69,73,74,75,77,78,79,80,81] [SF.ag (nz (bk S 32)) M,SF.ag (nz (bk S 32)) M,SF.rws M,SF.s00,SF.b1 (.slice R r.length rc),SF.rws [r],SF.ag (nz (bk S 32)) [r],SF.ab (nz (bk S 32)) [r],SF.ag (nz (bk S 32)) [r]] kr (by rfl) ?_ ?_
  .have db:∀ {x:World},Ext w8.drew x->AtV x (.slice E (atP ⟨bk S 32,M⟩).vars.length ec,.int .i64 ((atP ⟨bk S 32,M⟩).ar:Int),.slice F a8.length fc) (atP ⟨bk S 32,M⟩):=λh=>c3.ext h;have co:∀ {x:World},Ext w8.drew x->Ret Tryz.prog 18 [.agg #[.slice E (atP ⟨bk S 32,M⟩).vars.length ec,.int .i64 ((atP ⟨bk S 32,M⟩).ar:Int),.slice F a8.length fc]] x λu w'=>AgV (nz (bk S 32)) M u w'/\Ext x w':=λh=>(Jcn (db h) (λr hr=>by have:=(av r hr).1;omega) (by show M.length<=1100000;omega)).mono λu w' ⟨y1,y2,e,h1,h2,h3⟩=>⟨by rw[e];exact agV h1 h2,h3⟩;refine gsc (λZ v1 O hd=>?_) ?_
   .simp only[slM];refine cl (co O) ?_;rintro u v2 ⟨bv,G⟩;refine ρ ?_;exact Xw G bv
   refine gsc (λZ v1 O hd=>?_) ?_
   .simp only[slM];refine cl (co O) ?_;rintro u v2 ⟨bv,G⟩;refine ρ ?_;exact Xw G bv
   refine gsc (λZ v1 O hd=>?_) ?_
   .obtain⟨A,n',c,B,m,d,e,h1,h2⟩:=hd 1;simp only[slM,e];refine fld (λw=>fldR _ _ _ _ _ _ w) ?_;refine ρ ?_;exact Xw (Ext.refl _) h2
   refine gsc (λZ v1 O hd=>?_) ?_
   .have h2:RowsV v1 (Z 2) M:=hd 2;obtain⟨_,A,c,_,e,_⟩:=h2;simp only[slM,e];refine sl00 ?_;refine ρ ?_;exact Xw (Ext.refl _) ⟨A,rfl⟩
   refine gsc (λZ v1 O hd=>?_) ?_
   .simp only[slM];refine bsl (Qjw _ _ _) ?_;intro v2 b2 G aq bs;refine ρ ?_;exact Xw G ⟨b2,rfl,bs⟩
   refine gsc (λZ v1 O hd=>?_) ?_
   .obtain⟨A,e0⟩:=hd 3;obtain⟨b,e1,hk⟩:=hd 4;simp only[slM,e0,e1];refine ap00 Jqd (hk.rd (n:=1) rfl) (λu hu=>by rw[List.mem_singleton.1 hu];rfl) (by decide) (by decide) (by decide) ?_;intro v' v2 G ho;refine ρ ?_;exact Xw G (Qvz ho (bo.ext (O.trans G)))
   refine gsc (λZ v1 O hd=>?_) ?_
   .have h5:RowsV v1 (Z 5) [r]:=hd 5;obtain⟨ff,A,c,_,e,_⟩:=id h5;rw[e]at h5;simp only[slM,e];refine bld (Jzf _ _ _ _ _ _ _) ?_;refine ρ ?_;exact Xw (Ext.refl _) (agV (db O).1 h5)
   refine gsc (λZ v1 O hd=>?_) ?_
   .obtain⟨A,n',c,B,m,d,e,h1,h2⟩:=hd 6;simp only[slM,e];refine bsl (Jvl _ _ _ _ _ _) ?_;intro v2 b2 G aq bs;refine ρ ?_;exact Xw G ⟨b2,A,n',c,B,m,d,rfl,bs,h1.ext G,h2.ext G⟩
   refine gsc (λZ v1 O hd=>?_) gse
   obtain⟨b,A,n',c,B,m,d,e,hk,h1,h2⟩:=hd 7;simp only[slM,e];refine cl (Jbt (smL1 (vs:=bk S 32) (A:=[r]) ae (λv hv=>Yw hS (bk_mem.1 hv).2) (λy hy=>by rw[List.mem_singleton.1 hy];exact bp) (by simp)) (gxOne (a:=⟨bk S 32,[r]⟩) hk h1 h2) (by simp)) ?_;rintro u v2 ⟨y1,y2,fd,dz,rfl,e5,e6,_,_,G⟩;obtain⟨ev,er⟩:=Qlb (a:=⟨bk S 32,[r]⟩) (Yv S 32) (λy hy=>by rw[List.mem_singleton.1 hy];exact bp.1) (List.pairwise_singleton _ _) e6;have bg:=e5.here;rw[ev,er]at bg;refine ρ ?_;exact Xw G (agV bg.1 bg.2)
  intro Z v1 O hd;obtain⟨A1,n1,c1,B1,e4,d1,e1,bz,bw⟩:=hd 0;obtain⟨A2,n2,c2,B2,e3,d2,e2,bt,aq⟩:=hd 8;simp only[slM,e1,e2];refine Uz (fuel':=0) 20 [(1,14),(0,15)] #[true,true,true,true,true,true,true,true,true,true,true,true,true,true,true,true] kr kr rfl ?_;refine dcl (Jrz (a:=⟨bk S 32,M⟩) (b:=⟨bk S 32,[r]⟩) bz bw bt aq (smL2 ae (λv hv=>Yw hS (bk_mem.1 hv).2) av (λy hy=>by rw[List.mem_singleton.1 hy];exact bp) om (by simp)) (Yv S 32) rfl (List.pairwise_singleton _ _) (λy hy=>by rw[List.mem_singleton.1 hy];exact cn)) ?_;rintro u v2 ⟨rfl,G⟩;refine⟨G,?_⟩;refine ρd ?_;refine Uk ?_;refine Xl kr ?_;refine ρ ?_;exact Jg (i+1) sO ⟨om,aj.trans (a5.trans (O.trans G))⟩ om
 have fp:i=a2.length:=by have:=oF h;omega
 clear h;obtain⟨MA,mc,_,rfl,fo,fn,d9,_,en⟩:=id hM.el;obtain⟨OA,oc,_,rfl,fm,fl,d8,_,em⟩:=id hO.el;have cq:(U.map raP).length=U.length:=List.length_map ..;have cr:(U.map atP).length=U.length:=List.length_map ..;have cb:=b6.trans ak;refine ρ ?_;rw[cq,cr];rw[cq]at d9;rw[cr]at d8;refine Jl (fun (k:Nat)=>[(2,.int .u32 (S:Int)),(7,.slice OA U.length oc),(11,.pointer (some ⟨dt,0,none⟩)),(85,.slice MA U.length mc),(86,.int .i64 (U.length:Int)),(87,.int .i64 (k:Int))])
  (λk w'=>k<=U.length/\Ext w8 w') (λk=>U.length-k) 0 sB ⟨Nat.zero_le _,Ext.refl _⟩ ?_
 rintro k w9 ⟨hk,ai⟩;have a6:=cb.trans ai;have eu:=de.ext ai;have es:=dd.ext ai;refine ρ ?_;refine ci (λh=>?_) (λh=>?_)
 .have lk:k<U.length:=by have:=oT h;omega
  clear h;obtain⟨ce,_,⟨v1,v2,rfl,b8⟩,b4⟩:=en k om;obtain⟨fy,_,⟨dx,rfl,br⟩,cu⟩:=em k om;have c0:=b8.here.1;have dj:=br.here;have a1:U[k]∈U:=List.getElem_mem lk;have ei:(U.map raP)[k].vars=nz (U[k]).vs:=by simp[raP]
  have cz:(U.map atP)[k]=atP U[k]:=by simp
  have eb:=b8.here.2;rw[ei]at c0;rw[cz]at dj;generalize hga:U[k]=a at *
  obtain⟨D,dc,rfl,_⟩:=id c0;obtain⟨dk,GG,gc,_,rfl,_⟩:=id eb;have ad:=hC.asc a a1;have a7:∀ v∈a.vs,v<32:=λv hv=>by have:=hC.lt a a1 v hv;omega
  refine ρ ?_;refine ixq 2 k (d9.ext a6) lk ?_;refine ρ ?_;refine lds (cs:=[.slice D (nz a.vs).length dc,.slice GG dk.length gc]) (λj u hu=>Qm a6 (b4 j u hu)) ?_;refine ρ ?_;refine alc zRA ?_;intro dw g0 am cy dg;refine ρ ?_;refine stb (cs':=[.slice D (nz a.vs).length dc,.slice GG dk.length gc]) dg ?_ Jxf;intro du di f6 ch;have ah:Ext w9 du:=ch w9 am cy;refine ρ ?_;refine ldW di ?_;refine ρ ?_;refine cl (Qbp (c0.ext (a6.trans ah)) ad a7 rfl) ?_;rintro u fb ⟨rfl,cg⟩;have b3:Xh a.vs<4294967296:=Jyz (n:=32) a7;have bu:=u32_and_nat (Xh a.vs) S b3 au;have a9:=ah.trans cg;refine ρ ?_;refine ci (λh=>?_) (λh=>?_)
  .refine ρ ?_;exact Jg (k+1) sO ⟨om,ai.trans a9⟩ om
  have cj:Xh a.vs &&& S=S:=by
   have h1:=h;rw[bu]at h1;simp at h1;omega
  have d3:∀ v,S.testBit v=true->v∈a.vs:=λv hv=>by
   have:=congrArg (λz=>z.testBit v) cj;simp only[Nat.testBit_and]at this;rw[hv,Bool.and_true]at this;exact setB_bit.1 this
  have ba:inS a.vs S=bk S 32:=Jwp ad a7 d3;have aa:=a6.trans a9;obtain⟨p1,p2,p3⟩:=dx;have f7:=hC.cnt a a1;have cw:a.rs.length<=65536:=om
  refine ρ ?_;refine ixq 3 k (d8.ext aa) lk ?_;refine ρ ?_;refine lds (cs:=[p1,p2,p3]) (λj u hu=>Qm aa (cu j u hu)) ?_;refine ρ ?_;refine cl (Qql (vars:=a.vs) (rs:=a.rs) (dj.ext aa) au ad a7 (hC.len a a1) cw) ?_;rintro u c7 ⟨bl,t',rfl,P2,ee,f8,_,a4⟩;have a4:=a4 (.inl om);have hP:=ee.here;rw[ba]at hP;obtain⟨y1,y2,y3⟩:=t';obtain⟨⟨Y1,bc,dn,_⟩,dm,bd,Y3,bb,f9,dl,_⟩:=id hP;simp only at dn dm dl;subst dn;subst dm;subst dl;have d6:∀ r∈P2,r.length=(bk S 32).length/\∀ y∈r,D4 y:=λr hr=>by
   obtain⟨y,hy,rfl⟩:=List.mem_map.1 ((a4.2 r).1 hr);refine⟨?_,λz hz=>?_⟩
   .have:=Kr a.vs S a.vs.length (nR _);rw[List.take_length,ba]at this;show(List.map _ (Qe a.vs S)).length=_;rw[List.length_map];exact this
   obtain⟨c,hc,rfl⟩:=List.mem_map.1 hz;have b4:c<y.length:=by rw[hC.len a a1 y hy];exact Jzc hc
   rw[List.getD,List.getElem?_eq_getElem b4];exact hC.d4 a a1 y hy _ (List.getElem_mem b4)
  have bn:=Qpk a1 ad a7 d3 a4 ax;refine ρ ?_;refine alc Vy ?_;intro fa fz cc cx df;refine ρ ?_;refine stb (cs':=[.slice Y1 (nz (bk S 32)).length bc,.int .i64 ((bk S 32).length:Int),.slice Y3 bd.length bb]) df ?_ (Jxg rfl);intro ay dh f5 bj;have ac:Ext c7 ay:=bj c7 cc cx;have a5:Ext ay ay.drew:=(Ext.refl ay).drew;have bh:=a9.trans (bl.trans ac);have af:=bh.trans a5;have c5:=dh.ext a5;have c6:=eu.ext af;have c3:=es.ext af;have d5:=hP.ext (ac.trans a5);refine ρ ?_;refine drH (λ_=>false) ?_;refine Uz (fuel':=5) 20 [(0,0),(0,1),(0,2),(0,3),(0,5)] #[true,true,true,true,false,true,false,false,false,false] kr kr rfl ?_;refine ρd ?_;refine Qk (cs:=[.slice Y1 (nz (bk S 32)).length bc,.int .i64 ((bk S 32).length:Int),.slice Y3 bd.length bb]) (λj u hu=>c5.at hu) ?_;refine ρd ?_;refine Qk (cs:=[.slice E (atP ⟨bk S 32,M⟩).vars.length ec,.int .i64 ((atP ⟨bk S 32,M⟩).ar:Int),.slice F a8.length fc]) (λj u hu=>c6.at hu) ?_
  refine ρd ?_;refine Uk ?_;refine hmkS 20 3 _ #[true,true,true,true,true,true,true,false,false,false] [4,6] [111,113] [SF.ag (nz (bk S 32)) P2,SF.ag (nz (bk S 32)) M] kr (by rfl) ?_ ?_
  .refine gsc (λZ v1 O hd=>?_) ?_
   .simp only[slM];refine ρ ?_;refine cl (Jcn (t:=(.slice Y1 (nz (bk S 32)).length bc,.int .i64 ((bk S 32).length:Int),.slice Y3 bd.length bb)) (d5.ext O) (λr hr=>by have:=(d6 r hr).1;omega) (by show P2.length<=1100000;omega)) ?_;rintro u v2 ⟨z1,z2,rfl,bf,be,G⟩;refine ρ ?_;exact Xw G (agV bf be)
   refine gsc (λZ v1 O hd=>?_) gse
   simp only[slM];refine ρ ?_;refine cl (Jcn (t:=(.slice E (atP ⟨bk S 32,M⟩).vars.length ec,.int .i64 ((atP ⟨bk S 32,M⟩).ar:Int),.slice F a8.length fc)) (c3.ext O) (λr hr=>by have:=(av r hr).1;omega) (by show M.length<=1100000;omega)) ?_;rintro u v2 ⟨z1,z2,rfl,bf,be,G⟩;refine ρ ?_;exact Xw G (agV bf be)
  intro Z v1 O hd;obtain⟨A1,n1,c1,B1,e4,d1,e1,bz,bw⟩:=hd 0;obtain⟨A2,n2,c2,B2,e3,d2,e2,bt,aq⟩:=hd 1;simp only[slM,e1,e2];refine Uz (fuel':=0) 20 [(1,7),(0,8),(0,9)] #[true,true,true,true,true,true,true,true,true,true] kr kr rfl ?_;refine ρd ?_;refine dcl (Jrz (a:=⟨bk S 32,P2⟩) (b:=⟨bk S 32,M⟩) bz bw bt aq (smL2 ae (λv hv=>Yw hS (bk_mem.1 hv).2) d6 av om om) (Yv S 32) rfl ax.1 bn) ?_;rintro u v2 ⟨rfl,G⟩;refine⟨G,?_⟩;refine ρd ?_;refine Uk ?_;refine Xl kr ?_;refine ρ ?_;exact Jg (k+1) sO ⟨om,ai.trans (af.trans (O.trans G))⟩ om
 refine ρ ?_;refine cl (aw (an.trans a6)) ?_;rintro x dw ⟨rfl,am⟩;refine ρ ?_;exact Jq ⟨rfl,am⟩
open Go.RowKit Pl Go.Wk Bl Nw
theorem AtC.one{N:Nat->Prop}{w:World}{cs:List Value}{a:Atm}(h:AtC N w cs a): ∀ u∈cs,u.oneCell'=true:=by
 obtain⟨t,rfl,h⟩:=h;exact h.here.one
end Go.Proofs.YtebiphhfkdbpfaaGreat
namespace Go.Wk
open Go.RowKit Go.ChangeShapes Go.WideShapes
variable {cap e fuel len t:Nat}{A:Option Addr}
section
variable {H:Type} {enc:TypeId×Value->H} {P:Program} {w:World} {base:Nat} {spare:Nat->Bool} {held:Bool}
theorem rd_of{sz:Nat}{cs:List Value}{ad:Addr}(hA:A=some ad)(hl:cs.length=len*sz)(hc:∀ j u,cs[j]?=some u->w.cell? (ad.add j)=some u): Rd w sz A len cs :=
 ⟨hl,λh0=>⟨ad,hA,by
  have y:=hc 0 cs[0] (gE h0);rw[add_zero]at y;exact World.block_lt_of_cell? w ad y,hc⟩⟩
theorem Jnv{α:Type}{sz:Nat}{x:DataW H×List MemPlace}(X:α->List Value)(R:α->Prop)(ht:P.underlying t=some (.slice e))(hc:P.cellsOf e=sz)(hX:∀(n:Nat) (cs':List Value) (y:DataW H×List MemPlace),DataW.trod enc P w base spare held n e cs'=some y->∃ z:α,cs'=X z/\R z)(h:DataW.trod enc P w base spare held fuel t [.slice A len cap]=some x): ∃ l:List α,l.length=len/\Rd w sz A len (l.flatMap X)/\(∀ z∈l,R z)/\len<=cap/\cap<=maxLen:=by
 rcases Go.Deep.open_slice ht h with⟨F,_⟩|⟨a,len',cap',m,n,D,Pl,F,_,hl,hm,hmm,_,hel⟩
 .simp only[List.cons.injEq,Value.slice.injEq,and_true]at F;obtain⟨rfl,rfl,rfl⟩:=F;exact⟨[],rfl,Rd.nil,(λz O=>by cases O),Nat.le_refl _,Nat.zero_le _⟩
 simp only[List.cons.injEq,Value.slice.injEq,and_true]at F;obtain⟨rfl,rfl,rfl⟩:=F;have a2:len<=m:=by grind
 have key:∀ k,k<=len->∃ l:List α,l.length=k/\(l.flatMap X).length=k*sz/\(∀ j u,(l.flatMap X)[j]?=some u->w.cell? (a.add j)=some u)/\∀ z∈l,R z:=by
  intro k;induction k with
  | zero=>intro _;exact⟨[],rfl,by simp,(λj u J=>by simp at J),(λz O=>by cases O)⟩
  | succ k ih=>
   intro hk;obtain⟨l,h1,h2,h3,h4⟩:=ih om;obtain⟨cs',G,U⟩:=hel k om;obtain⟨z,rfl,O⟩:=hX n cs' _ U;rw[hc]at G;obtain⟨_,a1,Z⟩:=World.cells?_some G;refine⟨l++[z],by simp[h1],?_,?_,?_⟩
   .grind
   .intro j u J;rw[List.flatMap_append]at J;simp only[List.flatMap_cons,List.flatMap_nil,List.append_nil]at J;rcases Nat.lt_or_ge j (k*sz) with hj|hj
    .grind
    rw[List.getElem?_append_right om,h2]at J;have hb:j-k*sz<sz:=by grind
    have:=Z (j-k*sz) hb;rw[Jfx]at this;grind
   repeat grind
 obtain⟨l,h1,h2,h3,h4⟩:=key len (nR _);grind [rd_of]
end
end Go.Wk
namespace Go.Proofs.YtebiphhfkdbpfaaGreat
open Go.RowKit Pl Go.Wk Go.ChangeShapes Go.WideShapes
variable {cs:List Value}
section
variable {H:Type} {enc:TypeId×Value->H} {P:Program} {w:World} {base:Nat} {spare:Nat->Bool} {held:Bool} {B:Nat}
theorem Qkc{t e:TypeId}{fuel:Nat}{x:DataW H×List MemPlace}(ht:P.underlying t=some (.array 4 e))(hce:P.cellsOf e=1)(hct:P.cellsOf t=4)(h:DataW.trod enc P w base spare held fuel t cs=some x):
  ∃ c0 c1 c2 c3 y0 y1 y2 y3 n,cs=[c0,c1,c2,c3]/\DataW.trod enc P w base spare held n e [c0]=some y0/\DataW.trod enc P w base spare held n e [c1]=some y1/\DataW.trod enc P w base spare held n e [c2]=some y2/\DataW.trod enc P w base spare held n e [c3]=some y3:=by
 cases fuel with
 | zero=>simp[DataW.trod]at h
 | succ n=>
  unfold DataW.trod at h;rw[ht]at h;have u:List.range 4=[0,1,2,3]:=rfl;simp[u,hce,hct]at h;obtain⟨y,h⟩:=h;match cs,y with
  | [c0,c1,c2,c3],_=>
   simp at h;cases h0:DataW.trod enc P w base spare held n e [c0] with
   | none=>simp[h0]at h
   | some y0=>
    cases h1:DataW.trod enc P w base spare held n e [c1] with
    | none=>simp[h0,h1]at h
    | some y1=>
     cases h2:DataW.trod enc P w base spare held n e [c2] with
     | none=>simp[h0,h1,h2]at h
     | some y2=>
      cases h3:DataW.trod enc P w base spare held n e [c3] with
      | none=>simp[h0,h1,h2,h3]at h
      | some y3=>exact⟨c0,c1,c2,c3,y0,y1,y2,y3,n,rfl,h0,h1,h2,h3⟩
end
section
variable {H:Type} {enc:TypeId×Value->H} {w:World} {base b0:Nat} {spare:Nat->Bool} {held:Bool}
theorem Iw{n:Int}(h:0<=n/\n<=255): ∃ x:Nat,n=(x:Int)/\x<256:=⟨n.toNat,om,om⟩
theorem Qdz{n:Nat}{y:DataW H×List MemPlace}(h:DataW.trod enc Tryz.prog w base spare held n 71 cs=some y): ∃ l:List Nat,cs=u8C l/\l.length=4/\∀ x∈l,x<256:=by
 obtain⟨c0,c1,c2,c3,y0,y1,y2,y3,n,rfl,f0,f1,f2,f3⟩:=Qkc Tryz.underlying71 kr kr h;obtain⟨a0,J,_,w0⟩:=DataW.trod_int Tryz.underlying5 f0;obtain⟨a1,G,_,w1⟩:=DataW.trod_int Tryz.underlying5 f1;obtain⟨a2,F,_,w2⟩:=DataW.trod_int Tryz.underlying5 f2;obtain⟨a3,D,_,w3⟩:=DataW.trod_int Tryz.underlying5 f3;simp at J G F D;subst J;subst G;subst F;subst D;obtain⟨x0,rfl,l0⟩:=Iw (bounds_u8 w0);obtain⟨Z,rfl,l1⟩:=Iw (bounds_u8 w1);obtain⟨U,rfl,l2⟩:=Iw (bounds_u8 w2);obtain⟨O,rfl,l3⟩:=Iw (bounds_u8 w3);exact⟨[x0,Z,U,O],rfl,rfl,λx u=>by
  simp only[List.mem_cons,List.not_mem_nil,or_false]at u;rcases u with rfl|rfl|rfl|rfl<;>assumption⟩
end
open Go.RowKit Pl Go.Wk Bl
attribute [local irreducible] WC WL QX WD WDB WP WN WG WH WM
variable {l:List LA}{α:Type}{v vl:Value}{w:World}
def GM(sz:Nat)(Φ:World->List Value->α->Prop)(w:World)(v:Value)(ls:List α): Prop :=
 ∃(ps:List (List Value×α)) (A:Option Addr) (c:Nat),ls=ps.map (·.2)/\v=.slice A ps.length c/\ps.length<=c/\Rd w sz A ps.length (Jd ps)/\∀ p∈ps,p.1.length=sz/\Φ w p.1 p.2
theorem GM.parts{sz:Nat}{Φ:World->List Value->α->Prop}{ls:List α}(h:GM sz Φ w v ls): ∃ A c cs,v=.slice A ls.length c/\ls.length<=c/\Rd w sz A ls.length cs/\∀ i (hi:i<ls.length),∃ ce,ce.length=sz/\Φ w ce ls[i]/\∀ j u,ce[j]?=some u->w.cell? ((adr A (i*sz)).add j)=some u:=by
 obtain⟨ps,A,c,e,Z,U,G,D⟩:=h;subst e;refine⟨A,c,Jd ps,by grind,by grind,by grind,λi hi=>?_⟩;rw[List.length_map]at hi;have J:=D ps[i] (List.getElem_mem hi);refine⟨ps[i].1,J.1,by grind,λj u F=>?_⟩;have O:j<sz:=by grind
 rw[Gp];exact G.cell ((Jwx (λp y=>(D p y).1) (gE hi) O).trans F)
theorem GM.ext{α:Type}{sz:Nat}{Φ:World->List Value->α->Prop}{w w':World}{v:Value}{ls:List α}(h:GM sz Φ w v ls)(hx:Ext w w')(hΦ:∀ cs a,Φ w cs a->Φ w' cs a): GM sz Φ w' v ls:=by
 obtain⟨ps,A,c,e,G,F,D,u⟩:=h;exact⟨ps,A,c,e,G,F,D.ext hx,λp y=>⟨(u p y).1,hΦ _ _ (u p y).2⟩⟩
def LaM(w:World)(cs:List Value)(a:LA): Prop:=a.vars<256/\a.bad<256/\∃ v,cs=[.int .u8 (a.vars:Int),v,.int .u8 (a.bad:Int)]/\GM 4 (U8R Nn) w v a.rows
theorem LaM.ext{w w':World}(hx:Ext w w')(cs:List Value)(a:LA)(h:LaM w cs a): LaM w' cs a:=by
 obtain⟨D,y,v,e,u⟩:=h;exact⟨D,y,v,e,u.ext hx λ_ _ h=>h⟩
theorem LaM.c{w:World}{cs:List Value}{a:LA}(h:LaM w cs a)(hl:a.rows.length<=12): LaC Nn w cs a:=by
 obtain⟨O,J,v,e,ps,A,c,u,ev,G,y,D⟩:=h;have F:ps.length<=12:=by rw[u,List.length_map]at hl;exact hl
 have:=Jjq (Φ:=U8R) y G om D;rw[<-u,<-ev]at this;exact⟨O,J,v,e,this⟩
theorem GM.c{w:World}{v:Value}{l:List LA}(h:GM 3 LaM w v l)(h6:l.length<=6)(h12:∀ a∈l,a.rows.length<=12): GX 3 LaC Nn w v l:=by
 obtain⟨ps,A,c,y,ev,J,F,D⟩:=h;have G:ps.length<=6:=by rw[y,List.length_map]at h6;exact h6
 have:=Jjq (Φ:=LaC) F J om λp u=>⟨(D p u).1,(D p u).2.c (h12 _ (by rw[y];exact List.mem_map.2 ⟨p,u,rfl⟩))⟩;rw[<-y,<-ev]at this;exact this
theorem Qgx(hl:GM 3 LaM w vl l)(hn:l.length<=3518437208780)(hno:¬ (l.length<=6/\∀ a∈l,a.rows.length<=12)): Ret Tryz.prog 7 [vl] w λu w'=>Ext w w'/\∃ vo vm va,u=.tuple #[vo,vm,va,.bool false]:=by
 obtain⟨A,c,_,rfl,hc,hR,he⟩:=hl.parts;refine Jz Tryz.func7 Tryz.ntmps7 rfl kr rfl ?_;refine ρ ?_;refine Gt (fun (k:Nat) (vo vm va:Value)=>[(0,.slice A l.length c),(6,vo),(7,vm),(8,va),(21,.slice A l.length c),(22,.int .i64 (l.length:Int)),(23,.int .i64 (k:Int))])
  (λk vo vm va w'=>k<=l.length/\Ext w w'/\(∀ i (h:i<l.length),i<k->(l[i]).rows.length<=12)/\(∃ xs,w'.ownsRow w.heap.size 3 1 va k xs)/\(∃ xs,w'.ownsRow w.heap.size 37 3 vo k xs)/\∃ xs,w'.ownsRow w.heap.size 46 2 vm k xs)
  (λk _ _ _=>l.length-k) 0 (.slice none 0 0) (.slice none 0 0) (.slice none 0 0) sB ⟨Nat.zero_le _,Ext.refl _,λi _ h=>absurd h (Nat.not_lt_zero _),⟨_,Qr _ _ _ _⟩,⟨_,Qr _ _ _ _⟩,_,Qr _ _ _ _⟩ ?_
 rintro k vo vm va w1 ⟨hk,a4,bj,⟨xa,ch⟩,⟨xo,c1⟩,xm,cg⟩;refine ρ ?_;refine ci (λD=>?_) (λD=>?_)
 .have lk:k<l.length:=by have:=oT D;omega
  clear D;obtain⟨ce,_,⟨d7,du,vR,rfl,hG⟩,dm⟩:=he k lk;obtain⟨c9,rc,_,rfl,f8,e1,e2⟩:=hG.parts;generalize ha:l[k]=a at *
  refine ρ ?_;refine ixq 3 k (hR.ext a4) lk ?_;refine ρ ?_;refine lds (λj u O=>Qm a4 (dm j u O)) ?_;refine ρ ?_;refine alc zLaw ?_;intro w2 b2 d5 dw e7;refine ρ ?_;refine stb (cs':=[.int .u8 (a.vars:Int),.slice c9 a.rows.length rc,.int .u8 (a.bad:Int)]) e7 ?_ (λu O=>by
   simp only[List.mem_cons,List.not_mem_nil,or_false]at O;rcases O with rfl|rfl|rfl<;>rfl)
  intro w3 ba fh d3;have aq:Ext w1 w3:=d3 w1 d5 dw;refine ρ ?_;refine Qw (fun (v:Nat) (vv:Value)=>[(0,.slice A l.length c),(6,vo),(7,vm),(8,va),(10,.pointer (some ⟨b2,0,none⟩)),(11,vv),(21,.slice A l.length c),(22,.int .i64 (l.length:Int)),(23,.int .i64 (k:Int)),(27,.int .i64 (v:Int))])
   (λv vv w'=>v<=8/\Ext w3 w'/\Qq w' w3.heap.size vv (Jy v a.vars)) (λv _=>8-v) 0 (.slice none 0 0) sB ⟨Nat.zero_le _,Ext.refl _,Qr _ _ _ _⟩ ?_
  rintro v vv w4 ⟨hv,a3,an⟩;refine ρ ?_;refine ci (λD=>?_) (λD=>?_)
  .have lv:v<8:=by have:=oT D;omega
   clear D;refine ρ ?_;refine ld ((ba.ext a3).at (i:=0) rfl) ?_;refine ρ ?_;refine Ze rfl rfl om rfl ?_;refine ρ ?_;refine Gs rfl rfl (by decide) rfl ?_;refine ρ ?_;refine ci (λD=>?_) (λD=>?_)
   .have bu:a.vars.testBit v=true:=by rw[<-Jvk lv];exact D
    have hmk:Jy (v+1) a.vars=Jy v a.vars++[v]:=by rw[Jjk,if_pos bu]
    have fb:=Kf v a.vars;refine ρ ?_;refine bsl (Vp _) ?_;intro w5 b5 G fj e5;refine ρ ?_;refine apI (z:=v) (Jk an G) e5 om (nL a3.size G.size) ?_;intro cw w6 cj dl f9;rw[<-hmk]at cj;refine ρ ?_;exact Jr (v+1) cw sO ⟨om,Jf (a3.trans G) dl (Ur (Jk an G)),cj⟩ om
   have bu:¬ a.vars.testBit v=true:=λe=>by rw[<-Jvk lv]at e;exact absurd (D.symm.trans e) (by decide)
   have hmk:Jy (v+1) a.vars=Jy v a.vars:=by rw[Jjk,if_neg bu]
   refine ρ ?_;exact Jr (v+1) vv sO ⟨om,a3,by rw[hmk];exact an⟩ om
  have d6:v=8:=by have:=oF D;omega
  subst d6;clear D hv;have dg:Jy 8 a.vars=lvs a:=rfl;rw[dg]at an;obtain⟨VA,vc,eV,f7,dz⟩:=Jv an;subst eV;have fe:(lvs a).length<=8:=Kf 8 a.vars;have a1:Ext w1 w4:=aq.trans a3;refine ρ ?_;by_cases h4:4<(lvs a).length
  .refine kt 44 ?_ ?_
   .exact decide_eq_true om
   refine ρ ?_;exact Jjt ⟨a4.trans a1,_,_,_,rfl⟩
  refine kf 44 ?_ ?_
  .exact dF om
  refine ρ ?_;refine ld ((ba.ext a3).at (i:=1) rfl) ?_;refine ρ ?_;refine ci (λD=>?_) (λD=>?_)
  .have cr:12<a.rows.length:=by have:=oT D;omega
   refine ρ ?_;exact Jjt ⟨a4.trans a1,_,_,_,rfl⟩
  have cr:a.rows.length<=12:=by have:=oF D;omega
  clear D;refine ρ ?_;refine ld ((ba.ext a3).at (i:=1) rfl) ?_;refine ρ ?_;refine Qw (fun (j:Nat) (vr:Value)=>[(0,.slice A l.length c),(6,vo),(7,vm),(8,va),(10,.pointer (some ⟨b2,0,none⟩)),(11,.slice VA (lvs a).length vc),(13,vr),(21,.slice A l.length c),(22,.int .i64 (l.length:Int)),(23,.int .i64 (k:Int)),(51,.slice c9 a.rows.length rc),(52,.int .i64 (a.rows.length:Int)),(53,.int .i64 (j:Int))])
   (λj vr w'=>j<=a.rows.length/\Ext w4 w'/\OX 73 1 RfC (Ov w4 vr) w' w4.heap.size vr ((a.rows.map (Qu (lvs a).length)).take j)) (λj _=>a.rows.length-j) 0 (.slice none 0 0) sB ⟨Nat.zero_le _,Ext.refl _,OX.nil _ _⟩ ?_
  rintro j vr w5 ⟨hj,G,aw⟩;have bf:=a4.trans (a1.trans G);refine ρ ?_;refine ci (λD=>?_) (λD=>?_)
  .have lj:j<a.rows.length:=by have:=oT D;omega
   clear D;obtain⟨fl,_,⟨rfl,d1,d2⟩,cd⟩:=e2 j lj;generalize hy:a.rows[j]=y at *
   obtain⟨y0,y1,y2,y3,rfl⟩:∃ y0 y1 y2 y3,y=[y0,y1,y2,y3]:=by
    match y,d1 with
    | [y0,y1,y2,y3],_=>exact⟨y0,y1,y2,y3,rfl⟩
   refine ρ ?_;refine ixq 4 j (e1.ext bf) lj ?_;refine ρ ?_;refine lda (cs:=[.int .u8 (y0:Int),.int .u8 (y1:Int),.int .u8 (y2:Int),.int .u8 (y3:Int)]) (λj u O=>Qm bf (cd j u O)) rfl ?_;refine ρ ?_;refine alc Jgg ?_;intro w6 b6 a6 dt e4;refine ρ ?_;refine sta (cs':=[.int .u8 (y0:Int),.int .u8 (y1:Int),.int .u8 (y2:Int),.int .u8 (y3:Int)]) e4 ?_ (λu O=>by
    simp only[List.mem_cons,List.not_mem_nil,or_false]at O;rcases O with rfl|rfl|rfl|rfl<;>rfl) rfl rfl
   intro w7 c8 fg bp;have bb:Ext w5 w7:=bp w5 a6 dt;refine ρ ?_;refine bsl Jfk ?_;intro w8 b8 bo dn c7;refine ρ ?_;refine Qw (fun (i:Nat) (vx:Value)=>[(0,.slice A l.length c),(6,vo),(7,vm),(8,va),(10,.pointer (some ⟨b2,0,none⟩)),(11,.slice VA (lvs a).length vc),(13,vr),(15,.pointer (some ⟨b6,0,none⟩)),(16,vx),(21,.slice A l.length c),(22,.int .i64 (l.length:Int)),(23,.int .i64 (k:Int)),(51,.slice c9 a.rows.length rc),(52,.int .i64 (a.rows.length:Int)),(53,.int .i64 (j:Int)),(58,.slice VA (lvs a).length vc),(59,.int .i64 ((lvs a).length:Int)),(60,.int .i64 (i:Int))])
    (λi vx w'=>i<=(lvs a).length/\Ext w7 w'/\w'.ownsRow w7.heap.size 75 3 vx (Qu i [y0,y1,y2,y3]).length (Je (Qu i [y0,y1,y2,y3]))) (λi _=>(lvs a).length-i) 0 (.slice (some ⟨b8,0,none⟩) 0 0) sB ⟨Nat.zero_le _,bo,c7.own (n:=0) dn rfl (Nat.zero_le _)⟩ ?_
   rintro i vx w9 ⟨hi,J,b3⟩;refine ρ ?_;refine ci (λD=>?_) (λD=>?_)
   .have li:i<(lvs a).length:=by have:=oT D;omega
    clear D;have d0:([.int .u8 (y0:Int),.int .u8 (y1:Int),.int .u8 (y2:Int),.int .u8 (y3:Int)]:List Value)[i]?=some (.int .u8 (([y0,y1,y2,y3].getD i 0:Nat):Int)):=by
     rcases(show i=0∨i=1∨i=2∨i=3 by omega) with rfl|rfl|rfl|rfl<;>rfl
    generalize hz:[y0,y1,y2,y3].getD i 0=z at *
    refine ρ ?_;refine ixb i (show i<4 by omega) ?_;refine ρ ?_;refine ld ((c8.ext J).atc d0) ?_;refine ρ ?_;refine Gs rfl rfl (by decide) rfl ?_;refine ρ ?_;have ez:IntKind.i64.wrap ((z:Int).tmod 4)=((z % 4:Nat):Int):=by
     rw[show(z:Int).tmod 4=((z % 4:Nat):Int) from rfl,Zu om]
    rw[ez];refine bld (Qqd _ _) ?_;refine ρ ?_;refine bsl (Qjv _) ?_;intro ad cu F bl ac;have dh:=Uo i [y0,y1,y2,y3];refine ρ ?_;refine apb (m':=1) (news:=V.cells ⟨1,((z % 4:Nat):Int),⟨#[]⟩⟩) EV (Jk b3 F) (ac.rd (n:=1) rfl) (V.one _) (by unfold maxLen;omega) om (J.trans F).size ?_;intro v3 bn dc cc fa;refine ρ ?_;refine Jr (i+1) v3 sO ⟨li,Jf (J.trans F) cc (Ur (Jk b3 F)),?_⟩ om;rw[Jrf,hz,List.length_append,Il,Ih];exact dc
   have dk:i=(lvs a).length:=by have:=oF D;omega
   subst dk;clear D hi;have dh:=Uo (lvs a).length [y0,y1,y2,y3];have dx:=ownX b3 om;obtain⟨XA,xc,eX,_,_⟩:=Jv b3;subst eX;have ao:=bb.trans J;refine ρ ?_;refine bsl (λw=>Jfg _ w _ _ _ rfl) ?_;intro ad cu F bl ac;have a2:=((aw.ext RfC.sta ao).ext RfC.sta F).old RfC.sta (N':=λq=>Ov w4 vr q∨ad.heap.size<=q) λq U=>U;obtain⟨_,_,_,_,av⟩:=id aw.form;have cx:=G.size;have ea:=bb.size;refine ρ ?_;refine apX ERo RfC.sta a2 ac rfl (λu O=>by rw[List.mem_singleton.1 O];rfl) ⟨_,rfl,(dx.grN (GrN.ext F)).oldN λq U=>?_⟩ (λg hg=>.inl (.inr hg)) (by simp;omega) (by decide) (nL cx (ao.trans F).size) ?_
   .rcases U with(U|U)|U
    .exact .inl (show q<w7.heap.size by omega)
    .exact .inl (show q<w7.heap.size by have:=(av q U).2;omega)
    exact .inr U
   intro vr' bn bm Z bh;have d8:(a.rows.map (Qu (lvs a).length)).take j++[Qu (lvs a).length [y0,y1,y2,y3]]=(a.rows.map (Qu (lvs a).length)).take (j+1):=by rw[List.take_add_one,List.getElem?_map,List.getElem?_eq_getElem lj,hy];rfl
   rw[d8]at bm;refine ρ ?_;exact Jr (j+1) vr' sO ⟨lj,Jf (G.trans (ao.trans F)) Z λq e=>(av q e).1,bm.old RfC.sta λq U=>.inl (U.elim (λU=>.inl (.inl U)) λU=>(bh q U).elim (λU=>.inl (.inr U)) .inr)⟩ om
  have dj:j=a.rows.length:=by have:=oF D;omega
  subst dj;clear D hj;rw[show a.rows.length=(a.rows.map (Qu (lvs a).length)).length by simp,List.take_length]at aw;obtain⟨RR,f6,eR,_,av⟩:=id aw.form;subst eR;have d9:(a.rows.map (Qu (lvs a).length)).length<=12:=by simp;omega
  have e3:=Jkr aw om;have ej:Ext w1 w5:=a1.trans G;refine ρ ?_;refine cl (Jbp e3) ?_;rintro _ w6 ⟨a6,rv,e,rfl,⟨z,B,m',d',rfl⟩,db,da⟩;obtain rfl:e=0:=db om (λr hr=>by
   obtain⟨y,hy,rfl⟩:=List.mem_map.1 hr;exact⟨Uo _ _,Jrd _ _⟩) om
  obtain⟨_,_,m,df,fd,de,dd⟩:=da rfl;have em:=dd (.inl om);refine ρ ?_;refine alc Yr ?_;intro w7 b7 bp dq c8;refine ρ ?_;refine stb (cs':=[.int .i64 z,.slice B m' d']) c8 ?_ (λu O=>by
   simp only[List.mem_cons,List.not_mem_nil,or_false]at O;rcases O with rfl|rfl<;>rfl)
  intro w8 c7 ff bo;have a5:Ext w6 w8:=bo w6 bp dq;refine ρ ?_;refine ld ((((ba.ext a3).ext G).ext (a6.trans a5)).at (i:=2) rfl) ?_;refine ρ ?_;refine Jgv (fun (v':Value)=>[(0,.slice A l.length c),(6,vo),(7,vm),(8,va),(11,v'),(18,.pointer (some ⟨b7,0,none⟩)),(20,.int .i64 ((lvs a).length:Int)),(21,.slice A l.length c),(22,.int .i64 (l.length:Int)),(23,.int .i64 (k:Int))])
   (λv' w'=>GrN (λq=>(Value.slice VA (lvs a).length vc).ownBlock=some q) w8 w'/\w'.ownsRow w3.heap.size 3 1 v' (Qz a).length (Ja (Qz a))) ?_ ?_
  .have b4:Qq w8 w3.heap.size (.slice VA (lvs a).length vc) (lvs a):=Jk an (G.trans (a6.trans a5));have aj:w3.heap.size<=w8.heap.size:=(a3.trans (G.trans (a6.trans a5))).size;have ca:∀(ls:List Nat) (x:Nat),nz (ls++[x])=nz ls++[(x:Int)]:=λls x=>by simp[nz]
   refine ρ ?_;refine ci (λD=>?_) (λD=>?_)
   .have h0:a.bad=0:=by have:=eq_of_beq D;omega
    have ae:Qz a=nz (lvs a):=by rw[Qz,if_pos h0]
    refine ρ ?_;exact Js _ sB ⟨GrN.refl _ _,by rw[ae,Jm];exact b4⟩
   have h0:a.bad≠0:=λe=>by rw[e]at D;revert D;decide
   clear D;refine ρ ?_;refine ci (λD=>?_) (λD=>?_)
   .have h1:a.bad=1:=by have:=eq_of_beq D;omega
    have ae:Qz a=nz (lvs a++[9]):=by rw[Qz,if_neg h0,if_pos h1,ca];rfl
    refine ρ ?_;refine bsl (Vp _) ?_;intro w9 b9 J ay aa;refine ρ ?_;refine apI (z:=9) (Jk b4 J) aa om (nL aj J.size) ?_;intro v' ad a2 a9 bi;refine ρ ?_;exact Js v' sB ⟨(GrN.ext J).trans (GrN.by a9 λq e=>e),by rw[ae,Jm];exact a2⟩
   have h1:a.bad≠1:=λe=>by rw[e]at D;revert D;decide
   clear D;refine ρ ?_;refine ci (λD=>?_) (λD=>?_)
   .have h2:a.bad=2:=by have:=eq_of_beq D;omega
    have ae:Qz a=nz (lvs a++[0]):=by rw[Qz,if_neg h0,if_neg h1,if_pos h2,ca];rfl
    refine ρ ?_;refine bsl (Vp _) ?_;intro w9 b9 J ay aa;refine ρ ?_;refine apI (z:=0) (Jk b4 J) aa om (nL aj J.size) ?_;intro v' ad a2 a9 bi;refine ρ ?_;exact Js v' sB ⟨(GrN.ext J).trans (GrN.by a9 λq e=>e),by rw[ae,Jm];exact a2⟩
   have h2:a.bad≠2:=λe=>by rw[e]at D;revert D;decide
   clear D;have ae:Qz a = -1::nz (lvs a):=by rw[Qz,if_neg h0,if_neg h1,if_neg h2]
   refine ρ ?_;refine bsl (Vp _) ?_;intro w9 b9 J ay aa;refine ρ ?_;refine apb (base:=w3.heap.size) (m:=1) (m':=(lvs a).length) (xs:=[.int .i64 (-1)]) (news:=Ja (nz (lvs a))) EI (aa.own (n:=1) (nL aj ay) rfl (by decide)) (Rd.own (Jk b4 J)) (λu O=>by
    obtain⟨x,_,rfl⟩:=List.mem_map.1 O;rfl) (by unfold maxLen;omega) om (nL aj J.size) ?_
   intro v' ad a2 a9 bi;refine ρ ?_;exact Js v' sB ⟨(GrN.ext J).by2 a9 λq e=>.inl (by injection e with e;rw[<-e];exact ay),by
    rw[ae,List.length_cons,Jm,Nat.add_comm];exact a2⟩
  rintro vv w9 ⟨bs,e0⟩;have ax:∀ q,(Value.slice VA (lvs a).length vc).ownBlock=some q->w3.heap.size<=q/\q<w4.heap.size:=λq e=>dz q e;have bc:Ext w3 w9:=bs.old (a3.trans (G.trans (a6.trans a5))) λq e=>(ax q e).1;have aa:=Ju c7 bs λe=>by
   have:=(ax b7 e).2;have:=G.size;have:=a6.size;omega
  have ep:(Qz a).length<=9:=by
   unfold Qz;split
   .rw[Jm];omega
   split
   .rw[List.length_append,Jm];simp;omega
   split
   .rw[List.length_append,Jm];simp;omega
   rw[List.length_cons,Jm];omega
  obtain⟨VV,f2,e8,ek,et⟩:=Jv e0;subst e8;have a7:Ext w1 w9:=aq.trans bc;have ef:=aq.size;have ec:=bc.size;have bg:∀ q,vo.ownBlock=some q->q<w1.heap.size:=λq e=>by
   obtain⟨_,_,_,_,h3⟩:=Jv c1;exact(h3 q e).2
  have cb:GrN (λq=>q<w5.heap.size) w6 w9:=(GrN.ext a5).trans (bs.mono λq _ e=>by have:=(ax q e).2;have:=G.size;omega);have eb:=G.size;have ee:=a1.size;have br:∀ {v:World} {N':Nat->Prop},Ext w9 v->(∀ q,N' q->q<w1.heap.size∨v.heap.size<=q)->Off N' v λu=>RelV u (.agg #[.int .i64 z,.slice B m' d']) (lvs a).length m:=λhy hN=>(df.gr (cb.trans (GrN.ext hy))).old' λq U=>(hN q U).imp (λh=>om) id;refine ρ ?_;refine lds (cs:=[.int .i64 z,.slice B m' d']) (λj u O=>aa.at O) ?_;refine ρ ?_;refine bld (Jfm _ _ _ _ _ _ _ _) ?_;refine ρ ?_;refine bsl (λw=>Jfj _ _ _ _ _ _ _ _ _ _ rfl rfl rfl w) ?_;intro ad cu F bl ac;have af:=Jk c1 (a7.trans F);refine ρ ?_;refine apbW EA af ac rfl (λu O=>by
   simp only[List.mem_cons,List.not_mem_nil,or_false]at O;rcases O with rfl|rfl|rfl<;>rfl) (by unfold maxLen;omega) om (nL a4.size (a7.trans F).size) ?_
  intro f3 bn c0 Z bh;have bt:GrN (λq=>q<w1.heap.size) ad bn:=GrN.by Z bg
  have ck:=(br (N':=λq=>q<w1.heap.size) F λq U=>.inl U).gr bt;have ei:=F.size;have eh:=Z.size;have cq:=(aa.ext F).grown Z λe=>by
   have:=bg b7 e.symm;have:=G.size;have:=a6.size;omega
  refine ρ ?_;refine lds (cs:=[.int .i64 z,.slice B m' d']) (λj u O=>cq.at O) ?_;refine ρ ?_;refine cl (Jkh ck.here) ?_;rintro e9 f0 ⟨be,cm⟩;refine ρ ?_;refine cl (Jbn cm.off.here (λr hr=>by
   obtain⟨y,_,rfl⟩:=List.mem_map.1 (de r hr);rw[Uo];omega)) ?_
  rintro rf ey ⟨cn,ap⟩;obtain⟨FA,fc,eF,fi,fk⟩:=id cn.form;subst eF;refine ρ ?_;refine bld (Jzf _ _ _ _ _ _ _) ?_;refine ρ ?_;refine bsl (Jvl _ _ _ _ _ _) ?_;intro ex fn bd es cp;have ak:=be.trans (ap.trans bd);have eg:=be.size;have cz:=ap.size;have cy:=bd.size;have c6:=Jk (Xv (Jk ch (a7.trans F)) af Z rfl) ak;have ah:=Jk (Xv (Jk cg (a7.trans F)) af Z rfl) ak;have bz:=Jk c0 ak;refine ρ ?_;refine apbW ERA ah cp rfl (λu O=>by
   simp only[List.mem_cons,List.not_mem_nil,or_false]at O;rcases O with rfl|rfl<;>rfl) (by unfold maxLen;omega) om (by have:=a4.size;omega) ?_
  intro f4 ew c3 am eo;have c5:=Xv c6 ah am rfl;have bw:=Xv bz ah am rfl;have ed:=am.size;refine ρ ?_;refine bsl (Vp _) ?_;intro eu fm a8 er co;have ai:=Jk c5 a8;refine ρ ?_;refine apbW EI ai co rfl (λu O=>by rw[List.mem_singleton.1 O];rfl) (by unfold maxLen;omega) om (by have:=a4.size;have:=a8.size;omega) ?_;intro f5 cv c4 au en;have bv:=Xv (Jk bw a8) ai au rfl;have c2:=Xv (Jk c3 a8) ai au rfl;have ar:∀ q,(vo.ownBlock=some q∨vm.ownBlock=some q∨va.ownBlock=some q)->w.heap.size<=q:=λq U=>by
   rcases U with U|U|U
   .obtain⟨_,_,_,_,h3⟩:=Jv c1;exact(h3 q U).1
   .obtain⟨_,_,_,_,h3⟩:=Jv cg;exact(h3 q U).1
   obtain⟨_,_,_,_,h3⟩:=Jv ch;exact(h3 q U).1
  have bq:Ext w cv:=Jf ((Jf ((Jf (a4.trans (a7.trans F)) Z λq e=>ar q (.inl e)).trans ak) am λq e=>ar q (.inr (.inl e))).trans a8) au λq e=>ar q (.inr (.inr e));refine ρ ?_;refine Va (k+1) _ _ _ sO ⟨lk,bq,λi h hi=>?_,⟨_,c4⟩,⟨_,bv⟩,_,c2⟩ om;by_cases e:i=k
  .subst e;rw[ha];exact cr
  exact bj i h om
 have di:k=l.length:=by have:=oF D;omega
 clear D;subst di;have h6:¬ l.length<=6:=λh=>hno ⟨h,λa ha=>by
  obtain⟨i,hi,rfl⟩:=List.getElem_of_mem ha;exact bj i hi hi⟩
 have e6:decide ((l.length:Int)<=6)=false:=dF om;refine ρ ?_;rw[e6];exact Jjt ⟨a4,vo,vm,va,rfl⟩
theorem Qsz{n s0:Nat}(hl:GM 3 LaM w vl l)(hn:l.length<=3518437208780)(hno:¬ (l.length<=6/\∀ a∈l,a.rows.length<=12)):
  Ret Tryz.prog 4 [.int .u8 (n:Int),vl,.int .u32 (s0:Int)] w λu w'=>u=.bool true/\Ext w w':=by
 refine Jz Tryz.func4 Tryz.ntmps4 rfl kr rfl ?_;refine ρ ?_;refine cl (Qgx hl hn hno) ?_;rintro u w1 ⟨D,G,J,O,rfl⟩;refine ρ ?_;refine cl (Jfs _) ?_;rintro x F ⟨rfl,y⟩;refine ρ ?_;exact Jq ⟨rfl,D.trans y⟩
end Go.Proofs.YtebiphhfkdbpfaaGreat
namespace Go.Proofs.YtebiphhfkdbpfaaGreat
open Go.RowKit Pl Go.Wk Go.ChangeShapes Go.WideShapes
variable {p:List MemPlace}{cap fuel len n:Nat}{v:Value}
section
variable {H:Type} {enc:TypeId×Value->H} {w:World} {base b0:Nat} {spare:Nat->Bool} {held:Bool}
theorem Qdx{P:Program}{t e:TypeId}{A:Option Addr}{d:DataW H}(ht:P.underlying t=some (.slice e))(h:DataW.trod enc P w base spare held fuel t [.slice A len cap]=some (d,p))(hw:∀ n∈d.weights P t,n<=reachBytes): len*P.bytesOf e<=reachBytes:=by
 rcases Go.Deep.open_slice ht h with⟨u,_⟩|⟨a,len',cap',m,n,D,Pl,u,_,hl,hm,hmm,hx,hel⟩
 .simp only[List.cons.injEq,Value.slice.injEq,and_true]at u;obtain⟨rfl,rfl,rfl⟩:=u;rw[Nat.zero_mul];exact Nat.zero_le _
 simp only[List.cons.injEq,Value.slice.injEq,and_true]at u;obtain⟨rfl,rfl,rfl⟩:=u;injection hx with hx _
 subst hx;have:=hw ((((List.range len).map D).length+((List.range (m-len)).map λj=>D (len+j)).length)*P.bytesOf e) (by simp[DataW.weights,ht]);rw[List.length_map,List.length_range]at this;exact nL (nO _ (Nat.le_add_right _ _)) this
theorem Qfc{cs:List Value}{y:DataW H×List MemPlace}(h:DataW.trod enc Tryz.prog w base spare held n 24 cs=some y): ∃ a:LA,LaM w cs a:=by
 obtain⟨G,m,_,hx,J,U,hf⟩:=DataW.trod_struct Tryz.underlying24 h;have a1:cs.length=3:=by rw[J];kernel_rfl
 match cs,a1 with
 | [c0,c1,c2],_=>
  have a2:G.length=3:=U;have f0:DataW.trod enc Tryz.prog w base spare held m 5 (([c0,c1,c2].drop 0).take (Tryz.prog.cellsOf 5))=G[0]?:=hf 0 _ rfl;have f1:DataW.trod enc Tryz.prog w base spare held m 22 (([c0,c1,c2].drop 1).take (Tryz.prog.cellsOf 22))=G[1]?:=hf 1 _ rfl;have f2:DataW.trod enc Tryz.prog w base spare held m 5 (([c0,c1,c2].drop 2).take (Tryz.prog.cellsOf 5))=G[2]?:=hf 2 _ rfl;rw[show Tryz.prog.cellsOf 5=1 by kernel_rfl,List.getElem?_eq_getElem om]at f0 f2;rw[show Tryz.prog.cellsOf 22=1 by kernel_rfl,List.getElem?_eq_getElem om]at f1;obtain⟨n0,e0,_,w0⟩:=DataW.trod_int Tryz.underlying5 f0;obtain⟨n2,e2,_,w2⟩:=DataW.trod_int Tryz.underlying5 f2;have O:DataW.trod enc Tryz.prog w base spare held m 22 [c1]=some G[1]:=f1;simp at e0 e2;subst e0;subst e2;obtain⟨x0,rfl,l0⟩:=Iw (bounds_u8 w0);obtain⟨x2,rfl,l2⟩:=Iw (bounds_u8 w2);have key:∀(A:Option Addr) (len F:Nat),c1=.slice A len F->∃ a:LA,LaM w [.int .u8 (x0:Int),c1,.int .u8 (x2:Int)] a:=λA len F e=>by
   subst e;obtain⟨l,h1,g1,g2,g3,_⟩:=Jnv (sz:=4) u8C (λl=>l.length=4/\∀ x∈l,x<256) Tryz.underlying22 kr (λn a3 y hy=>by obtain⟨l,h1,h2⟩:=Qdz hy;exact⟨l,h1,h2⟩) O;subst h1;have ef:Jd (l.map λr=>(u8C r,r))=l.flatMap u8C:=by simp only[Jd,List.flatMap_map]
   have em:(l.map λr=>(u8C r,r)).map (·.2)=l:=by rw[List.map_map];exact List.map_id l
   have el:(l.map λr=>(u8C r,r)).length=l.length:=by simp
   exact⟨⟨x0,l,x2⟩,l0,l2,_,rfl,l.map λr=>(u8C r,r),A,F,em.symm,by rw[el],by rw[el];exact g3,by rw[el,ef];exact g1,λp hp=>by
    obtain⟨r,Z,rfl⟩:=List.mem_map.1 hp;exact⟨by simp[u8C,(g2 r Z).1],rfl,(g2 r Z).1,(g2 r Z).2⟩⟩
  rcases Go.Deep.open_slice Tryz.underlying22 O with⟨u,_⟩|⟨a,len,F,m',n',D,Pl,u,_⟩
  .injection u with u _
   exact key _ _ _ u
  injection u with u _
  exact key _ _ _ u
def Qxd(w:World)(v:Value)(l:List LA): Prop:=GM 3 LaM w v l/\l.length<=3518437208780
theorem Qfb{d:DataW H}(hv:Value.okWide Tryz.prog w .any b0 31 v)(h:DataW.Trod enc Tryz.prog w base spare held 31 v d p)(hw:∀ n∈d.weights Tryz.prog 31,n<=reachBytes): ∃ l,Qxd w v l:=by
 obtain⟨a,len,D,rfl⟩:=okWide_slice Tryz.underlying31 hv;obtain⟨J,F⟩:=h;have O:=Qdx Tryz.underlying31 F hw;rw[show Tryz.prog.bytesOf 24=40 by kernel_rfl,show reachBytes=140737488351232 by rfl]at O;obtain⟨l,Z,g1,g2,g3,_⟩:=Jnv (sz:=3) (λp:List Value×LA=>p.1) (λp=>p.1.length=3/\LaM w p.1 p.2) Tryz.underlying31 kr (λn u y U=>by
  obtain⟨a,G⟩:=Qfc U;refine⟨(u,a),rfl,?_,G⟩;obtain⟨_,_,v,e,_⟩:=G;rw[e];rfl) F
 subst Z;exact⟨l.map (·.2),⟨l,a,D,rfl,rfl,g3,g1,g2⟩,by rw[List.length_map];omega⟩
end
theorem Qsx{w:World}{n z:Int}(hn:0<=n/\n<=255)(h:∃ l,Qxd w v l)(hz:0<=z/\z<=4294967295): Ret Tryz.prog 4 [.int .u8 n,v,.int .u32 z] w λu w'=>u=.bool true/\Ext w w':=by
 obtain⟨l,D,y⟩:=h;obtain⟨s,rfl⟩:∃ s:Nat,z=(s:Int):=⟨z.toNat,om⟩;obtain⟨m,rfl⟩:∃ s:Nat,n=(s:Int):=⟨n.toNat,om⟩;by_cases hf:l.length<=6/\∀ a∈l,a.rows.length<=12
 .exact Qtb (D.c hf.1 hf.2) om om om
 exact Qsz D y hf
end Go.Proofs.YtebiphhfkdbpfaaGreat
