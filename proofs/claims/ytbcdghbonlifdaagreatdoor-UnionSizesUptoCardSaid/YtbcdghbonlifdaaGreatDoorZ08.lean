/- Part 8. -/
import Derived.Test.YtbcdghbonlifdaaGreatDoorZ07
set_option linter.unusedVariables false
set_option maxRecDepth 100000
set_option maxHeartbeats 40000000
namespace Go.Proofs.YtbcdghbonlifdaaGreatDoor
open Go.RowKit Pl Go.Wk
attribute [local irreducible] WC WL QX WD WDB WP WN WG WH WM
variable {B0 f pc:Nat}
theorem Jtw{w:World}{x:Value}{ds:List Bool}{kf:Nat->Nat}{pf:Nat->Int}{BB:Nat->List BkT}{tot:Nat}{L:List Row}(tb:TB B0 w)(h:IxA w x f ds kf pf BB tot L){PA:Option Addr}{q:Row}(hq:RdR w PA q)(hqc:q.length<=pc):
  Ret Tryz.prog 57 [x,.slice PA q.length pc] w λu w'=>Ext w w'/\(q.length≠f->u=.tuple #[.slice none 0 0,.bool false,.int .i64 0,.int .i64 6]) /\
   (q.length=f->∃(kv:Value) (st:Nat),u=.tuple #[kv,.bool (decide (0<(wiL L q).length)),.int .i64 (st:Int),.int .i64 0]/\NatV w' kv (Qq ds L q)/\st<=Qy f λv=>hmB (BB v)):=by
 have ix:=h.ix;have ip:=h.ip;obtain⟨DA,dc,BA,cb,KA,ck,am,cp,tv,ag,af,rfl,aj,ak,hD,hB,hK,hP,a8,ah⟩:=id ix.ex;obtain⟨TA,tc,rfl,_⟩:=id a8;refine Jz Tryz.func57 Tryz.ntmps57 rfl kr rfl ?_;refine ρ ?_;refine bx ?_;intro w1 b G hb Z;refine ρ ?_;refine ldW Z ?_;refine ρ ?_;refine cl (Jch (ix.ext G)) ?_;rintro u w2 ⟨rfl,C⟩;refine ρ ?_;refine ci (λh=>?_) (λh=>?_)
 .have aa:q.length≠f:=λe=>by rw[e]at h;simp at h
  refine ρ ?_;exact Ie ⟨G.trans C,λ_=>rfl,λh=>absurd h aa⟩
 have a2:q.length=f:=by grind
 clear h;refine ρ ?_;refine ldW (Z.ext C) ?_;refine ρ ?_;refine cl (Jxx (ix.ext (G.trans C)) ip.nbT) ?_;rintro u w3 ⟨a7,_,a1⟩;have o:=(G.trans C).trans a1;obtain⟨UA,uc,rfl,_⟩:=id a7;refine ρ ?_;refine ci (λh=>?_) (λh=>?_)
 .have h0:tot=0:=by
   have:=Xa h;grind [Nat.eq_zero_or_pos,tot,limbs_pos']
  have hL:L=[]:=List.eq_nil_of_length_eq_zero (by rw[<-ip.len];exact h0);refine ρ ?_;refine Ie ⟨o,λh=>absurd a2 h,λ_=>⟨.slice none 0 0,0,by subst hL;rfl,?_,Nat.zero_le _⟩⟩;rw[hL];exact NatV.nil _
 have ne:tot≠0:=λe=>by
  have:=Zq h;grind [limbs_0]
 clear h;refine ρ ?_;refine ldW ((Z.ext C).ext a1) ?_;refine ρ ?_;refine cl (Qwj (tb.ext o) (ix.ext o) ip ne (Rd.ext hq o) hqc om) ?_;rintro u w4 ⟨bv,cv,st,rfl,a3,ab,a9,a6⟩;obtain⟨XA,xc,rfl,_⟩:=id a3;obtain⟨YA,yc,rfl,_⟩:=id ab;refine ρ ?_;refine alc Jvx ?_;intro w5 b8 a5 ac ad;refine ρ ?_;refine stW ad ?_;intro w6 ae ai a4;have J:Ext w4 w6:=a4 w4 a5 ac;have O:Ext w6 w6.drew:=(Ext.refl w6).drew;have D:=ae.ext O;refine ρ ?_;refine drN (λ_=>False) 11 [(0,0),(0,1),(0,2),(0,3),(0,4),(0,5),(0,6),(0,7),(0,8),(0,9)] kr ?_;refine ρn ?_;refine nld (λw' hg=>(D.ext hg.toExt).at (i:=0) rfl) ?_;refine ρn ?_;refine nld (λw' hg=>(D.ext hg.toExt).at (i:=2) rfl) ?_;refine ρn ?_;refine nld (λw' hg=>(D.ext hg.toExt).at (i:=3) rfl) ?_;refine ρn ?_;refine ρ ?_;exact Ie ⟨((o.trans a6).trans J).trans O,λh=>absurd a2 h,λ_=>⟨_,st,rfl,(a3.ext J).ext O,a9⟩⟩
open Go.RowKit Pl Go.Wk
section
variable {w:World} {x:Value} {f:Nat} {ds:List Bool} {kf:Nat->Nat} {pf:Nat->Int} {BB:Nat->List BkT} {tot:Nat} {L:List Row}
theorem Qzn(h:IxV w x f ds kf pf BB tot): Ret Tryz.prog 63 [x] w λu w'=>BoolsV w' u ds/\Ext w w':=by
 obtain⟨DA,dc,BA,cb,KA,ck,PA,cp,tv,a2,a1,rfl,a3,a4,hD,hB,hK,hP,J,hv⟩:=h.ex;obtain⟨TA,tc,rfl,_⟩:=id J;have C:=h.dl;have Z:=h.f32;refine Jz Tryz.func63 Tryz.ntmps63 rfl kr rfl ?_;refine ρ ?_;refine bx ?_;intro w1 b o hb O;refine ρ ?_;refine ld (O.at (i:=0) rfl) ?_;refine ρ ?_;have D:=Rd.ext hD o;rw[C]at D;refine cl (Xkz D (λu hu=>?_) om) ?_
 .obtain⟨b,_,rfl⟩:=List.mem_map.1 hu;rfl
 rintro u w2 ⟨⟨A',c',rfl,a5,hR⟩,G⟩;refine ρ ?_;refine Jj ⟨⟨A',c',by rw[C],om,om,?_⟩,o.trans G⟩;grind
end
end Go.Proofs.YtbcdghbonlifdaaGreatDoor
namespace Go.Proofs.YtbcdghbonlifdaaGreatDoor
open Pl Go.Wk
variable {cs:List Nat}{N a b f n s t v:Nat}{z zM:Row}
abbrev PAt:= List Nat×List Row
def pa0: PAt:=([],[])
def BagL(L:List PAt)(s:Nat)(z:Row): Prop:=∀ a∈L,∃ r∈a.2,∀ j,j<a.1.length->s.testBit (a.1.getD j 0)=true->r.getD j V0=z.getD (a.1.getD j 0) V0
abbrev vrL(L:List PAt)(i:Nat): List Nat:=(L.getD i pa0).1
abbrev rwL(L:List PAt)(i:Nat): List Row:=(L.getD i pa0).2
theorem Qbs{α:Type}{d:α}{L:List α}{P:α->Prop}: (∀ i,i<L.length->P (L.getD i d))↔∀ a∈L,P a:=by grind [List.getElem_of_mem,Qz,getD_mem']
theorem bagL_iff{L:List PAt}: Ke L.length (vrL L) (rwL L) s z↔BagL L s z :=
 Qbs (d:=pa0) (P:=λa=>∃ r∈a.2,∀ j,j<a.1.length->s.testBit (a.1.getD j 0)=true->r.getD j V0=z.getD (a.1.getD j 0) V0)
theorem Xyk{n:Nat}{L:List PAt}{l:List Row}(hasc:∀ a∈L,Ql a.1)(hc:∀ v,s.testBit v=true->∃ a∈L,v∈a.1)(hl:Lt [] l)(h:∀ x∈l,∃ z:Row,x=pmR (bk s 32) z/\BagL L s z): l.length<=Jd L.length λi=>(rwL L i).length:=by
 have o:∀ i,i<L.length->Ql (vrL L i):=by grind
 refine Qws (F:=λg=>(bk s 32).map (Jjq L.length (vrL L) g)) (λg g' C=>List.map_congr_left λv _=>Qqg C v) (Qxm hl) λx G=>?_;obtain⟨z,rfl,D⟩:=h x G;rw[<-bagL_iff]at D;obtain⟨g,C⟩:∃ g:Nat->Row,∀ i,i<L.length->g i∈rwL L i/\∀ j,j<(vrL L i).length->s.testBit ((vrL L i).getD j 0)=true->(g i).getD j V0=z.getD ((vrL L i).getD j 0) V0:=by
  refine⟨λi=>if hi:i<L.length then Classical.choose (D i hi) else[],λi hi=>?_⟩;grind
 refine⟨g,λi hi=>(C i hi).1,?_⟩;unfold pmR;refine List.map_congr_left λv O=>?_;obtain⟨_,u⟩:=bk_mem.1 O;obtain⟨a,Z,J⟩:=hc v u;obtain⟨i,hi,rfl⟩:=List.getElem_of_mem Z;refine(Qqf o ⟨i,hi,by grind⟩ λi hi j hj e=>?_).symm;grind
def ren(f s v:Nat): Nat:=if v<f then v else v+s
theorem Qmd(h:a<b): ren f s a<ren f s b:=by unfold ren;grind
theorem Qmf(h:ren f s a=ren f s b): a=b:=by unfold ren at h;grind
theorem Jgp(h:v<f): ren f s v=v:=if_pos h
theorem Jkk(h:f<=v): ren f s v=v+s:=if_neg om
theorem Jgq: ren f 0 v=v:=by unfold ren;split<;>rfl
structure UMem where
 N: Nat
 perm:List Nat
 ats:List PAt
structure UOk(f:Nat)(M:UMem): Prop where
 n6:M.N<=6
 m5:M.ats.length<=5
 asc:∀ a∈M.ats,Ql a.1
 lt:∀ a∈M.ats,∀ v∈a.1,v<M.N
 cov:∀ v,v<M.N->∃ a∈M.ats,v∈a.1
 srt:∀ a∈M.ats,Lt [] a.2
 len:∀ a∈M.ats,∀ r∈a.2,r.length=a.1.length
 fit:∀ a∈M.ats,∀ r∈a.2,∀ u∈r,Xk u=true/\Xb u
 cnt:Jd M.ats.length (λi=>(rwL M.ats i).length)<=5000
 big:∀ a∈M.ats,a.2.length<=1000
 pm:PermOk M.N f M.perm
def Qn(f s:Nat)(a:PAt): PAt:=(a.1.map (ren f s),a.2)
def jAs(f:Nat): Nat->List UMem->List PAt
 | _,[]=>[]
 | s,M::Ms=>M.ats.map (Qn f s)++jAs f (s+(M.N-f)) Ms
def jPm(f:Nat): Nat->List UMem->List Nat
 | _,[]=>[]
 | s,M::Ms=>M.perm.map (ren f s)++jPm f (s+(M.N-f)) Ms
def jN(f:Nat): Nat->List UMem->Nat
 | s,[]=>f+s
 | s,M::Ms=>jN f (s+(M.N-f)) Ms
def Yc(f:Nat): Nat->List UMem->List Nat
 | s,[]=>[f+s]
 | s,M::Ms=>(f+s)::Yc f (s+(M.N-f)) Ms
theorem Gw{f:Nat}: ∀ {s:Nat} {Ms:List UMem},f+s<=jN f s Ms
 | _,[]=>nR _
 | s,M::Ms=>by have:=Gw (f:=f) (s:=s+(M.N-f)) (Ms:=Ms);unfold jN;omega
theorem Jlh{f:Nat}: ∀ {s:Nat} {Ms:List UMem},(∀ M∈Ms,UOk f M)->jN f s Ms<=f+s+Ms.length*(6-f)
 | _,[],_=>by simp[jN]
 | s,M::Ms,h=>by
  have:=Jlh (f:=f) (s:=s+(M.N-f)) (Ms:=Ms) λm hm=>h m (List.mem_cons_of_mem _ hm);have:=(h M mC).n6;rw[jN,List.length_cons,Nat.succ_mul];omega
theorem Jwj{f:Nat}: ∀ {s:Nat} {Ms:List UMem},(∀ M∈Ms,UOk f M)->(jAs f s Ms).length<=Ms.length*5
 | _,[],_=>by simp[jAs]
 | s,M::Ms,h=>by
  have:=Jwj (f:=f) (s:=s+(M.N-f)) (Ms:=Ms) λm hm=>h m (List.mem_cons_of_mem _ hm);have:=(h M mC).m5;rw[jAs,List.length_append,List.length_map,List.length_cons];omega
theorem Jwh{f:Nat}: ∀ {s:Nat} {Ms:List UMem} {a:PAt},a∈jAs f s Ms->∃ s' M a',M∈Ms/\a'∈M.ats/\a=Qn f s' a'/\s<=s'/\f+s'+(M.N-f)<=jN f s Ms
 | _,[],_,h=>by cases h
 | s,M::Ms,a,h=>by
  rw[jAs,List.mem_append]at h;rcases h with h|h
  .obtain⟨a',h1,rfl⟩:=List.mem_map.1 h;exact⟨s,M,a',List.mem_cons_self,h1,rfl,Nat.le_refl _,by grind [jN,Gw]⟩
  obtain⟨s',M',a',h1,h2,h3,h4,h5⟩:=Jwh h;exact⟨s',M',a',List.mem_cons_of_mem _ h1,h2,h3,om,h5⟩
theorem Qbp{l:List Nat}(h:Ql l): Ql (l.map (ren f s)):=by grind [Ql,Qmd]
section
variable {f:Nat} {Ms:List UMem} {s:Nat}
theorem Jll(h:∀ M∈Ms,UOk f M): ∀ a∈jAs f s Ms,Ql a.1:=λa o=>by
 obtain⟨G,M,D,C,u,rfl,_⟩:=Jwh o;exact Qbp ((h M C).asc D u)
theorem Jcf(h:∀ M∈Ms,UOk f M): ∀ a∈jAs f s Ms,∀ v∈a.1,v<jN f s Ms:=λa D v o=>by
 obtain⟨Z,M,O,J,G,rfl,_,h5⟩:=Jwh D;obtain⟨u,C,rfl⟩:=List.mem_map.1 o;have:=(h M J).lt O G u C;unfold ren;split<;>omega
theorem Jcd(h:∀ M∈Ms,UOk f M){P:List Row->Prop}(hP:∀ M∈Ms,∀ a∈M.ats,P a.2): ∀ a∈jAs f s Ms,P a.2:=λa o=>by
 obtain⟨G,M,D,C,u,rfl,_⟩:=Jwh o;exact hP M C D u
theorem Xjk(h:∀ M∈Ms,UOk f M): ∀ a∈jAs f s Ms,∀ r∈a.2,r.length=a.1.length:=λa u r o=>by
 obtain⟨J,M,G,D,C,rfl,_⟩:=Jwh u;rw[(h M D).len G C r o];simp[Qn]
end
theorem Jlj{f:Nat}: ∀ {s:Nat} {Ms:List UMem} {v:Nat},f+s<=v->v<jN f s Ms->∃ s' M,M∈Ms/\(∀ a∈M.ats.map (Qn f s'),a∈jAs f s Ms)/\f+s'<=v/\v<f+s'+(M.N-f)/\f+s'∈Yc f s Ms/\f+s'+(M.N-f)∈Yc f s Ms
 | _,[],v,h1,h2=>by rw[jN]at h2;omega
 | s,M::Ms,v,h1,h2=>by
  rcases Nat.lt_or_ge v (f+s+(M.N-f)) with h3|h3
  .refine⟨s,M,List.mem_cons_self,λa ha=>by grind [jAs,List.mem_append_left],h1,h3,by rw[Yc];grind,?_⟩;rw[Yc];refine List.mem_cons_of_mem _ ?_;cases Ms with
   | nil=>rw[Yc,List.mem_singleton];omega
   | cons M' Ms=>rw[Yc];exact List.mem_cons.2 (.inl om)
  rw[jN]at h2;obtain⟨s',M',h4,h5,h6,h7,h8,h9⟩:=Jlj (f:=f) (s:=s+(M.N-f)) (Ms:=Ms) (v:=v) om h2;grind [List.mem_cons_of_mem,jAs,List.mem_append_right,Yc]
theorem Qzk{Ms:List UMem}(h:∀ M∈Ms,UOk f M)(hne:Ms≠[])(hv:v<jN f 0 Ms): ∃ a∈jAs f 0 Ms,v∈a.1:=by
 rcases Nat.lt_or_ge v f with h1|h1
 .cases Ms with
  | nil=>exact absurd rfl hne
  | cons M Ms=>
   have u:=h M mC;obtain⟨a,D,o⟩:=u.cov v (by have:=u.pm.fn;omega);grind [Qn,jAs,List.mem_append_left,List.mem_map_of_mem,List.mem_map.2,Jgq]
 obtain⟨C,M,G,Z,O,J,_⟩:=Jlj (f:=f) (s:=0) om hv;obtain⟨a,D,o⟩:=(h M G).cov (v-C) om;grind [Qn,List.mem_map_of_mem,List.mem_map.2,Jkk]
theorem Jlg{f:Nat}: ∀ {s:Nat} {Ms:List UMem},(∀ M∈Ms,UOk f M)->(jPm f s Ms).length=jN f s Ms-(f+s)/\(∀ v∈jPm f s Ms,f+s<=v/\v<jN f s Ms)/\(jPm f s Ms).Nodup
 | s,[],_=>by simp[jPm,jN]
 | s,M::Ms,h=>by
  obtain⟨h1,h2,h3⟩:=Jlg (f:=f) (s:=s+(M.N-f)) (Ms:=Ms) λm hm=>h m (List.mem_cons_of_mem _ hm);have hM:=(h M mC).pm;have hge:=Gw (f:=f) (s:=s+(M.N-f)) (Ms:=Ms);have hm:∀ v∈M.perm.map (ren f s),f+s<=v/\v<f+s+(M.N-f):=λv hv=>by
   obtain⟨u,hu,rfl⟩:=List.mem_map.1 hv;have:=hM.rng u hu;grind [Jkk]
  refine⟨?_,λv hv=>?_,?_⟩
  .rw[jPm,jN,List.length_append,List.length_map,h1,hM.len];omega
  .grind [jPm,jN]
  rw[jPm,List.nodup_append];refine⟨?_,h3,λa ha b hb e=>?_⟩
  .unfold List.Nodup;rw[List.pairwise_map];exact hM.nd.imp λhab e=>hab (Qmf e)
  repeat grind
theorem Jbz{Ms:List UMem}(h:∀ M∈Ms,UOk f M): PermOk (jN f 0 Ms) f (jPm f 0 Ms):=by
 obtain⟨D,C,u⟩:=Jlg (s:=0) h;exact⟨by grind [Gw],by rw[D];omega,λv o=>by have:=C v o;omega,u⟩
theorem Qjb: ren f s (ren f t v)=ren f (t+s) v:=by grind [Jgp,Jkk]
theorem Qmg(a:PAt): Qn f s (Qn f t a)=Qn f (t+s) a:=by grind [Qn,List.map_map,List.map_congr_left,Qjb]
theorem Qzj{f s:Nat}: ∀ {t:Nat} {Ms:List UMem},(jAs f t Ms).map (Qn f s)=jAs f (t+s) Ms
 | _,[]=>rfl
 | t,M::Ms=>by
  rw[jAs,jAs,List.map_append,List.map_map,Qzj,show t+(M.N-f)+s=t+s+(M.N-f) by omega];grind [List.map_congr_left,Qmg]
theorem Qzg{f s:Nat}: ∀ {t:Nat} {Ms:List UMem},(jPm f t Ms).map (ren f s)=jPm f (t+s) Ms
 | _,[]=>rfl
 | t,M::Ms=>by
  rw[jPm,jPm,List.map_append,List.map_map,Qzg,show t+(M.N-f)+s=t+s+(M.N-f) by omega];grind [List.map_congr_left,Qjb]
theorem Qzh{f s:Nat}: ∀ {t:Nat} {Ms:List UMem},jN f (t+s) Ms=jN f t Ms+s
 | t,[]=>by rw[jN,jN];omega
 | t,M::Ms=>by rw[jN,jN,show t+s+(M.N-f)=t+(M.N-f)+s by omega,Qzh]
theorem Jcg{f:Nat}: ∀ {s:Nat} {A B:List UMem},jAs f s (A++B)=jAs f s A++jAs f (jN f s A-f) B
 | s,[],B=>by grind [jAs,jN,Nat.add_sub_cancel_left]
 | s,M::A,B=>by rw[List.cons_append,jAs,jAs,Jcg,List.append_assoc,jN]
theorem Jcb{f:Nat}: ∀ {s:Nat} {A B:List UMem},jPm f s (A++B)=jPm f s A++jPm f (jN f s A-f) B
 | s,[],B=>by grind [jPm,jN,Nat.add_sub_cancel_left]
 | s,M::A,B=>by rw[List.cons_append,jPm,jPm,Jcb,List.append_assoc,jN]
theorem Jcc{f:Nat}: ∀ {s:Nat} {A B:List UMem},jN f s (A++B)=jN f (jN f s A-f) B
 | s,[],B=>by rw[List.nil_append,jN,Nat.add_sub_cancel_left]
 | s,M::A,B=>by rw[List.cons_append,jN,Jcc,jN]
def Qa(f:Nat)(G:List UMem): UMem:=⟨jN f 0 G,jPm f 0 G,jAs f 0 G⟩
theorem Qzc{f:Nat}: ∀ {s:Nat} {Gs:List (List UMem)},jAs f s (Gs.map (Qa f))=jAs f s Gs.flatten/\jPm f s (Gs.map (Qa f))=jPm f s Gs.flatten/\jN f s (Gs.map (Qa f))=jN f s Gs.flatten
 | s,[]=>⟨rfl,rfl,rfl⟩
 | s,G::Gs=>by
  obtain⟨h1,h2,h3⟩:=Qzc (f:=f) (s:=s+(jN f 0 G-f)) (Gs:=Gs);have e0:jN f s G=jN f 0 G+s:=by have:=Qzh (f:=f) (s:=s) (t:=0) (Ms:=G);grind
  have hge:=Gw (f:=f) (s:=0) (Ms:=G);have e1:jN f s G-f=s+(jN f 0 G-f):=om
  have ea:(jAs f 0 G).map (Qn f s)=jAs f s G:=by have:=Qzj (f:=f) (s:=s) (t:=0) (Ms:=G);grind
  have ep:(jPm f 0 G).map (ren f s)=jPm f s G:=by have:=Qzg (f:=f) (s:=s) (t:=0) (Ms:=G);grind
  refine⟨?_,?_,?_⟩
  .rw[List.map_cons,List.flatten_cons,jAs,Jcg,e1,<-h1];show(jAs f 0 G).map (Qn f s)++jAs f (s+(jN f 0 G-f)) _=_;rw[ea]
  .rw[List.map_cons,List.flatten_cons,jPm,Jcb,e1,<-h2];show(jPm f 0 G).map (ren f s)++jPm f (s+(jN f 0 G-f)) _=_;rw[ep]
  rw[List.map_cons,List.flatten_cons,jN,Jcc,e1,<-h3];rfl
theorem Qzb{M:UMem}(h:f<=M.N): Qa f [M]=M:=by
 have C:jN f 0 [M]=M.N:=by rw[jN,jN];omega
 have u:jPm f 0 [M]=M.perm:=by
  rw[jPm,jPm,List.append_nil];conv=>rhs;rw[<-List.map_id M.perm]
  grind [List.map_congr_left,Jgq]
 have o:jAs f 0 [M]=M.ats:=by
  rw[jAs,jAs,List.append_nil];conv=>rhs;rw[<-List.map_id M.ats]
  refine List.map_congr_left λa _=>?_;unfold Qn;have:a.1.map (ren f 0)=a.1:=by
   conv=>rhs;rw[<-List.map_id a.1]
   grind [List.map_congr_left,Jgq]
  rw[this];rfl
 unfold Qa;rw[C,u,o]
def Qcc(cs:List Nat)(u x:Nat): Prop:=∀ c∈cs,(u<c↔x<c)
def NbC(f:Nat)(cs:List Nat)(nb:Nat->Nat->Bool): Prop:=∀ u x,f<=u->nb u x=true->x<f∨Qcc cs u x
theorem NbC.step{nb:Nat->Nat->Bool}(h:NbC f cs nb)(hv:f<=v): NbC f cs (Yo v nb):=λu x C o=>by
 unfold Yo at o;by_cases e1:nb v u=true
 .rw[if_pos e1]at o;simp only[Bool.and_eq_true,Bool.or_eq_true]at o;rcases o.1.1 with h1|h1
  .exact h u x C h1
  rcases h v x hv h1 with h2|h2
  .exact .inl h2
  rcases h v u hv e1 with h3|h3
  .omega
  exact .inr λc D=>(h3 c D).symm.trans (h2 c D)
 rw[if_neg e1]at o;exact h u x C o
theorem NbC.at{f:Nat}{cs:List Nat}: ∀ {l:List Nat} {nb:Nat->Nat->Bool},NbC f cs nb->(∀ v∈l,f<=v)->NbC f cs (Va nb l)
 | [],_,h,_=>h
 | v::l,nb,h,hl=>NbC.at (l:=l) (nb:=Yo v nb) (h.step (hl v mC)) λu hu=>hl u (List.mem_cons_of_mem _ hu)
theorem Qwr{f:Nat}: ∀ {s:Nat} {Ms:List UMem},∀ c∈Yc f s Ms,f+s<=c
 | _,[],c,h=>by grind [Yc,List.mem_singleton]
 | s,M::Ms,c,h=>by
  rw[Yc]at h;rcases List.mem_cons.1 h with h|h
  .omega
  have:=Qwr c h;omega
theorem Jlk{f:Nat}: ∀ {s:Nat} {Ms:List UMem},(∀ M∈Ms,UOk f M)->∀ a∈jAs f s Ms,∀ u∈a.1,∀ x∈a.1,f<=u->f<=x->f+s<=u/\Qcc (Yc f s Ms) u x
 | _,[],_,a,h,_,_,_,_,_,_=>by cases h
 | s,M::Ms,h,a,ha,u,hu,x,hx,fu,fx=>by
  rw[jAs,List.mem_append]at ha;rcases ha with ha|ha
  .obtain⟨a',h1,rfl⟩:=List.mem_map.1 ha;have hM:=h M mC;have key:∀ u∈(Qn f s a').1,f<=u->f+s<=u/\u<f+s+(M.N-f):=λu hu fu=>by
    obtain⟨u',h2,rfl⟩:=List.mem_map.1 hu;have h3:=hM.lt a' h1 u' h2;have:f<=u':=by unfold ren at fu;split at fu<;>omega
    rw[Jkk this];omega
   have k1:=key u hu fu;have k2:=key x hx fx;refine⟨k1.1,λc hc=>?_⟩;rw[Yc]at hc;rcases List.mem_cons.1 hc with hc|hc
   .omega
   have:=Qwr c hc;omega
  obtain⟨h1,h2⟩:=Jlk (λm hm=>h m (List.mem_cons_of_mem _ hm)) a ha u hu x hx fu fx;obtain⟨h3,_⟩:=Jlk (λm hm=>h m (List.mem_cons_of_mem _ hm)) a ha x hx u hu fx fu;refine⟨om,λc hc=>?_⟩;rw[Yc]at hc;rcases List.mem_cons.1 hc with hc|hc
  .omega
  exact h2 c hc
section
variable {f:Nat} {Ms:List UMem} (h:∀ M∈Ms,UOk f M)
include h
theorem nbC0: NbC f (Yc f 0 Ms) (nb0 (jN f 0 Ms) (Zy (jAs f 0 Ms).length (vrL (jAs f 0 Ms)))):=λu x D o=>by
 unfold nb0 at o;simp only[Bool.and_eq_true,decide_eq_true_eq,bne_iff_ne,List.any_eq_true]at o;obtain⟨⟨h1,h2⟩,e,G,Z,O⟩:=o;obtain⟨i,hi,rfl⟩:=List.mem_map.1 G;have C:=List.mem_range.1 hi;have J:(jAs f 0 Ms).getD i pa0∈jAs f 0 Ms:=getD_mem' pa0 _ C;rcases Nat.lt_or_ge x f with h5|h5
 .exact .inl h5
 exact .inr (Jlk h _ J u (edgeOf_bit.1 Z) x (edgeOf_bit.1 O) D h5).2
theorem Xyj{kf:Nat->Nat}{pf:Nat->Int}(hb:Jzr (jN f 0 Ms) (Zy (jAs f 0 Ms).length (vrL (jAs f 0 Ms))) (Qu (jPm f 0 Ms) f) kf pf)(hne:Ms≠[])(hv:v<jN f 0 Ms):
  ∃ s' M,M∈Ms/\(∀ a∈M.ats.map (Qn f s'),a∈jAs f 0 Ms)/\∀ x,(kf v ||| 2^v).testBit x=true->x<f∨f+s'<=x/\x<f+s'+(M.N-f):=by
 have hp:=Jbz h;have D:∀ e∈Zy (jAs f 0 Ms).length (vrL (jAs f 0 Ms)),e<2^jN f 0 Ms:=λe he=>by
  obtain⟨i,hi,rfl⟩:=List.mem_map.1 he;exact Jzg (Jcf h _ (getD_mem' pa0 _ (List.mem_range.1 hi)))
 have C:∀ x,(kf v ||| 2^v).testBit x=true->x=v∨Zm (nb0 (jN f 0 Ms) (Zy (jAs f 0 Ms).length (vrL (jAs f 0 Ms)))) (Qu (jPm f 0 Ms) f) v x=true:=λx o=>by
  rw[Nat.testBit_or,Nat.testBit_two_pow,Bool.or_eq_true,decide_eq_true_eq]at o;rcases o with o|o
  .rw[(hb v hv).2.1]at o;exact .inr o
  exact .inl o.symm
 have O:∀ x,Zm (nb0 (jN f 0 Ms) (Zy (jAs f 0 Ms).length (vrL (jAs f 0 Ms)))) (Qu (jPm f 0 Ms) f) v x=true->x<jN f 0 Ms:=λx o=>Jbw (λa b Z=>(Jxs D Z).2.1) o;rcases Nat.lt_or_ge v f with h1|h1
 .obtain⟨M,hM⟩:∃ M,M∈Ms:=by cases Ms with
   | nil=>exact absurd rfl hne
   | cons M Ms=>exact⟨M,List.mem_cons_self⟩
  have hs:∃ s' M,M∈Ms/\∀ a∈M.ats.map (Qn f s'),a∈jAs f 0 Ms:=by cases Ms with
   | nil=>exact absurd rfl hne
   | cons M Ms=>exact⟨0,M,List.mem_cons_self,λa ha=>by grind [jAs,List.mem_append_left]⟩
  obtain⟨s',M',h2,h3⟩:=hs;refine⟨s',M',h2,h3,λx o=>.inl ?_⟩;rcases C x o with J|J
  .omega
  have h5:=(Jbv (Jhl D) hp.ond (hp.omem.2 hv) J).1;have h6:=hp.omem.2 (O x J);rcases List.mem_append.1 h6 with G|G
  .refine absurd ?_ h5;obtain⟨p,q,e⟩:=List.append_of_mem G;have a1:∀ y∈jPm f 0 Ms,(y != v)=true:=λy hy=>bne_iff_ne.2 (by have:=(hp.rng y hy).1;omega);grind [pre,Qu,List.takeWhile_append_of_pos,List.mem_append_left]
  repeat grind
 obtain⟨s',M,h2,h3,J,h5,h6,G⟩:=Jlj (f:=f) (s:=0) om hv;refine⟨s',M,h2,h3,λx o=>?_⟩;rcases C x o with h8|h8
 .exact .inr om
 have Zv:∀ u∈pre (Qu (jPm f 0 Ms) f) v,f<=u:=λu hu=>by
  have hm:v∈jPm f 0 Ms:=by
   rcases List.mem_append.1 (hp.omem.2 hv) with h9|h9
   repeat grind
  obtain⟨r,e,hn⟩:=Jkf hm;have e2:pre (Qu (jPm f 0 Ms) f) v=pre (jPm f 0 Ms) v:=by grind [Qu,jPm,pre,List.range,Jbg]
  rw[e2]at hu;exact(hp.rng u ((List.takeWhile_sublist _).subset hu)).1
 rcases(nbC0 h).at Zv v x h1 h8 with h9|h9
 .exact .inl h9
 refine .inr ⟨?_,?_⟩
 .have:=h9 _ h6;omega
 have:=h9 _ G;omega
theorem jBldI{ds:List Bool}{ts:List TA}(hds:ds.length=f)(hne:Ms≠[])(h3:Ms.length<=4)(hts:ts.map (·.2)=(jAs f 0 Ms).map λa=>(⟨nz a.1,a.1.length,a.2⟩:Atm)):
  BldI (jN f 0 Ms) f ds (jPm f 0 Ms) ts (vrL (jAs f 0 Ms)) (rwL (jAs f 0 Ms)):=by
 have a3:ts.length=(jAs f 0 Ms).length:=by have:=congrArg List.length hts;simpa using this
 have hn:jN f 0 Ms<=24:=by
  have O:=Jlh (s:=0) h;cases Ms with
  | nil=>exact absurd rfl hne
  | cons M Ms=>
   have:=(h M mC).n6;have:=(h M mC).pm.fn;have h4:(M::Ms).length*(6-f)<=4*(6-f):=nO _ h3;omega
 have hm:=Jwj (s:=0) h;have o:∀ {P:PAt->Prop},(∀ a∈jAs f 0 Ms,P a)->∀ i,i<ts.length->P ((jAs f 0 Ms).getD i pa0):=by grind
 refine⟨⟨om,om,λi hi=>?_,o (P:=λa=>Ql a.1) (Jll h),o (P:=λa=>∀ u∈a.1,u<jN f 0 Ms) (Jcf h),λv hv=>?_,o (P:=λa=>Lt [] a.2) (Jcd h λM G=>(h M G).srt),o (P:=λa=>∀ r∈a.2,r.length=a.1.length) (Xjk h),o (P:=λa=>a.2.length<=65536) (Jcd (P:=λl=>l.length<=65536) h λM G a C=>nL ((h M G).big a C) (by decide))⟩,Jbz h,hds,o (P:=λa=>∀ r∈a.2,∀ u∈r,Xk u=true/\Xb u) (Jcd (P:=λl=>∀ r∈l,∀ u∈r,Xk u=true/\Xb u) h λM G=>(h M G).fit),λkf pf hb v hv=>⟨λl hl hx=>?_,λi hi=>.inl (o (P:=λa=>a.2.length<=1000) (Jcd (P:=λl=>l.length<=1000) h λM G=>(h M G).big) i hi)⟩⟩
 .have O:(ts.map (·.2)).getD i a0=(ts.getD i ta0).2:=by simp[List.getD,hi]
  grind
 .obtain⟨a,C,D⟩:=Qzk h hne hv;obtain⟨i,hi,rfl⟩:=List.getElem_of_mem C;exact⟨i,om,by grind⟩
 rw[a3]at hb hx;obtain⟨J,M,G,Z,a4⟩:=Xyj h hb hne hv;have hU:=h M G;have hr:Jd (M.ats.map (Qn f J)).length (λi=>(rwL (M.ats.map (Qn f J)) i).length)<=5000:=by
  refine nL (Nat.le_of_eq ?_) hU.cnt;rw[List.length_map];refine Uu λi hi=>?_;have:(M.ats.map (Qn f J)).getD i pa0=Qn f J (M.ats.getD i pa0):=by simp[List.getD,hi]
  rw[rwL,this];rfl
 refine nL (Xyk (n:=0) (L:=M.ats.map (Qn f J)) (s:=kf v ||| 2^v) (λa C=>?_) (λx a2=>?_) hl λx a1=>?_) (nL hr om)
 .obtain⟨a',O,rfl⟩:=List.mem_map.1 C;exact Qbp (hU.asc a' O)
 .rcases a4 x a2 with O|O
  .obtain⟨a,C,D⟩:=hU.cov x (by have:=hU.pm.fn;omega);exact⟨_,List.mem_map_of_mem C,List.mem_map.2 ⟨x,D,Jgp O⟩⟩
  obtain⟨a,C,D⟩:=hU.cov (x-J) om;exact⟨_,List.mem_map_of_mem C,List.mem_map.2 ⟨x-J,D,by grind [Jkk]⟩⟩
 obtain⟨z,hz,e,hB⟩:=hx x a1;exact⟨z,e,λa C=>(bagL_iff.1 hB) a (Z a C)⟩
end
def Jvw(n:Nat)(L:List PAt)(z:Row): Prop:=z.length=n/\∀ a∈L,pmR a.1 z∈a.2
theorem ansL_iff{L:List PAt}: Zc n L.length (vrL L) (rwL L) z↔Jvw n L z :=
 and_congr_right λ_=>Qbs (d:=pa0) (P:=λa=>pmR a.1 z∈a.2)
def UAns(f:Nat)(M:UMem)(y:Row): Prop:=∃ z,Jvw M.N M.ats z/\z.take f=y
theorem Qjv(hc:∀ v∈cs,v<N)(h:∀ v,v<N->z.getD (ren f s v) V0=zM.getD v V0): pmR (cs.map (ren f s)) z=pmR cs zM:=by grind [pmR,List.map_map,List.map_congr_left]
theorem jans{f:Nat}: ∀ {s:Nat} {Ms:List UMem} {p:Row},(∀ M∈Ms,UOk f M)->p.length=f+s->((∃ z,Jvw (jN f s Ms) (jAs f s Ms) z/\z.take (f+s)=p)↔∀ M∈Ms,UAns f M (p.take f))
 | s,[],p,_,hp=>⟨λ_ M hM=>(by cases hM),λ_=>⟨p,⟨hp,λa ha=>(by cases ha)⟩,by grind⟩⟩
 | s,M::Ms,p,h,hp=>by
  have hM:=h M mC;have hfN:=hM.pm.fn;have h':∀ m∈Ms,UOk f m:=by grind
  have hge:=Gw (f:=f) (s:=s+(M.N-f)) (Ms:=Ms);constructor
  .rintro⟨z,⟨hz,ha⟩,rfl⟩;rw[jN]at hz;have ih:=(jans (f:=f) (s:=s+(M.N-f)) (Ms:=Ms) (p:=z.take (f+(s+(M.N-f)))) h' (by grind)).1 ⟨z,⟨hz,λa ha'=>ha a (by grind [jAs,List.mem_append_right])⟩,rfl⟩;intro m hm;rw[List.take_take,Nat.min_eq_left om]at ih ⊢;rcases List.mem_cons.1 hm with rfl|hm
   .have hget:∀ v,v<m.N->((List.range m.N).map λv=>z.getD (ren f s v) V0).getD v V0=z.getD (ren f s v) V0:=by grind
    refine⟨(List.range m.N).map λv=>z.getD (ren f s v) V0,⟨by simp,λa ha'=>?_⟩,?_⟩
    .have h1:=ha (Qn f s a) (by grind [jAs,List.mem_append_left,List.mem_map_of_mem]);have h2:pmR (Qn f s a).1 z=pmR a.1 ((List.range m.N).map λv=>z.getD (ren f s v) V0):=Qjv (hM.lt a ha') λv hv=>(hget v hv).symm;rw[h2]at h1;exact h1
    repeat grind [List.ext_getElem,List.length_take,List.length_map,List.length_range,Jgp,Qz,V0]
   exact ih m hm
  intro hA;obtain⟨zM,⟨hzl,hza⟩,hzf⟩:=hA M mC;have hpl:(p++zM.drop f).length=f+(s+(M.N-f)):=by grind
  obtain⟨z,⟨hz,hzA⟩,hzt⟩:=(jans (f:=f) (s:=s+(M.N-f)) (Ms:=Ms) (p:=p++zM.drop f) h' hpl).2 λm hm=>by grind
  have hget:∀ i,i<f+(s+(M.N-f))->z.getD i V0=(p++zM.drop f).getD i V0:=λi hi=>by grind
  refine⟨z,⟨by rw[jN];exact hz,λa ha=>?_⟩,?_⟩
  .rw[jAs,List.mem_append]at ha;rcases ha with ha|ha
   .obtain⟨a',h1,rfl⟩:=List.mem_map.1 ha;have h2:pmR (Qn f s a').1 z=pmR a'.1 zM:=Qjv (hM.lt a' h1) λv hv=>by
     unfold ren;split
     .rename_i hvf;rw[hget v om];have e1:(p++zM.drop f).getD v V0=p.getD v V0:=by grind
      have e2:zM.getD v V0=(zM.take f).getD v V0:=by simp[List.getD,hvf]
      grind
     repeat grind
    rw[h2];exact hza a' h1
   exact hzA a ha
  repeat grind [Nat.min_eq_left,List.take_length]
open Pl Go.Wk
variable {d found:Bool}{l:List (V×Nat)}{ds:List Bool}{U:List Row}{c i j k s v:Nat}{may:Nat->Prop}{p q r y:Row}{a best want:V}
def Gq(s:Nat): Bool:=[false,true,true,false,true,false,false,true].getD s false
def sgP(c:Nat->Nat): Nat->Nat
 | 0=>0
 | i+1=>if Gq (i+1) then sgP c i+c (i+1) else sgP c i
def sgM(c:Nat->Nat): Nat->Nat
 | 0=>0
 | i+1=>if Gq (i+1) then sgM c i else sgM c i+c (i+1)
structure UnP(k f:Nat)(ds:List Bool)(M:Nat->List Row)(U:List Row): Prop where
 k1:1<=k
 k3:k<=3
 ul:Lt ds U
 um:∀ y,y∈U↔∃ i,i<k/\y∈M (2^i)
 ml:∀ s,1<=s->s<2^k->Lt ds (M s)
 mm:∀ s,1<=s->s<2^k->∀ y,y∈M s↔∀ i,i<k->s.testBit i=true->y∈M (2^i)
 len:∀ y∈U,y.length=f
theorem cnt2{P b0 b1:Row->Bool}: ∀ {U:List Row},(∀ y∈U,(b0 y || b1 y)=true)->(U.filter λy=>b0 y && P y).length+(U.filter λy=>b1 y && P y).length=(U.filter P).length+(U.filter λy=>(b0 y && b1 y) && P y).length
 | [],_=>rfl
 | y::U,h=>by
  have ih:=cnt2 (P:=P) (b0:=b0) (b1:=b1) (U:=U) λx hx=>h x (List.mem_cons_of_mem _ hx);grind
theorem cnt3{P b0 b1 b2 : Row → Bool}: ∀ {U : List Row}, (∀ y ∈ U, (b0 y || b1 y || b2 y) = true) → (U.filter fun y => b0 y && P y).length + (U.filter fun y => b1 y && P y).length + (U.filter fun y => b2 y && P y).length + (U.filter fun y => (b0 y && b1 y && b2 y) && P y).length =
      (U.filter P).length + (U.filter fun y => (b0 y && b1 y) && P y).length + (U.filter fun y => (b0 y && b2 y) && P y).length + (U.filter fun y => (b1 y && b2 y) && P y).length
  | [], _ => rfl
  | y :: U, h => by
    have ih := cnt3 (P := P) (b0 := b0) (b1 := b1) (b2 := b2) (U := U) fun x hx => h x (List.mem_cons_of_mem _ hx)
    have h0 := h y mC
    simp only [List.filter_cons]
    grind
theorem Qxl{l:List Row}(h:Lt ds l)(P:Row->Bool): Lt ds (l.filter P):=List.Pairwise.sublist List.filter_sublist h
section
variable {k f:Nat} {ds:List Bool} {M:Nat->List Row} {U:List Row} (h:UnP k f ds M U)
include h
theorem UnP.sub(h1:1<=s)(h2:s<2^k)(hy:y∈M s): y∈U:=by
 obtain⟨i,hi⟩:∃ i,s.testBit i=true:=Nat.exists_testBit_of_ne_zero om;have o:i<k:=by grind [Nat.lt_or_ge,Nat.testBit_lt_two_pow,Nat.lt_of_lt_of_le,Nat.pow_le_pow_right]
 exact(h.um y).2 ⟨i,o,(h.mm s h1 h2 y).1 hy i o hi⟩
theorem UnP.fil(h1:1<=s)(h2:s<2^k){b:Row->Bool}(hb:∀ y,b y=true↔∀ i,i<k->s.testBit i=true->y∈M (2^i))(P:Row->Bool): ((M s).filter P).length=(U.filter λy=>b y && P y).length:=by
 have:M s=U.filter b:=Iy (h.ml s h1 h2) (Qxl h.ul b) λy=>by
  rw[List.mem_filter,hb];exact⟨λo=>⟨h.sub h1 h2 o,(h.mm s h1 h2 y).1 o⟩,λo=>(h.mm s h1 h2 y).2 o.2⟩
 grind [List.filter_filter,List.filter_congr,Bool.and_comm]
theorem UnP.signed(P:Row->Bool): sgP (λs=>((M s).filter P).length) (2^k-1)=(U.filter P).length+sgM (λs=>((M s).filter P).length) (2^k-1):=by
 obtain⟨m,hm⟩:∃ m:Nat->Row->Bool,m=λi y=>decide (y∈M (2^i)):=⟨_,rfl⟩;obtain⟨o,J⟩:∃ o:Nat->Row->Bool,o=λs y=>(List.range k).all λi=>!(s.testBit i) || m i y:=⟨_,rfl⟩;have key:∀ s,1<=s->s<2^k->((M s).filter P).length=(U.filter λy=>o s y && P y).length:=λs u C=>h.fil u C (λy=>by grind) P;have hu:∀ y∈U,∃ i,i<k/\m i y=true:=λy G=>by
  obtain⟨i,hi,u⟩:=(h.um y).1 G;exact⟨i,hi,by rw[hm];simpa using u⟩
 have a2:=h.k1;have a1:=h.k3;clear h hm;obtain rfl|rfl|rfl:k=1∨k=2∨k=3:=om
 .have D:=key 1 (by decide) (by decide);show 0+((M 1).filter P).length=_+0;rw[D,Nat.zero_add,Nat.add_zero];grind [List.filter_congr,Nat.testBit]
 .have D:=key 1 (by decide) (by decide);have e2:=key 2 (by decide) (by decide);have Z:=key 3 (by decide) (by decide);show 0+((M 1).filter P).length+((M 2).filter P).length=_+(0+((M 3).filter P).length);have u:o 1=m 0:=by grind
  have C:o 2=m 1:=by grind
  have O:o 3=λy=>m 0 y && m 1 y:=by grind
  rw[D,e2,Z,u,C,O];have:=cnt2 (P:=P) (b0:=m 0) (b1:=m 1) (U:=U) λy G=>by grind
  grind
 have D:=key 1 (by decide) (by decide);have e2:=key 2 (by decide) (by decide);have Z:=key 3 (by decide) (by decide);have e4:=key 4 (by decide) (by decide);have e5:=key 5 (by decide) (by decide);have e6:=key 6 (by decide) (by decide);have e7:=key 7 (by decide) (by decide);show 0+((M 1).filter P).length+((M 2).filter P).length+((M 4).filter P).length+((M 7).filter P).length=_+(0+((M 3).filter P).length+((M 5).filter P).length+((M 6).filter P).length);have hs:∀ s,o s=λy=>(!(s.testBit 0) || m 0 y) && ((!(s.testBit 1) || m 1 y) && ((!(s.testBit 2) || m 2 y) && true)):=λs=>by subst J;rfl
 have u:o 1=m 0:=by grind
 have C:o 2=m 1:=by grind
 have h4:o 4=m 2:=by grind
 have O:o 3=λy=>m 0 y && m 1 y:=by grind
 have h5:o 5=λy=>m 0 y && m 2 y:=by grind
 have h6:o 6=λy=>m 1 y && m 2 y:=by grind
 have h7:o 7=λy=>m 0 y && m 1 y && m 2 y:=by grind
 rw[D,e2,Z,e4,e5,e6,e7,u,C,O,h4,h5,h6,h7];have:=cnt3 (P:=P) (b0:=m 0) (b1:=m 1) (b2:=m 2) (U:=U) λy G=>by grind
 simp only at this ⊢;omega
end
theorem Qvk{b:V}: Jw (p++[a]) (p++[b]) ds=neg (ds.getD p.length false) (cmpV a b):=by
 have key:∀(p:Row) (ds:List Bool),Jw (p++[a]) (p++[b]) ds=neg (ds.getD p.length false) (cmpV a b):=by
  intro p;induction p with
  | nil=>
   grind [cmpV,Jw,Jhj]
  | cons x p ih=>
   grind [cmpV,Jw,Zr,List.getD]
 exact key p ds
theorem Xkg(h:Lt ds U)(hk:k<U.length): Qq ds U q<=k↔¬ Jw ((U.getD k []).take q.length) q ds<0:=by
 have o:∀ i j,i<=j->j<U.length->Jw ((U.getD i []).take q.length) ((U.getD j []).take q.length) ds<=0:=λi j D J=>by
  refine Qvh _ _ ds _ ?_;rcases Nat.eq_or_lt_of_le D with e|e
  .rw[e,Yj];exact Int.le_refl _
  exact Int.le_of_lt (Qtj h e J)
 have Z:Qq ds U q=Qq ds (U.take (k+1)) q+Qq ds (U.drop (k+1)) q:=by rw[<-Jmp,List.take_append_drop]
 have O:Qq ds U q=Qq ds (U.take k) q+Qq ds (U.drop k) q:=by rw[<-Jmp,List.take_append_drop]
 constructor
 .intro G u;have:Qq ds (U.take (k+1)) q=(U.take (k+1)).length:=Qvc λx C=>by
   obtain⟨i,hi,rfl⟩:=List.getElem_of_mem C;rw[List.length_take]at hi;rw[List.getElem_take,<-Qz [] _ (show i<U.length by omega)];exact(Up ds).le_lt (o i k om hk) u
  grind
 intro G;have:Qq ds (U.drop k) q=0:=Jmn λx C u=>by
  obtain⟨i,hi,rfl⟩:=List.getElem_of_mem C;rw[List.length_drop]at hi;rw[List.getElem_drop,<-Qz [] _ (show k+i<U.length by omega)]at u;exact G ((Up ds).le_lt (o k (k+i) om om) u)
 grind [Qq,Jvg,List.length_take]
theorem Xkf(h:Lt ds U)(hk:k<U.length)(hv:v<(U.getD k []).length): Qq ds U ((U.getD k []).take v++[a])<=k↔neg (ds.getD v false) (cmpV a ((U.getD k []).getD v V0))<=0:=by
 rw[Xkg h hk];have o:((U.getD k []).take v).length=v:=by grind
 have e:(U.getD k []).take ((U.getD k []).take v++[a]).length=(U.getD k []).take v++[(U.getD k []).getD v V0]:=by
  rw[List.length_append,o];exact Qc V0 hv
 grind [Qvk,Jxq]
section
variable {k f:Nat} {ds:List Bool} {M:Nat->List Row} {U:List Row} (h:UnP k f ds M U)
include h
theorem UnP.before(q:Row): sgP (λs=>Qq ds (M s) q) (2^k-1)=Qq ds U q+sgM (λs=>Qq ds (M s) q) (2^k-1):=h.signed _
theorem UnP.total: sgP (λs=>(M s).length) (2^k-1)=U.length+sgM (λs=>(M s).length) (2^k-1):=by
 have:=h.signed λ_=>true;have e:∀ l:List Row,l.filter (λ_=>true)=l:=by grind [List.filter_eq_self.2]
 grind
theorem UnP.has(hr:r.length=f): r∈U↔∃ s,1<=s/\s<2^k/\0<(wiL (M s) r).length:=by
 constructor
 .intro D;obtain⟨i,hi,C⟩:=(h.um r).1 D;refine⟨2^i,Nat.one_le_two_pow,Nat.pow_lt_pow_right om hi,?_⟩;refine List.length_pos_of_mem (a:=r) ?_;grind [wiL,List.take_length]
 rintro⟨s,C,O,J⟩;obtain⟨x,u⟩:=List.exists_mem_of_length_pos J;unfold wiL at u;rw[List.mem_filter,decide_eq_true_eq]at u;have o:=h.sub C O u.1;have G:=h.len x o;grind
end
structure BestP(d:Bool)(want:V)(may:Nat->Prop)(i:Nat)(found:Bool)(best:V): Prop where
 le:found=true->neg d (cmpV best want)<=0
 has:(∃ j,j<i/\may j)->found=true/\best=want
theorem BestP.start(d:Bool)(want:V)(may:Nat->Prop)(best:V): BestP d want may 0 false best:=⟨λh=>(by cases h),λ⟨j,o,_⟩=>absurd o (Nat.not_lt_zero j)⟩
theorem BestP.skip(h:BestP d want may i found best)(hn:¬ may i): BestP d want may (i+1) found best :=
 ⟨h.le,λ⟨j,u,o⟩=>h.has ⟨j,by grind⟩⟩
theorem BestP.take{val:V}(h:BestP d want may i found best)(hv:neg d (cmpV val want)<=0)(hm:may i->val=want)(hf:found=false∨0<neg d (cmpV val best)): BestP d want may (i+1) true val :=
 ⟨λ_=>hv,λ⟨j,u,o⟩=>⟨rfl,by
  rcases Nat.lt_or_ge j i with h2|h2
  .obtain⟨D,C⟩:=h.has ⟨j,h2,o⟩;grind
  repeat grind⟩⟩
theorem BestP.keep{val:V}(h:BestP d want may i true best)(hm:may i->val=want)(hf:neg d (cmpV val best)<=0): BestP d want may (i+1) true best :=
 ⟨h.le,λ⟨j,u,o⟩=>⟨rfl,by
  rcases Nat.lt_or_ge j i with h2|h2
  .exact(h.has ⟨j,h2,o⟩).2
  have:j=i:=om
  subst this;have e:=hm o;rw[e,Jxq]at hf;have C:=h.le rfl;refine(Jql d).zero _ _ ?_;grind⟩⟩
structure LastP(d:Bool)(want:V)(l:List (V×Nat))(c:Nat): Prop where
 le:c<=l.length
 yes:∀ i,i<c->neg d (cmpV (l.getD i (V0,0)).1 want)<=0
 no:∀ i,c<=i->i<l.length->¬ neg d (cmpV (l.getD i (V0,0)).1 want)<=0
theorem LastP.end(h:LastP d want l c)(hs:Uw d l)(hw:want∈l.map (·.1)): 0<c/\(l.getD (c-1) (V0,0)).1=want:=by
 obtain⟨p,hp,e⟩:=List.mem_map.1 hw;obtain⟨i,hi,rfl⟩:=List.getElem_of_mem hp;have G:(l.getD i (V0,0)).1=want:=by grind
 have o:i<c:=by
  rcases Nat.lt_or_ge i c with h1|h1
  .exact h1
  have:=h.no i h1 hi;grind [Zr,Jhj]
 have D:=h.le;rcases Nat.lt_or_ge i (c-1) with h1|h1
 .have C:=h.yes (c-1) om;have u:=List.pairwise_iff_getElem.1 hs i (c-1) hi om h1;grind [Qz,V0,Jxq]
 repeat grind
theorem Qhq(hs:Uw d l)(hij:i<=j)(hj:j<l.length)(h:neg d (cmpV (l.getD j (V0,0)).1 want)<=0): neg d (cmpV (l.getD i (V0,0)).1 want)<=0:=by
 rcases Nat.eq_or_lt_of_le hij with e|e
 .rw[e];exact h
 have o:=List.pairwise_iff_getElem.1 hs i j om hj e;rw[<-Qz (V0,0) l (show i<l.length by omega),<-Qz (V0,0) l hj]at o;exact(Jql d).trans _ _ _ (Int.le_of_lt o) h
open Pl Go.Wk
variable {ds:List Bool}{f i n s:Nat}{y:Row}{α:Type}
def Xg(c:Cse)(ats:List Atm): UMem:=⟨c.N,toN c.pm,(List.range c.m).map λi=>(c.vars i,rsA ats i)⟩
section
variable {c:Cse} {ats:List Atm} (h:CseOk c ats)
include h
theorem CseOk.uok: UOk c.F (Xg c ats):=by
 have o:∀ {P:PAt->Prop},(∀ i,i<c.m->P (c.vars i,rsA ats i))->∀ a∈(Xg c ats).ats,P a:=λhP a Z=>by
  obtain⟨i,hi,rfl⟩:=List.mem_map.1 Z;grind
 refine⟨h.nN.2,?_,o (P:=λa=>Ql a.1) λi hi=>(h.vars hi).2.1,o (P:=λa=>∀ v∈a.1,v<c.N) λi hi=>(h.vars hi).2.2.1,λv J=>?_,o (P:=λa=>Lt [] a.2) λi hi=>(h.set hi).1,o (P:=λa=>∀ r∈a.2,r.length=a.1.length) λi hi=>h.slen hi,
  o (P:=λa=>∀ r∈a.2,∀ u∈r,Xk u=true/\Xb u) λi hi r O u G=>?_,?_,o (P:=λa=>a.2.length<=1000) λi hi=>?_,h.pm.1⟩
 .have:=h.few.v5;grind [Xg,List.length_map,List.length_range,Cse.m]
 .obtain⟨i,hi,D⟩:=h.cov J;exact⟨_,List.mem_map.2 ⟨i,List.mem_range.2 hi,rfl⟩,D⟩
 .have C:=((h.set hi).2 r).1 O;have h1:=((h.mka i hi).ok r C).2;exact⟨List.all_eq_true.1 h1 u G,h.fit i (by rw[<-h.len];exact hi) r C u G⟩
 .have h3:=h.cnt;have h2:Jd c.m (λi=>(rsA ats i).length)<=Jd c.m λi=>(c.crs i).length:=Qjq λi hi=>Jyz (h.set hi);have e:Jd (Xg c ats).ats.length (λi=>(rwL (Xg c ats).ats i).length)=Jd c.m λi=>(rsA ats i).length:=by
   have el:(Xg c ats).ats.length=c.m:=by simp[Xg]
   rw[el];refine Uu λi hi=>?_;simp[rwL,Xg,List.getD,hi]
  rw[e];omega
 have:=Jyz (h.set hi);have h2:=h.few.row i (by rw[<-h.len];exact hi);grind [Cse.crs,rsA]
theorem CseOk.uans: UAns c.F (Xg c ats) y↔y∈c.ans:=by
 rw[h.ans.2 y];have e:∀ z,Jvw (Xg c ats).N (Xg c ats).ats z↔Zc c.N c.m c.vars (rsA ats) z:=λz=>by
  unfold Jvw Zc;refine and_congr_right λ_=>⟨λo i hi=>o _ (List.mem_map.2 ⟨i,List.mem_range.2 hi,rfl⟩),λo a C=>?_⟩;obtain⟨i,hi,rfl⟩:=List.mem_map.1 C;grind
 exact⟨λ⟨z,o,u⟩=>⟨z,(e z).1 o,u⟩,λ⟨z,o,u⟩=>⟨z,(e z).2 o,u⟩⟩
end
def Zt(l:List α)(s i:Nat): List α:=((List.range i).filter λi=>s.testBit i).filterMap λi=>l[i]?
theorem Jgz{l:List α}(hi:i<l.length): Zt l s (i+1)=if s.testBit i=true then Zt l s i++[l[i]] else Zt l s i:=by grind [Zt,List.range_succ,List.filter_cons_of_pos,List.getElem?_eq_getElem,List.filter_cons_of_neg]
theorem Jhb{α:Type}{l:List α}{s:Nat}: ∀ i,i<=l.length->(Zt l s i).Sublist (l.take i)
 | 0,_=>by simp[Zt]
 | i+1,hi=>by
  have ih:=Jhb (l:=l) (s:=s) i om;have hi':i<l.length:=om
  rw[Jgz hi',List.take_add_one,List.getElem?_eq_getElem hi'];grind
def pick(l:List α)(s:Nat): List α:=Zt l s l.length
theorem pick_sub{l:List α}: (pick l s).Sublist l:=by
 have:=Jhb (l:=l) (s:=s) l.length (nR _);rwa [List.take_length]at this
theorem flat_len{a b:List (List α)}(h:a.Sublist b): a.flatten.length<=b.flatten.length:=by
 induction h with
 | slnil=>exact nR _
 | cons x _ ih=>rw[List.flatten_cons,List.length_append];omega
 | cons_cons x _ ih=>rw[List.flatten_cons,List.flatten_cons,List.length_append,List.length_append];omega
theorem pick_mem{l:List α}{x:α}: x∈pick l s↔∃ i,i<l.length/\s.testBit i=true/\l[i]?=some x:=by grind [pick,Zt,List.mem_filter.2,List.mem_range.2]
theorem Qqb{l:List α}(h1:1<=s)(h2:s<2^l.length): pick l s≠[]:=by
 obtain⟨i,hi⟩:∃ i,s.testBit i=true:=Nat.exists_testBit_of_ne_zero om;have o:i<l.length:=by grind [Nat.lt_or_ge,Nat.testBit_lt_two_pow,Nat.lt_of_lt_of_le,Nat.pow_le_pow_right]
 exact List.ne_nil_of_mem (pick_mem.2 ⟨i,o,hi,List.getElem?_eq_getElem o⟩)
theorem Qnv{l:List α}: (pick l s).length<=l.length:=pick_sub.length_le
abbrev CsA:= Cse×List Atm
def CsM(f:Nat)(ds:List Bool)(p:CsA): Prop:=CseOk p.1 p.2/\p.1.F=f/\p.1.ds=ds
structure CsU(gs:List (List CsA))(f:Nat)(ds:List Bool): Prop where
 c1:1<=gs.length
 c3:gs.length<=3
 c4:gs.flatten.length<=4
 ne:∀ g∈gs,g≠[]
 ok:∀ g∈gs,∀ p∈g,CsM f ds p
noncomputable def Qh(ms:List CsA): List Row:=match ms with
 | []=>[]
 | p::ms=>p.1.ans.filter λy=>ms.all λq=>decide (y∈q.1.ans)
theorem Jcv: ∀ {ms:List CsA},ms≠[]->∀ y,y∈Qh ms↔∀ q∈ms,y∈q.1.ans
 | [],h,_=>absurd rfl h
 | p::ms,_,y=>by grind [Qh,List.all_eq_true]
theorem Qvp(p:CsA): Qh [p]=p.1.ans:=List.filter_eq_self.2 λ_ _=>rfl
theorem Qvq{ms:List CsA}(h:∀ p∈ms,CsM f ds p): Lt ds (Qh ms):=by
 cases ms with
 | nil=>exact List.Pairwise.nil
 | cons p ms=>
  obtain⟨u,_,o⟩:=h p mC;have:=u.ans.1;rw[o]at this;exact Qxl this _
theorem Qvr{ms:List CsA}(h:∀ p∈ms,CsM f ds p): (Qh ms).length<=5000:=by
 cases ms with
 | nil=>exact Nat.zero_le _
 | cons p ms=>exact nL (List.length_filter_le _ _) (h p mC).1.anl
theorem Xkq{ms:List CsA}(h:∀ p∈ms,CsM f ds p)(hy:y∈Qh ms): y.length=f:=by
 cases ms with
 | nil=>cases hy
 | cons p ms=>
  obtain⟨u,o,C⟩:=h p mC;rw[u.arow (List.mem_filter.1 hy).1,o]
noncomputable def Yt(ds:List Bool)(gs:List (List CsA)): List Row:=(gs.flatMap Qh).foldl (Zd ds) []
theorem Jvr(ds:List Bool)(gs:List (List CsA)): Zz ds (gs.flatMap Qh) (Yt ds gs):=by
 have:=Jzc (ds:=ds) (gs.flatMap Qh) (done:=[]) (l:=[]) ⟨List.Pairwise.nil,λx=>Iff.rfl⟩;rwa [List.nil_append]at this
theorem pick_flat{gs:List (List CsA)}{p:CsA}: p∈(pick gs s).flatten↔∃ i,∃(hi:i<gs.length),s.testBit i=true/\p∈gs[i]:=by
 rw[List.mem_flatten];constructor
 .rintro⟨g,o,hp⟩;obtain⟨i,hi,ht,e⟩:=pick_mem.1 o;grind
 rintro⟨i,hi,ht,hp⟩;exact⟨_,pick_mem.2 ⟨i,hi,ht,List.getElem?_eq_getElem hi⟩,hp⟩
section
variable {gs:List (List CsA)} {f:Nat} {ds:List Bool} (h:CsU gs f ds)
include h
theorem CsU.pne(h1:1<=s)(h2:s<2^gs.length): (pick gs s).flatten≠[]:=by
 obtain⟨g,o⟩:=List.exists_mem_of_ne_nil _ (Qqb h1 h2);obtain⟨i,hi,ht,e⟩:=pick_mem.1 o;obtain⟨p,hp⟩:=List.exists_mem_of_ne_nil _ (h.ne g (List.mem_of_getElem? e));exact List.ne_nil_of_mem (List.mem_flatten.2 ⟨g,o,hp⟩)
theorem CsU.p4: (pick gs s).flatten.length<=4:=nL (flat_len pick_sub) h.c4
theorem CsU.pok: ∀ p∈(pick gs s).flatten,CsM f ds p:=λp hp=>by
 obtain⟨i,hi,_,o⟩:=pick_flat.1 hp;exact h.ok _ (List.getElem_mem hi) p o
theorem CsU.cmn(h1:1<=s)(h2:s<2^gs.length)(y:Row): y∈Qh (pick gs s).flatten↔∀ i (hi:i<gs.length),s.testBit i=true->y∈Qh gs[i]:=by
 rw[Jcv (h.pne h1 h2)];constructor
 .intro u i hi ht;exact(Jcv (h.ne _ (List.getElem_mem hi)) y).2 λq o=>u q (pick_flat.2 ⟨i,hi,ht,o⟩)
 intro u q o;obtain⟨i,hi,ht,C⟩:=pick_flat.1 o;exact(Jcv (h.ne _ (List.getElem_mem hi)) y).1 (u i hi ht) q C
theorem CsU.one(hi:i<gs.length)(y:Row): y∈Qh (pick gs (2^i)).flatten↔y∈Qh gs[i]:=by
 rw[h.cmn Nat.one_le_two_pow (Nat.pow_lt_pow_right om hi)];grind
theorem CsU.unp: UnP gs.length f ds (λs=>Qh (pick gs s).flatten) (Yt ds gs):=by
 have o:=Jvr ds gs;refine⟨h.c1,h.c3,o.1,λy=>?_,λs O J=>Qvq h.pok,λs O J y=>?_,λy u=>?_⟩
 .rw[o.2 y,List.mem_flatMap];constructor
  .rintro⟨g,D,u⟩;obtain⟨i,hi,rfl⟩:=List.getElem_of_mem D;exact⟨i,hi,(h.one hi y).2 u⟩
  rintro⟨i,hi,u⟩;exact⟨_,List.getElem_mem hi,(h.one hi y).1 u⟩
 .show y∈Qh (pick gs s).flatten↔_;rw[h.cmn O J];exact⟨λG i hi ht=>(h.one hi y).2 (G i hi ht),λG i hi ht=>(h.one hi y).1 (G i hi ht)⟩
 obtain⟨g,D,C⟩:=List.mem_flatMap.1 ((o.2 y).1 u);exact Xkq (h.ok g D) C
end
def Qv(ms:List CsA): List UMem:=ms.map λp=>Xg p.1 p.2
section
variable {ms:List CsA} {f:Nat} {ds:List Bool} (h:∀ p∈ms,CsM f ds p)
include h
theorem Jzz: ∀ M∈Qv ms,UOk f M:=λM o=>by
 obtain⟨p,hp,rfl⟩:=List.mem_map.1 o;obtain⟨C,u,_⟩:=h p hp;rw[<-u];exact C.uok
theorem Xkr(hne:ms≠[])(hn:n=(jAs f 0 (Qv ms)).length): Lt ds (Qh ms)/\(Qh ms).length<=5000/\∀ y,y∈Qh ms↔∃ z,Zc (jN f 0 (Qv ms)) n (vrL (jAs f 0 (Qv ms))) (rwL (jAs f 0 (Qv ms))) z/\z.take f=y:=by
 subst hn;refine⟨Qvq h,Qvr h,λy=>?_⟩
 have O:∀ y:Row,(∀ q∈ms,y∈q.1.ans)↔∀ M∈Qv ms,UAns f M y:=λy=>by
  constructor
  .intro D M Z;obtain⟨p,hp,rfl⟩:=List.mem_map.1 Z;obtain⟨C,u,_⟩:=h p hp;rw[<-u];exact C.uans.2 (D p hp)
  intro D p hp;obtain⟨C,u,_⟩:=h p hp;have:=D _ (List.mem_map_of_mem hp);rw[<-u]at this;exact C.uans.1 this
 rw[Jcv hne,O];constructor
 .intro D;have J:y.length=f:=by
   obtain⟨p,hp⟩:=List.exists_mem_of_ne_nil _ hne;have:=(O y).2 D p hp;obtain⟨C,u,_⟩:=h p hp;rw[C.arow this,u]
  obtain⟨z,G,e⟩:=(jans (s:=0) (p:=y) (Jzz h) om).2 (by grind);exact⟨z,ansL_iff.2 G,e⟩
 rintro⟨z,G,e⟩;have o:=ansL_iff.1 G;have J:y.length=f:=by rw[<-e,List.length_take,o.1];grind [Gw,Qv]
 have:=(jans (s:=0) (p:=y) (Jzz h) om).1 ⟨z,o,e⟩;grind
end
open Pl Go.Wk
variable {k:Nat}{b:Nat->Bool}{y:Row}
def Xe(b:Nat->Bool): Nat->Nat
 | 0=>0
 | i+1=>if b i then Xe b i ||| 2^i else Xe b i
theorem Jjx(b:Nat->Bool): ∀ k j,(Xe b k).testBit j=(decide (j<k) && b j)
 | 0,j=>by simp[Xe]
 | k+1,j=>by
  have ih:=Jjx b k j;grind [Xe]
theorem Qsr(b:Nat->Bool)(k:Nat): Xe b k<2^k:=Nat.lt_pow_two_of_testBit _ λi hi=>by grind [Jjx]
theorem Qss: Xe b k=2^k-1↔∀ i,i<k->b i=true:=by
 constructor
 .intro h i hi;have:=Jjx b k i;grind
 intro h;refine Nat.eq_of_testBit_eq λi=>?_;grind [Jjx,Nat.testBit_two_pow_sub_one]
theorem Qsq: Xe b k=0↔∀ i,i<k->b i=false:=by
 constructor
 .intro h i hi;have:=Jjx b k i;grind
 intro h;refine Nat.eq_of_testBit_eq λi=>?_;grind [Jjx]
noncomputable def Km(gs:List (List CsA))(y:Row)(i:Nat): Bool:=decide (y∈Qh (gs.getD i []))
theorem Xqw{gs:List (List CsA)}(h:∀ i,i<gs.length->b i=Km gs y i): Xe b gs.length=Xe (Km gs y) gs.length:=by
 refine Nat.eq_of_testBit_eq λi=>?_;grind [Jjx]
section
variable {gs gs':List (List CsA)} {f:Nat} {ds:List Bool}
theorem anyL_mem: y∈Yt ds gs↔∃ g∈gs,y∈Qh g:=by rw[(Jvr ds gs).2 y,List.mem_flatMap]
end
open Go.RowKit Pl Go.Wk
attribute [local irreducible] WC WL QX WD WDB WP WN WG WH WM
variable {ds:List Bool}{f:Nat}
def toAtm(a:PAt): Atm:=⟨nz a.1,a.1.length,a.2⟩
def Yb(f:Nat)(ds:List Bool)(M:UMem): Inp:=⟨M.N,f,ds,nz M.perm,M.ats.map toAtm⟩
theorem Xys{l:List Nat}(h:Ql l): Jvq (nz l):=λj h0 o=>by
 rw[Je]at o;rw[Jkt om,Jkt o];have:=List.pairwise_iff_getElem.1 h (j-1) j om o om;grind
theorem Qvw{Ms:List UMem}(h:∀ M∈Ms,UOk f M)(hds:ds.length=f)(hne:Ms≠[])(h4:Ms.length<=4): jN f 0 Ms<=24/\Jqm (Yb f ds (Qa f Ms)):=by
 have hp:=Jbz h;have a1:=hp.fn;have hn:jN f 0 Ms<=24:=by
  have h1:=Jlh (s:=0) h;cases Ms with
  | nil=>exact absurd rfl hne
  | cons M Ms=>
   have:=(h M mC).n6;have:=(h M mC).pm.fn;have h4:(M::Ms).length*(6-f)<=4*(6-f):=nO _ h4;omega
 have hm:=Jwj (s:=0) h;have D:∀ {v:Int},v∈nz (jPm f 0 Ms)->∃ u,u∈jPm f 0 Ms/\v=(u:Int):=λo=>by
  obtain⟨u,C,rfl⟩:=List.mem_map.1 o;exact⟨u,C,rfl⟩
 refine⟨hn,?_,?_,?_,?_,?_,?_,λv o=>?_,?_,?_,?_,?_,λa ha=>?_,λv o=>?_⟩
 .show(0:Int)<=(jN f 0 Ms:Nat);omega
 .show((jN f 0 Ms:Nat):Int)<=32;omega
 .show(0:Int)<=(f:Int);omega
 .show(f:Int)<=(jN f 0 Ms:Nat);omega
 .show((ds.length:Nat):Int)=f;omega
 .show(((nz (jPm f 0 Ms)).length:Nat):Int)=(jN f 0 Ms:Nat)-(f:Int);rw[Je,hp.len];omega
 .obtain⟨u,C,rfl⟩:=D o;have:=hp.rng u C;show(f:Int)<=u/\(u:Int)<(jN f 0 Ms:Nat);omega
 .show(nz (jPm f 0 Ms)).Nodup;unfold nz List.Nodup;rw[List.pairwise_map];exact hp.nd.imp λZ e=>Z om
 .show(0:Int)<=(jN f 0 Ms:Nat);omega
 .show((jN f 0 Ms:Nat):Int)<=32;omega
 .show((jAs f 0 Ms).map toAtm).length<=32;grind
 .obtain⟨a',G,rfl⟩:=List.mem_map.1 ha;refine⟨Xys (Jll h a' G),λv o=>?_,Je _⟩;obtain⟨u,C,rfl⟩:=List.mem_map.1 o;have:=Jcf h a' G u C;show(0:Int)<=u/\(u:Int)<(jN f 0 Ms:Nat);omega
 have O:v<jN f 0 Ms:=by
  have:(v:Int)<(jN f 0 Ms:Nat):=o;omega
 obtain⟨a,ha,J⟩:=Qzk h hne O;exact⟨toAtm a,List.mem_map_of_mem ha,List.mem_map_of_mem (f:=fun (c:Nat)=>(c:Int)) J⟩
theorem Xqf{w:World}{v:Value}{M:UMem}(h:InV w v (Yb f ds M))(hds:ds.length=f): ∃ ts:List TA,ts.map (·.2)=M.ats.map toAtm/\BldV w v M.N f ds M.perm ts:=by
 obtain⟨_,rfl,vd,Z,va,rfl,⟨D,O,rfl,h1,_,J⟩,⟨Q,pc,rfl,h3,_,h4⟩,ts,A,c,G,rfl,C,_,u,o⟩:=h;refine⟨ts,G.symm,D,O,Q,pc,A,c,?_,?_,J,?_,?_,u,C,o⟩;repeat grind [Yb,Je]
end Go.Proofs.YtbcdghbonlifdaaGreatDoor
namespace Go.Wk
theorem dneb{P:Program}{n d ty:Nat}{al:AL}{w:World}{ops:Array Oper}{Q:Exit->Act->World->Prop}{drest:List (Nat×Oper)}{pos:String}{aft:Array Edge}{tt:TT}[h:Tab P tt]{t t2:TypeId}{k:TK}{x y:Operand}{p q:Bool}(kk:WD P n ops Q drest ((d,.bool (!(p == q)))::al) w)(ht:tk tt t=some k:=by rfl)(hk:k.desc=.bool:=by rfl)(hx:ev al x=some (.bool p):=by rfl)(hy:ev al y=some (.bool q):=by rfl)(hd:Nat.blt d n=true:=by rfl):
  WD P n ops Q ((0,⟨some d,.binOp .neq t x y t2,ty,pos,aft,none⟩)::drest) al w:=dy (λw' _ a o=>Qlf h.ok ht hk o hx hy (some d) w') hd kk
end Go.Wk
namespace Go.Proofs.YtbcdghbonlifdaaGreatDoor
open Go.RowKit Pl Go.Wk
attribute [local irreducible] WC WL QX WD WDB WP
variable {w:World}
theorem Qrl(s:Nat)(h:s<8): Ret Tryz.prog 134 [.int .u64 (s:Int)] w λu w'=>w'=w/\u=.int .i64 (([0,1,1,2,1,2,2,3].getD s 0:Nat):Int):=by
 obtain rfl|rfl|rfl|rfl|rfl|rfl|rfl|rfl:s=0∨s=1∨s=2∨s=3∨s=4∨s=5∨s=6∨s=7:=om
 all_goals
  refine Jz Tryz.func134 Tryz.ntmps134 rfl kr rfl ?_;iterate 6
   refine ρ ?_;refine Ye rfl rfl (by decide) rfl ?_
  refine ρ ?_;refine Jj ⟨rfl,?_⟩;kernel_rfl
theorem Qrk(s:Nat)(h:s<8): Ret Tryz.prog 94 [.int .u64 (s:Int)] w λu w'=>w'=w/\u=.int .i64 (([0,1,1,2,1,2,2,3].getD s 0:Nat):Int):=by
 refine Jz Tryz.func94 Tryz.ntmps94 rfl kr rfl ?_;refine ρ ?_;refine cl (Qrl s h) ?_;rintro u w' ⟨rfl,rfl⟩;refine ρ ?_;exact Jj ⟨rfl,rfl⟩
theorem Jmd{A B:Option Addr}{c d:Nat}{us vs:List Bool}(hA:RdB w A us)(hB:RdB w B vs)(hm:us.length<=1100000):
  Ret Tryz.prog 26 [.slice A us.length c,.slice B vs.length d] w λu w'=>u=.bool (decide (us=vs))/\Ext w w':=by
 refine Jz Tryz.func26 Tryz.ntmps26 rfl kr rfl ?_;refine ρ ?_;refine ci (λh=>?_) (λh=>?_)
 .have D:us.length≠vs.length:=by have:=Uf h;omega
  refine ρ ?_;exact Jj ⟨by rw[decide_eq_false λe=>D (by rw[e])],Ext.refl _⟩
 have hl:us.length=vs.length:=by have:=Gj h;omega
 clear h;refine ρ ?_;refine Qf (fun (k:Nat)=>[(0,.slice A us.length c),(1,.slice B vs.length d),(12,.int .i64 (us.length:Int)),(13,.int .i64 (k:Int))])
  (λk w'=>k<=us.length/\Ext w w'/\∀ j,j<k->us.getD j false=vs.getD j false) (λk=>us.length-k) 0 sB
  ⟨Nat.zero_le _,Ext.refl _,λj hj=>absurd hj (Nat.not_lt_zero j)⟩ ?_
 rintro k G ⟨hk,o,hj⟩;refine ρ ?_;refine ci (λh=>?_) (λh=>?_)
 .have lk:k<us.length:=by have:=oT h;omega
  clear h;refine ρ ?_;refine dr [(0,0),(0,1),(0,2),(0,3),(0,4),(0,5),(0,6),(0,7),(0,8)] kr ?_;have C:Ext G G.drew:=(Ext.refl G).drew;have Z:RdB G.drew A us:=Rd.ext hA (o.trans C);have O:RdB G.drew B vs:=Rd.ext hB (o.trans C);refine ρd ?_;refine dix k Z lk ?_;refine ρd ?_;refine dld (RdB.cell Z lk) ?_;refine ρd ?_;have J:k<vs.length:=om
  refine dix k O J ?_;refine ρd ?_;refine dld (RdB.cell O J) ?_;refine ρd ?_;refine dneb ?_;refine ρd ?_;refine ρ ?_;refine ci (λh=>?_) (λh=>?_)
  .have D:us.getD k false≠vs.getD k false:=λe=>by rw[e]at h;simp at h
   refine ρ ?_;refine Jj ⟨?_,o.trans C⟩;rw[decide_eq_false λe=>D (by rw[e])]
  have he:us.getD k false=vs.getD k false:=by simpa using h
  clear h;refine ρ ?_;refine Qw (k+1) sO ⟨lk,o.trans C,λj a2=>?_⟩ om;grind
 have a1:k=us.length:=by grind
 refine ρ ?_;refine Jj ⟨?_,o⟩;grind [List.ext_getElem,Qz]
open Go.RowKit Pl Go.Wk
def tt4: TT:=(29,{ desc:=.slice 77,esz:=5 })::(23,{ desc:=.slice 42,esz:=5 })::(33,{ desc:=.invalid,size:=5,offs:=[0,1,2,3,4] })::tt
theorem Jrp: TOk Tryz.prog tt4:=⟨⟨kr,kr,kr⟩,⟨kr,kr,kr⟩,⟨_,Tryz.underlying33,kr,kr⟩,Ij⟩
instance (priority:=5000):Tab Tryz.prog tt4:=⟨Jrp,mixed⟩
theorem Jtz{w:World}{A:Option Addr}{c f s:Nat}{vs:List Nat}(hV:Rd w 1 A vs.length (Jp (nz vs)))(hl:vs.length<=1000)(hb:∀ v∈vs,v<=1000)(hf:f<=1000)(hs:s<=1000):
  Ret Tryz.prog 61 [.slice A vs.length c,.int .i64 (f:Int),.int .i64 (s:Int)] w λu w'=>∃ B,u=.slice B vs.length vs.length/\w'.ownsRow w.heap.size 3 1 u vs.length (Jp (nz (vs.map (ren f s))))/\Ext w w':=by
 refine Jz Tryz.func61 Tryz.ntmps61 rfl kr rfl ?_;refine ρ ?_;refine mkn EI vs.length om (by unfold maxLen;omega) ?_;intro w1 B O G a5;have e0:(madeCells (Value.int .i64 0).cells (vs.length*1)).toList=List.replicate vs.length (.int .i64 0):=by rw[Nat.mul_one];exact Ul _ _
 rw[e0]at G;refine ρ ?_;refine Jt (fun (k:Nat) (_:List Value)=>[(0,.slice A vs.length c),(1,.int .i64 (f:Int)),(2,.int .i64 (s:Int)),(7,.slice B vs.length vs.length),(13,.slice A vs.length c),(14,.int .i64 (vs.length:Int)),(15,.int .i64 (k:Int))])
  (λk D w'=>k<=vs.length/\D.length=vs.length/\(∀ j,j<k->D[j]?=some (.int .i64 ((ren f s (vs.getD j 0):Nat):Int)))/\w'.ownsRow w.heap.size 3 1 (.slice B vs.length vs.length) vs.length D/\Ext w w') (λk _=>vs.length-k) 0 (List.replicate vs.length (.int .i64 0)) sB
  ⟨Nat.zero_le _,by simp,λj hj=>absurd hj (Nat.not_lt_zero j),G,O⟩ ?_
 rintro k D w2 ⟨hk,J,a1,C,o⟩;refine ρ ?_;refine ci (λh=>?_) (λh=>?_)
 .have lk:k<vs.length:=by have:=oT h;omega
  clear h;have a2:=hb _ (getD_mem' 0 vs lk);refine ρ ?_;refine ix k (hV.ext o) lk ?_;refine ρ ?_;refine ld ((hV.ext o).cell (Xt lk)) ?_;refine ρ ?_;refine Zw (fun (z:Nat)=>[(0,.slice A vs.length c),(1,.int .i64 (f:Int)),(2,.int .i64 (s:Int)),(7,.slice B vs.length vs.length),(8,.int .i64 (k:Int)),(9,.int .i64 (z:Int)),(13,.slice A vs.length c),(14,.int .i64 (vs.length:Int)),(15,.int .i64 (k:Int))])
   (λz w'=>w'=w2/\z=ren f s (vs.getD k 0)) ?_ ?_
  .refine ci (λh=>?_) (λh=>?_)
   .have a4:f<=vs.getD k 0:=by have:=oT h;omega
    refine ρ ?_;exact Jb (vs.getD k 0+s) sO ⟨rfl,by rw[ren,if_neg om]⟩
   have Z:vs.getD k 0<f:=by have:=oF h;omega
   refine ρ ?_;exact Jb (vs.getD k 0) sB ⟨rfl,by rw[ren,if_pos Z]⟩
  rintro z w3 ⟨rfl,rfl⟩;obtain⟨s1,s2,s3,s4,s5⟩:=Za C (q:=k) om (.int .i64 ((ren f s (vs.getD k 0):Nat):Int));have hv:D[k]?=some (D.getD k (.int .i64 0)):=by grind
  refine ρ ?_;refine ix k (Rd.own C) lk ?_;refine ρ ?_;refine sto (s1.trans hv) s2 ?_;refine ρ ?_;refine Jf (k+1) (D.set k (.int .i64 ((ren f s (vs.getD k 0):Nat):Int))) sO ⟨lk,by simp[J],λj hj=>?_,s3,Qg o s5 λg hg=>?_⟩ om;repeat grind [List.getElem?_set_self,List.getElem?_set_ne,Jy]
 have a3:k=vs.length:=by grind
 have e:D=Jp (nz (vs.map (ren f s))):=by
  refine List.ext_getElem? λj=>?_;grind [Nat.lt_or_ge,Jp,nz,List.getD,List.getElem?_eq_none]
 rw[e]at C;refine ρ ?_;exact Jj ⟨B,rfl,C,o⟩
open Go.RowKit Pl Go.Wk
variable {mc n:Nat}
theorem Qqn: ∀ s,s<8->((([0,1,1,2,1,2,2,3].getD s 0:Nat):Int).tmod 2 == 1)=Gq s:=by decide
theorem Jyx{c:Nat->Nat}{B:Nat}(h:∀ i,c i<=B): ∀ n,sgP c n+sgM c n<=n*B
 | 0=>by simp[sgP,sgM]
 | n+1=>by
  have ih:=Jyx h n;have:=h (n+1);rw[sgP,sgM,Nat.succ_mul];split<;>omega
theorem Jqd(h:n<4294967296): (Jq n).length<=1000:=by
 rcases Nat.eq_zero_or_pos n with rfl|h0
 .rw[limbs_0];exact Nat.zero_le _
 repeat grind [Qtm,Nat.le_of_ble_eq_true]
theorem Jfm{w:World}{fid:FuncId}{cap:List Value}{MA:Option Addr}{xc:Nat->List Value}{c:Nat->Nat}{S:Nat->Prop}{I:Nat->World->Prop}(hx5:∀ i,i<n->∃ A B C D E a b c' d e a' b' c2 d' e',xc i=[.slice A a a',.slice B b b',.slice C c' c2,.slice D d d',.slice E e e'])(hn:n<=7)(hS:∀ k,S k->k<w.heap.size)(hR:Off S w λW=>Rd W 5 MA n (Qk n xc))(hcb:∀ i,c i<=1000000)(hI0:I 0 w)(hIx:∀ i W W',I i W->Ext W W'->I i W')(hc:∀ i,i<n->∀ W,GrN S w W->I i W->Ret Tryz.prog fid (.agg (xc i).toArray::cap) W λu W'=>NatX S W' u (c (i+1))/\GrN S W W'/\I (i+1) W'):
  Ret Tryz.prog 55 [.func (.func fid) #[] cap.toArray,.slice MA n mc] w λu w'=>NatV w' u (sgP c n-sgM c n)/\Fresh w u/\GrN S w w'/\I n w':=by
 have a2:∀ i,i<n->(xc i).length=5:=λi hi=>by obtain⟨A,B,C,D,E,a,b,c',d,e,a',b',c2,d',e',h⟩:=hx5 i hi;rw[h];rfl
 refine Jz Tryz.func55 Tryz.ntmps55 rfl kr rfl ?_;refine ρ ?_;refine Xm (fun (i:Nat) (p m:Value)=>[(0,.func (.func fid) #[] cap.toArray),(5,p),(6,m),(11,.slice MA n mc),(12,.int .i64 (n:Int)),(13,.int .i64 (i:Int))])
  (λi p m w'=>i<=n/\GrN S w w'/\NatX S w' p (sgP c i)/\NatX S w' m (sgM c i)/\I i w') (λi _ _=>n-i) 0 (.slice none 0 0) (.slice none 0 0) sB
  ⟨Nat.zero_le _,GrN.refl _ _,NatX.nil w,NatX.nil w,hI0⟩ ?_
 rintro i p m w1 ⟨hi,a1,hp,hm,hI⟩;refine ρ ?_;refine ci (λh=>?_) (λh=>?_)
 .have li:i<n:=by have:=oT h;omega
  clear h;have a9:=hR w1 a1;obtain⟨A,B,C,D,E,a,b,c',d,e,a',b',c2,d',e',a6⟩:=hx5 i li;have ab:=Jyx hcb i;have a7:i*1000000<=7000000:=om
  refine ρ ?_;refine ixq 5 i a9 li ?_;refine ρ ?_;refine lds (cs:=[.slice A a a',.slice B b b',.slice C c' c2,.slice D d d',.slice E e e']) (λj u hu=>?_) ?_
  .rw[<-a6]at hu;have hj:j<5:=by
    rcases Nat.lt_or_ge j 5 with h'|h'
    .exact h'
    rw[List.getElem?_eq_none (by rw[a2 i li];omega)]at hu;cases hu
   rw[Qo];exact Rd.cell a9 (by rw[Vh a2 li hj];exact hu)
  refine ρ ?_;refine alc Gl ?_;intro w2 bb O ah aj;refine ρ ?_;refine stb (cs':=[.slice A a a',.slice B b b',.slice C c' c2,.slice D d d',.slice E e e']) aj ?_ Qqm;intro w3 a3 Z aa;have o:Ext w1 w3:=aa w1 O ah;have a4:i+1<8:=om
  refine ρ ?_;refine Go.Wk.kv 20 (show Value.int .u64 (IntKind.u64.wrap ((i:Int)+1))=.int .u64 ((i+1:Nat):Int) by rw[Gm om];congr 1) ?_;refine cl (Qrk (i+1) a4) ?_;rintro u w4 ⟨ew,rfl⟩;obtain rfl:=ew.symm;refine ρ ?_;refine wrem rfl rfl (by decide) rfl ?_;refine ρ ?_;have Z:GrN S w w3:=a1.trans (GrN.ext o);have ai:=hIx i _ _ hI o;have J:=hc i li w3 Z ai;rw[a6]at J;have a8:∀ {W:World},GrN S w W->∀ k,S k->k<W.heap.size:=λhg k hk=>nM (hS k hk) hg.size;have am:=hcb (i+1);refine ci (λh=>?_) (λh=>?_)
  .have ho:Gq (i+1)=true:=(Qqn (i+1) a4).symm.trans h;refine ρ ?_;refine ldW a3 ?_;refine ρ ?_;refine clv J ?_;rintro u w4 ⟨hu,G,a5⟩;have ac:=(hp.ext o).gr G;refine ρ ?_;refine cl (Jjt ac.1 hu.1 (Jqd om) (Jqd om)) ?_;rintro v w5 ⟨hv,hf,hx5⟩;refine ρ ?_;refine Qp (i+1) v m sO ⟨li,(Z.trans G).trans (GrN.ext hx5),?_,?_,hIx _ _ _ a5 hx5⟩ om
   .rw[sgP,if_pos ho];exact hf.x hv (a8 (Z.trans G))
   rw[sgM,if_pos ho];exact((hm.ext o).gr G).ext hx5
  have ho:Gq (i+1)=false:=(Qqn (i+1) a4).symm.trans h;refine ρ ?_;refine ldW a3 ?_;refine ρ ?_;refine clv J ?_;rintro u w4 ⟨hu,G,a5⟩;have ae:=(hm.ext o).gr G;refine ρ ?_;refine cl (Jjt ae.1 hu.1 (Jqd om) (Jqd om)) ?_;rintro v w5 ⟨hv,hf,hx5⟩;refine ρ ?_;refine Qp (i+1) p v sO ⟨li,(Z.trans G).trans (GrN.ext hx5),?_,?_,hIx _ _ _ a5 hx5⟩ om
  .rw[sgP,ho];exact((hp.ext o).gr G).ext hx5
  rw[sgM,ho];exact hf.x hv (a8 (Z.trans G))
 have af:i=n:=by have:=oF h;omega
 subst af;have ab:=Jyx hcb i;have a7:i*1000000<=7000000:=om
 refine ρ ?_;refine cl (Qsh hp.1 hm.1 (Jqd om)) ?_;rintro u w2 ⟨⟨v,rfl,hv,hf⟩,O⟩;have ag:Fresh w v:=λad n c e=>nL a1.size (hf ad n c e);refine ρ ?_;refine ci (λh=>?_) (λh=>?_)
 .have ak:sgP c i<sgM c i:=by
   rcases Nat.lt_or_ge (sgP c i) (sgM c i) with h1|h1
   .exact h1
   rw[if_neg om]at h;exact absurd h (by decide)
  refine ρ ?_;refine Jj ⟨?_,?_,a1.trans (GrN.ext O),hIx _ _ _ hI O⟩;rotate_left
  .intro ad n c e;cases e
  rw[show sgP c i-sgM c i=0 by omega];exact NatV.nil _
 refine ρ ?_;exact Jj ⟨hv,ag,a1.trans (GrN.ext O),hIx _ _ _ hI O⟩
open Go.RowKit Pl Go.Wk
variable {cs:List Value}{b b3 b6 f qc t:Nat}{QA:Option Addr}{q:Row}{c u v x:Value}{w:World}
theorem Xwc(hc:∀ x,c≠.int .u32 x)(hb:Blk w b t [c]){ad:Addr}(he:ad.block=b)(hu:w.cell? ad=some u): ∀ x,u≠.int .u32 x:=by
 intro x e;subst e;obtain⟨C,off,o⟩:=ad;simp only at he;subst he;unfold Blk at hb;simp[World.cell?,hb]at hu;grind
theorem NatV.off{n:Nat}(h:NatV w v n)(hc:∀ x,c≠.int .u32 x)(hb:Blk w b t [c]): NatX (λk=>k=b) w v n:=⟨h,λh0 O m k e G=>by
 obtain⟨A,J,o,_,_,C⟩:=h;rw[e]at o;injection o with e3 e4 e5
 subst e3;have hp:=limbs_pos' h0;have D:=C.cell (k:=0) (u:=.int .u32 ((Jq n).getD 0 0).toNat) (by grind [Jq,Nc]);grind [Xwc,adr,Ya]⟩
theorem Xyc{ds:List Bool}{kf:Nat->Nat}{pf:Nat->Int}{BB:Nat->List BkT}{tot:Nat}{L:List Row}(h:IxA w x f ds kf pf BB tot L)(hB3:Blk w b3 46 [.slice QA q.length qc])(hB6:Blk w b6 3 [.int .i64 (t:Int)])(hne:b3≠b6)(hq:RdR w QA q)(hqc:q.length<=qc)(hqf:q.length<=f)(ht:t+Qy f (λv=>hmB (BB v))<=1000000000):
  Ret Tryz.prog 162 [x,.pointer (some ⟨b3,0,none⟩),.pointer (some ⟨b6,0,none⟩)] w λu w'=>NatX (λk=>k=b6) w' u (Qq ds L q)/\GrN (λk=>k=b6) w w'/\∃ st:Nat,st<=Qy f (λv=>hmB (BB v))/\Blk w' b6 3 [.int .i64 ((t+st:Nat):Int)]:=by
 obtain⟨B0,tb⟩:=h.tb;have ix:=h.ix;obtain⟨DA,dc,BA,cb,KA,ck,a6,cp,tv,a4,a3,rfl,_⟩:=id ix.ex;refine Jz Tryz.func162 Tryz.ntmps162 rfl kr rfl ?_;refine ρ ?_;refine bx ?_;intro w1 b o hb a2;refine ρ ?_;refine ldW a2 ?_;refine ρ ?_;refine ld ((hB3.ext o).at (i:=0) rfl) ?_;refine ρ ?_;refine cl (Qlz (tb.ext o) (h.ext o) (Rd.ext hq o) hqc) ?_;rintro u w2 ⟨D,_,O⟩;obtain⟨lv,hv,st,rfl,Z,_,J⟩:=O hqf;have C:=(hB6.ext o).ext D;refine ρ ?_;refine ld (C.at (i:=0) rfl) ?_;refine ρ ?_;refine Vb C ?_ rfl;intro w3 G a1 a5;refine ρ ?_;have hg:GrN (λk=>k=b6) w2 w3:=GrN.by a1 λj hj=>by injection hj with hj;exact hj.symm
 refine Jj ⟨(Z.off (λx e=>by cases e) C).gr hg,(GrN.ext (o.trans D)).trans hg,st,J,?_⟩;rw[show((t+st:Nat):Int)=(t:Int)+(st:Int) by omega];exact G
structure UD where
 k: Nat
 f:Nat
 ds:List Bool
 M:Nat->List Row
 U:List Row
 xc:Nat->List Value
 kf:Nat->Nat->Nat
 pf:Nat->Nat->Int
 BB:Nat->Nat->List BkT
 tot:Nat->Nat
 Hm:Nat
protected def UD.n(D:UD): Nat:=2^D.k-1
structure UnV(w:World)(D:UD)(cs:List Value): Prop where
 ex:∃ DA dc MA mc SA sl sc,cs=[.int .i64 (D.k:Int),.int .i64 (D.f:Int),.slice DA D.f dc,.slice MA D.n mc,.slice SA sl sc]/\D.f<=dc/\D.ds.length=D.f/\RdB w DA D.ds/\Rd w 5 MA D.n (Qk D.n D.xc)/\NatV w (.slice SA sl sc) D.U.length
 ix:∀ i,i<D.n->IxA w (.agg (D.xc i).toArray) D.f D.ds (D.kf i) (D.pf i) (D.BB i) (D.tot i) (D.M (i+1))
 up:UnP D.k D.f D.ds D.M D.U
 hm:∀ i,i<D.n->Qy D.f (λv=>hmB (D.BB i v))<=D.Hm
 hl:D.Hm<=10000000
 ml:∀ s,(D.M s).length<=5000
theorem UnV.ext{w w':World}{D:UD}{cs:List Value}(h:UnV w D cs)(hx:Ext w w'): UnV w' D cs:=by
 obtain⟨DA,dc,MA,C,SA,o,u,h1,h2,Z,O,J,G⟩:=h.ex;exact⟨⟨DA,dc,MA,C,SA,o,u,h1,h2,Z,Rd.ext O hx,J.ext hx,G.ext hx⟩,λi hi=>(h.ix i hi).ext hx,h.up,h.hm,h.hl,h.ml⟩
theorem UnV.n7{D:UD}(h:UnV w D cs): D.n<=7:=by
 have o:=h.up.k3;have:2^D.k<=2^3:=Nat.pow_le_pow_right om o;unfold UD.n;omega
theorem UnV.x5{D:UD}(h:UnV w D cs): ∀ i,i<D.n->∃ A B C D' E a b c' d e a' b' c2 d' e',D.xc i=[.slice A a a',.slice B b b',.slice C c' c2,.slice D' d d',.slice E e e']:=λi hi=>by
 obtain⟨DA,dc,BA,cb,KA,ck,J,cp,O,G,u,e,_,_,_,_,_,_,o,_⟩:=(h.ix i hi).ix.ex;obtain⟨TA,Z,rfl,_⟩:=o;grind
theorem Jnx: Qm Tryz.prog 3=some (.int .i64 0):=kr
theorem Qfp{D:UD}(hV:UnV w D cs)(hq:RdR w QA q)(hqc:q.length<=qc)(hqf:q.length<=D.f):
  Ret Tryz.prog 132 [.agg cs.toArray,.slice QA q.length qc] w λu w'=>∃(nv:Value) (st:Nat),u=.tuple #[nv,.int .i64 (st:Int)]/\NatV w' nv (Qq D.ds D.U q)/\st<=D.n*D.Hm/\Ext w w':=by
 have n7:=hV.n7;obtain⟨DA,dc,MA,mc,SA,sl,sc,rfl,h2,h3,h4,h5,h6⟩:=id hV.ex;refine Jz Tryz.func132 Tryz.ntmps132 rfl kr rfl ?_;refine ρ ?_;refine bx ?_;intro w1 b2 a2 ao af;refine ρ ?_;refine bx ?_;intro w2 b3 O an a6;refine ρ ?_;refine alc Jnx ?_;intro w3 b6 a8 ac ae;refine ρ ?_;refine Vb ae ?_ rfl;intro w4 G ak a7;refine ρ ?_;have o:Ext w2 w4:=a7 w2 a8 ac;have C:=(a2.trans O).trans o;have l6:=G.lt;have l3:=a6.lt;have ai:=a2.size;have ah:=O.size;have ag:=o.size;refine ld (((af.ext O).ext o).at (i:=3) rfl) ?_;refine ρ ?_;have a5:=a6.ext o;have Z:b3≠b6:=om
 have ap:D.n*D.Hm<=7*10000000:=Nat.mul_le_mul n7 hV.hl;refine cl (Jfm (S:=λk=>k=b6) (I:=λi W=>∃ t:Nat,t<=i*D.Hm/\Blk W b6 3 [.int .i64 (t:Int)]) (c:=λs=>Qq D.ds (D.M s) q) (cap:=[.pointer (some ⟨b3,0,none⟩),.pointer (some ⟨b6,0,none⟩)]) hV.x5 n7 (λk hk=>by rw[hk];exact l6)
  (Ic (h5.ext C) λh0 ad e he=>?_) (λi=>?_) ⟨0,Nat.zero_le _,G⟩ (λi W W' ⟨t,h1,h2⟩ hx=>⟨t,h1,h2.ext hx⟩) (λi hi W hg ⟨t,h1,h2⟩=>?_)) ?_
 .obtain⟨aq,e',aj⟩:=h5.2 h0;grind
 .have:=Jvg D.ds (D.M i) q;have:=hV.ml i;omega
 .have a1:Ext w W:=hg.old C λk hk=>by omega
  have hh:=hV.hm i hi;have a9:(i+1)*D.Hm<=D.n*D.Hm:=nO _ om;rw[Nat.succ_mul]at a9;refine(Xyc ((hV.ix i hi).ext a1) (Jv a5 hg Z) h2 Z (Rd.ext hq a1) hqc hqf om).mono ?_;rintro u W' ⟨g1,g2,st,g3,g4⟩;exact⟨g1,g2,t+st,by rw[Nat.succ_mul];omega,g4⟩
 rintro u w5 ⟨hu,am,aa,t,ht,a4⟩;have a3:Ext w w5:=aa.old C λk hk=>by omega
 have J:Ext w5 w5.drew:=(Ext.refl w5).drew;refine ρ ?_;refine dr [(0,0),(0,1),(0,2),(0,3)] kr ?_;refine ρd ?_;refine dld ((a4.ext J).at (i:=0) rfl) ?_;refine ρd ?_;refine ρ ?_;refine Vo ⟨u,t,rfl,?_,ht,a3.trans J⟩;have ab:=hV.up.before q;have:sgP (λs=>Qq D.ds (D.M s) q) D.n-sgM (λs=>Qq D.ds (D.M s) q) D.n=Qq D.ds D.U q:=by
  rw[show D.n=2^D.k-1 from rfl,ab];omega
 rw[this]at hu;exact hu.ext J
open Go.RowKit Pl Go.Wk
attribute [local irreducible] WN WG
variable {d:Bool}{N:Nat->Prop}{t:Tr}{p:Value}{w:World}
structure AtB(w:World)(bS bK bV bR:Nat)(sv kc:Value)(v:V): Prop where
 sb:Blk w bS 31 [sv]
 kb:Blk w bK 3 [kc]
 vb:Blk w bV 118 v.cells
 rb:Blk w bR 118 V0.cells
theorem AtB.ext{w w':World}{bS bK bV bR:Nat}{sv kc:Value}{v:V}(h:AtB w bS bK bV bR sv kc v)(hx:Ext w w'): AtB w' bS bK bV bR sv kc v:=⟨h.sb.ext hx,h.kb.ext hx,h.vb.ext hx,h.rb.ext hx⟩
def eAt(t:Tr)(k:Nat): V:=(t.toL.getD k (V0,0)).1
def AtJ(bS bK bV bR k:Nat)(t s:Tr)(w:World): Prop:=∃(sv:Value) (j:Nat) (v:V),AtB w bS bK bV bR sv (.int .i64 (j:Int)) v/\(∃ A n c,sv=.slice A n c)/\j<s.sz/\s.sz<=1000000/\eAt s j=eAt t k/\Nb s.sum
def AtD(bS bK bV bR k:Nat)(t:Tr)(w:World): Prop:=∃(sv kc:Value),AtB w bS bK bV bR sv kc (eAt t k)/\∃ A n c,sv=.slice A n c
theorem Jrw(h:TrV N w t p): Ret Tryz.prog 36 [.agg #[.bool d,p]] w λu w'=>u=.int .i64 (t.sz:Int)/\Ext w w':=by
 obtain⟨q,rfl⟩:=h.ptr;refine Jz Tryz.func36 Tryz.ntmps36 rfl kr rfl ?_;refine ρ ?_;refine bx ?_;intro J O o C D;refine ρ ?_;refine ld (D.at (i:=1) rfl) ?_;refine ρ ?_;refine cl (Jyt (h.ext o)) ?_;rintro u G ⟨rfl,rfl⟩;refine ρ ?_;exact Jj ⟨rfl,o⟩
theorem Xyp{bS bK bV bR k:Nat}(hne:bS≠bK/\bS≠bV/\bK≠bV/\bS≠bR/\bV≠bR/\bK≠bR):
  ∀ l a x r u w,TrV (λj=>j=bS∨j=bV∨j=bK) w (.node l a x r) u->AtJ bS bK bV bR k t (.node l a x r) w ->
  Ret Tryz.prog 161 ((#[]:Array Value).toList++[u]++(#[.pointer (some ⟨bK,0,none⟩),.pointer (some ⟨bV,0,none⟩),.pointer (some ⟨bS,0,none⟩)]:Array Value).toList) w λz w'=>∃ c,z=.int .i64 c/\GrN (λj=>j=bS∨j=bV∨j=bK) w w'/\(c<0->AtJ bS bK bV bR k t l w')/\(0<c->AtJ bS bK bV bR k t r w')/\(c=0->AtD bS bK bV bR k t w'):=by
 obtain⟨n1,n2,n3,n4,n5,n6⟩:=hne;rintro l a x r u w hs ⟨sv,j,v,hB,⟨SA,ag,sc,rfl⟩,e1,e2,e3,C⟩;obtain⟨bn,wn,pl,pr,sn,rfl,⟨a9,a4⟩,aa,ak,hl,hr⟩:=id hs;obtain⟨ql,rfl⟩:=hl.ptr;obtain⟨qr,rfl⟩:=hr.ptr;simp only[Tr.sz]at e1 e2;simp only[Tr.sum]at C;refine Jz Tryz.func161 Tryz.ntmps161 rfl kr rfl ?_;refine ρ ?_;refine ld (a9.at (i:=4) rfl) ?_;refine ρ ?_;refine cl (Jyt hl) ?_;rintro u w' ⟨rfl,rfl⟩;refine ρ ?_;refine ld (hB.kb.at (i:=0) rfl) ?_;refine ρ ?_;refine ci (λhc=>?_) (λhc=>?_)
 .have hc:j<l.sz:=by have:=oT hc;omega
  refine ρ ?_;refine Jj ⟨-1,rfl,GrN.refl _ _,λ_=>⟨_,j,v,hB,⟨_,_,_,rfl⟩,hc,om,?_,C.le om⟩,λh=>om,λh=>om⟩;rw[<-e3];unfold eAt;rw[Tr.toL];rw[Tr.sz_eq]at hc;simp[List.getD,List.getElem?_append_left hc]
 have hc:¬ j<l.sz:=λh=>oF hc om;refine ρ ?_;refine ld (hB.kb.at (i:=0) rfl) ?_;refine ρ ?_;refine ci (λa1=>?_) (λa1=>?_)
 .have a1:l.sz<j:=by have:=oT a1;omega
  refine ρ ?_;refine ld (hB.kb.at (i:=0) rfl) ?_;refine ρ ?_;refine Vb hB.kb ?_ rfl;intro w6 af Z ah;refine ρ ?_;have a6:GrN (λj=>j=bS∨j=bV∨j=bK) w' w6:=GrN.by Z λj o=>.inr (.inr (by injection o with o;exact o.symm))
  refine Jj ⟨1,rfl,a6,λh=>om,λ_=>⟨_,j-(l.sz+1),v,⟨hB.sb.grown Z (by simpa using n1),?_,hB.vb.grown Z (by simpa using n3.symm),hB.rb.grown Z (by simpa using n6.symm)⟩,⟨_,_,_,rfl⟩,om,om,?_,C.le om⟩,λh=>om⟩
  .rw[show((j-(l.sz+1):Nat):Int)=(j:Int)-((l.sz:Int)+1) by omega];exact af
  rw[<-e3];unfold eAt;rw[Tr.toL];have ac:=Tr.sz_eq l;rw[List.getD,List.getD,List.getElem?_append_right om,show j-l.toL.length=(j-(l.sz+1))+1 by omega,List.getElem?_cons_succ]
 have o:j=l.sz:=by have:=oF a1;omega
 have e5:eAt t k=a:=by
  rw[<-e3];unfold eAt;rw[Tr.toL];have ac:=Tr.sz_eq l;rw[List.getD,List.getElem?_append_right om,show j-l.toL.length=0 by omega];rfl
 refine ρ ?_;refine drN (λj=>j=bS∨j=bV) 13 [(0,0),(0,1),(0,2),(0,3),(0,4),(0,5),(0,6),(0,7),(0,8),(0,9),(1,10),(1,11),(1,12)] kr ?_;have O:Ext w' w'.drew:=(Ext.refl w').drew;have a2:=hB.ext O;have a3:=a9.ext O;have a5:¬ (bn=bS∨bn=bV):=λh=>a4 (h.elim .inl λh=>.inr (.inl h));refine ρn ?_;refine Xl (cs:=a.cells) (λW hg=>Blk.pre (cs:=a.cells) (Jv a3 hg a5)) ?_;refine ρn ?_;refine nld (λW hg=>(Jv a3 hg a5).at (i:=3) rfl) ?_;refine ρn ?_;refine nop ?_;refine cl (Jkx ((aa.ext O).1) (C.le om).len) ?_;rintro us w2 ⟨ab,am,D⟩;obtain⟨UA,uc,rfl,_⟩:=id ab;refine ρ ?_;refine Jm (GrN.ext D) ?_;refine ρn ?_;refine nop ?_;refine stb (cs':=a.cells) ((a2.vb).ext D) ?_ (V.one a);intro w3 ad J aj;refine ρ ?_;refine Jm (GrN.by J λj o=>.inr (by injection o with o;exact o.symm)) ?_;refine ρn ?_;refine nop ?_;refine Vb ((a2.sb.ext D).grown J (by simpa using n2)) ?_ rfl
 intro w4 ae G ai;refine ρ ?_;refine Jm (GrN.by G λj o=>.inl (by injection o with o;exact o.symm)) ?_;refine ρn ?_;refine ρ ?_;have a8:GrN (λj=>j=bS∨j=bV∨j=bK) w2 w3:=GrN.by J λj o=>.inr (.inl (by injection o with o;exact o.symm))
 have a7:GrN (λj=>j=bS∨j=bV∨j=bK) w3 w4:=GrN.by G λj o=>.inl (by injection o with o;exact o.symm)
 refine Jj ⟨0,rfl,(GrN.ext (O.trans D)).trans (a8.trans a7),λh=>om,λh=>om,λ_=>⟨_,_,⟨ae,((a2.kb.ext D).grown J (by simpa using n3)).grown G (by simpa using n1.symm),?_,((a2.rb.ext D).grown J (by simpa using n5.symm)).grown G (by simpa using n4.symm)⟩,_,_,_,rfl⟩⟩;rw[e5];exact ad.grown G (by simpa using n2.symm)
theorem Qgf{k:Nat}(h:TrV N w t p)(hk:k<t.sz)(hb:Nb t.sum)(hs:t.sz<=1000000):
  Ret Tryz.prog 131 [.agg #[.bool d,p],.int .i64 (k:Int)] w λu w'=>∃ A n c,u=.tuple #[(eAt t k).val,.slice A n c,.bool true]/\Ext w w':=by
 obtain⟨q,rfl⟩:=h.ptr;refine Jz Tryz.func131 Tryz.ntmps131 rfl kr rfl ?_;refine ρ ?_;refine bx ?_;intro w1 bT aa ay hT;refine ρ ?_;refine bx ?_;intro w2 bK a7 b3 hK;refine ρ ?_;refine alc (cs:=V0.cells) Yz ?_;intro w3 bR O b2 hR;refine ρ ?_;refine dr [(0,0),(0,1),(0,2),(0,3),(0,4),(1,5),(0,6),(0,7)] kr ?_;have G:Ext w3 w3.drew:=(Ext.refl w3).drew;have ad:=((hT.ext a7).ext O).ext G;have a8:=(hK.ext O).ext G;have Z:=((aa.trans a7).trans O).trans G;refine ρd ?_;refine dld (a8.at (i:=0) rfl) ?_;refine ρd ?_;refine dkf 11 ?_ ?_
 .exact dF om
 refine ρd ?_;refine dld (a8.at (i:=0) rfl) ?_;refine ρd ?_;refine Jo (cs:=[.bool d,.pointer q]) (λj u hu=>ad.at hu) ?_;refine ρd ?_;refine dcl (Jrw (h.ext Z)) ?_;rintro u w4 ⟨rfl,C⟩;refine⟨C,?_⟩;refine ρd ?_;refine ρ ?_;refine cf ?_ ?_
 .exact dF om
 have ac:=Z.trans C;have am:=(hR.ext G).ext C;have aj:=ad.ext C;have an:=a8.ext C;refine ρ ?_;refine alc (cs:=V0.cells) Yz ?_;intro w5 bV a9 ax hV;refine ρ ?_;refine alc zNat ?_;intro w6 bS a6 b1 hS;have lK:=hK.lt;have lR:=hR.lt;have lV:=hV.lt;have av:=aa.size;have au:=a7.size;have ar:=O.size;have aq:=(G.trans C).size;have ap:=a9.size;have ao:=a6.size;have n1:bS≠bK:=om
 have n2:bS≠bV:=om
 have n3:bK≠bV:=om
 have n4:bS≠bR:=om
 have n5:bV≠bR:=om
 have n6:bK≠bR:=om
 have o:Ext w4 w6:=a9.trans a6;have a4:Ext w w6:=ac.trans o;have hN:TrV (λk=>k=bS∨k=bV∨k=bK) w6 t (.pointer q):=(h.old (N':=λk=>k=bS∨k=bV∨k=bK) λk hk=>.inr (by rcases hk with rfl|rfl|rfl<;>omega)).ext a4;have aw:=Tr.ht_le t;refine ρ ?_;refine ldW (aj.ext o) ?_;refine ρ ?_;refine cl (Jrc (N:=λk=>k=bS∨k=bV∨k=bK) (J:=AtJ bS bK bV bR k t) (D:=AtD bS bK bV bR k t) hN ⟨_,k,V0,⟨hS,an.ext o,hV.ext a6,am.ext o⟩,⟨_,_,_,rfl⟩,hk,hs,rfl,hb⟩ om ?_ ?_ (Xyp ⟨n1,n2,n3,n4,n5,n6⟩)) ?_
 .rintro s w w' ⟨sv,m,v,a1,a2⟩ hx;exact⟨sv,m,v,a1.ext hx,a2⟩
 .rintro w ⟨sv,m,v,a1,a2,a3,_⟩;simp only[Tr.sz]at a3;omega
 rintro z w7 ⟨⟨n,rfl,hn⟩,⟨sv,kc,af,A,m,c,rfl⟩,ai⟩;have ab:Ext w w7:=ai.old a4 λk hk=>by rcases hk with rfl|rfl|rfl<;>omega
 refine ρ ?_;refine drN (λk=>k=bR) 10 [(0,0),(0,1),(1,2),(0,3),(0,4)] kr ?_;have a5:Ext w7 w7.drew:=(Ext.refl w7).drew;have ae:=af.ext a5;refine ρn ?_;refine Xl (cs:=(eAt t k).cells) (λw' hg j u hu=>(Jv ae.vb hg n5).at hu) ?_;refine ρn ?_;refine nld (Jl (ae.sb.at (i:=0) rfl) n4) ?_;refine ρn ?_;refine nop ?_;refine stb (cs':=(eAt t k).cells) (af.rb.ext a5) ?_ (V.one _);intro w8 ak ah ag;refine ρ ?_;refine Jm (GrN.by ah λj hj=>by injection hj with hj;exact hj.symm) ?_;refine ρn ?_;refine ρ ?_;refine Jzd ak ⟨A,m,c,rfl,ag w (ab.trans a5) om⟩
end Go.Proofs.YtbcdghbonlifdaaGreatDoor
namespace Go.Proofs.YtbcdghbonlifdaaGreatDoor
open Go.RowKit Pl Go.Wk
attribute [local irreducible] WC WL QX WD WDB WP
variable {b3 bp bs f n qc t:Nat}{QA:Option Addr}{q:Row}{v x:Value}{w:World}
theorem NatX.or{N N':Nat->Prop}(h:NatX N w v n)(h':NatX N' w v n): NatX (λk=>N k∨N' k) w v n:=⟨h.1,λh0 o m c e u=>u.elim (h.2 h0 o m c e) (h'.2 h0 o m c e)⟩
theorem Qcv: Qm Tryz.prog 4=some (.bool false):=kr
theorem Qmq{ds:List Bool}{kf:Nat->Nat}{pf:Nat->Int}{BB:Nat->List BkT}{tot:Nat}{L:List Row}{pb:Bool}(h:IxA w x f ds kf pf BB tot L)(hB3:Blk w b3 46 [.slice QA q.length qc])(hBp:Blk w bp 4 [.bool pb])(hBs:Blk w bs 3 [.int .i64 (t:Int)])(hne:bp≠bs)(hq:RdR w QA q)(hqc:q.length<=qc)(hqf:q.length=f)(ht:t+Qy f (λv=>hmB (BB v))<=1000000000):
  Ret Tryz.prog 56 [x,.pointer (some ⟨b3,0,none⟩),.pointer (some ⟨bp,0,none⟩),.pointer (some ⟨bs,0,none⟩)] w λu w'=>NatX (λk=>k=bp∨k=bs) w' u (Qq ds L q)/\GrN (λk=>k=bp∨k=bs) w w'/\Blk w' bp 4 [.bool (pb || decide (0<(wiL L q).length))]/\∃ st:Nat,st<=Qy f (λv=>hmB (BB v))/\Blk w' bs 3 [.int .i64 ((t+st:Nat):Int)]:=by
 obtain⟨B0,tb⟩:=h.tb;have ix:=h.ix;obtain⟨DA,dc,BA,cb,KA,ck,ad,cp,tv,ac,ab,rfl,_⟩:=id ix.ex;refine Jz Tryz.func56 Tryz.ntmps56 rfl kr rfl ?_;refine ρ ?_;refine bx ?_;intro w1 b o hb aa;refine ρ ?_;refine ldW aa ?_;refine ρ ?_;refine ld ((hB3.ext o).at (i:=0) rfl) ?_;refine ρ ?_;refine cl (Jtw (tb.ext o) (h.ext o) (Rd.ext hq o) hqc) ?_;rintro u w2 ⟨a4,_,a9⟩;obtain⟨kv,st,rfl,a5,a6⟩:=a9 hqf;have D:=(hBp.ext o).ext a4;have J:=(hBs.ext o).ext a4;refine ρ ?_;refine ld (D.at (i:=0) rfl) ?_;cases pb with
 | false=>
  refine ρ ?_;refine Vb D ?_ rfl;intro w3 a3 Z a8;have C:=J.grown Z (by simpa using hne.symm);refine ρ ?_;refine ld (C.at (i:=0) rfl) ?_;refine ρ ?_;refine Vb C ?_ rfl;intro w4 a1 O a7;have a2:=a3.grown O (by simpa using hne);refine ρ ?_;have hg:GrN (λk=>k=bp∨k=bs) w2 w4:=(GrN.by Z λj G=>.inl (by injection G with G;exact G.symm)).trans (GrN.by O λj G=>.inr (by injection G with G;exact G.symm));refine Jj ⟨((a5.off (λx e=>by cases e) D).or (a5.off (λx e=>by cases e) J)).gr hg,(GrN.ext (o.trans a4)).trans hg,a2,st,a6,?_⟩;rw[show((t+st:Nat):Int)=(t:Int)+(st:Int) by omega];exact a1
 | true=>
  refine ρ ?_;refine Vb D ?_ rfl;intro w3 a3 Z a8;have C:=J.grown Z (by simpa using hne.symm);refine ρ ?_;refine ld (C.at (i:=0) rfl) ?_;refine ρ ?_;refine Vb C ?_ rfl;intro w4 a1 O a7;have a2:=a3.grown O (by simpa using hne);refine ρ ?_;have hg:GrN (λk=>k=bp∨k=bs) w2 w4:=(GrN.by Z λj G=>.inl (by injection G with G;exact G.symm)).trans (GrN.by O λj G=>.inr (by injection G with G;exact G.symm));refine Jj ⟨((a5.off (λx e=>by cases e) D).or (a5.off (λx e=>by cases e) J)).gr hg,(GrN.ext (o.trans a4)).trans hg,a2,st,a6,?_⟩;rw[show((t+st:Nat):Int)=(t:Int)+(st:Int) by omega];exact a1
theorem Qfh{D:UD}{cs:List Value}(hV:UnV w D cs)(hq:RdR w QA q)(hqc:q.length<=qc):
  Ret Tryz.prog 18 [.agg cs.toArray,.slice QA q.length qc] w λu w'=>Ext w w'/\(q.length≠D.f->u=.tuple #[.slice none 0 0,.bool false,.int .i64 0,.int .i64 6]) /\
   (q.length=D.f->∃(nv:Value) (st:Nat),u=.tuple #[nv,.bool (decide (q∈D.U)),.int .i64 (st:Int),.int .i64 0]/\NatV w' nv (Qq D.ds D.U q)/\st<=D.n*D.Hm):=by
 have n7:=hV.n7;obtain⟨DA,dc,MA,mc,SA,sl,sc,rfl,h2,h3,h4,h5,h6⟩:=id hV.ex;refine Jz Tryz.func18 Tryz.ntmps18 rfl kr rfl ?_;refine ρ ?_;refine bx ?_;intro w1 b2 a2 b6 ab;refine ρ ?_;refine bx ?_;intro w2 b3 G b5 a4;refine ρ ?_;refine ld (a4.at (i:=0) rfl) ?_;refine ρ ?_;refine ld ((ab.ext G).at (i:=1) rfl) ?_;refine ρ ?_;refine ci (λh=>?_) (λh=>?_)
 .have ai:q.length≠D.f:=by have:=Uf h;omega
  refine ρ ?_;exact Ie ⟨a2.trans G,λ_=>rfl,λe=>absurd e ai⟩
 have a3:q.length=D.f:=by have:=Gj h;omega
 clear h;refine ρ ?_;refine alc Qcv ?_;intro w3 bp ag an aq;refine ρ ?_;refine Vb aq ?_ rfl;intro w4 a1 b1 af;refine ρ ?_;refine alc Jnx ?_;intro w5 bs ae am ap;refine ρ ?_;refine Vb ap ?_ rfl;intro w6 Z ay ac;have C:Ext w2 w4:=af w2 ag an;have o:Ext w4 w6:=ac w4 ae am;have J:=(a2.trans G).trans (C.trans o);have a9:=a1.ext o;have lp:=a1.lt;have ls:=Z.lt;have l3:=a4.lt;have aw:=a2.size;have av:=G.size;have au:=C.size;have ar:=o.size;refine ρ ?_;refine ld ((ab.ext (G.trans (C.trans o))).at (i:=3) rfl) ?_;refine ρ ?_;have aa:=a4.ext (C.trans o);have b7:D.n*D.Hm<=7*10000000:=Nat.mul_le_mul n7 hV.hl;refine cl (Jfm (S:=λk=>k=bp∨k=bs) (I:=λi W=>∃(t:Nat) (pb:Bool),t<=i*D.Hm/\(pb=true↔∃ s,1<=s/\s<=i/\0<(wiL (D.M s) q).length)/\Blk W bp 4 [.bool pb]/\Blk W bs 3 [.int .i64 (t:Int)]) (c:=λs=>Qq D.ds (D.M s) q)
  (cap:=[.pointer (some ⟨b3,0,none⟩),.pointer (some ⟨bp,0,none⟩),.pointer (some ⟨bs,0,none⟩)]) hV.x5 n7 (λk hk=>om)
  (Ic (h5.ext J) λh0 ad e he=>?_) (λi=>?_) ⟨0,false,Nat.zero_le _,⟨λh=>(by cases h),λ⟨s,h1,h2,_⟩=>(by omega)⟩,a9,Z⟩ (λi W W' ⟨t,pb,h1,h2,h3,h4⟩ hx=>⟨t,pb,h1,h2,h3.ext hx,h4.ext hx⟩) (λi hi W hg ⟨t,pb,h1,h2,h3,h4⟩=>?_)) ?_
 .obtain⟨b8,e',ax⟩:=h5.2 h0;grind
 .have:=Jvg D.ds (D.M i) q;have:=hV.ml i;omega
 .have a5:Ext w W:=hg.old J λk hk=>by omega
  have hh:=hV.hm i hi;have aj:(i+1)*D.Hm<=D.n*D.Hm:=nO _ om;rw[Nat.succ_mul]at aj;refine(Qmq ((hV.ix i hi).ext a5) (Jv aa hg om) h3 h4 om (Rd.ext hq a5) hqc a3 om).mono ?_;rintro u W' ⟨g1,g2,g3,st,g4,g5⟩;refine⟨g1,g2,t+st,_,by rw[Nat.succ_mul];omega,?_,g3,g5⟩;grind
 rintro u w7 ⟨hu,b4,ak,t,pb,ht,ah,a8,a7⟩;have a6:Ext w w7:=ak.old J λk hk=>by omega
 have O:Ext w7 w7.drew:=(Ext.refl w7).drew;refine ρ ?_;refine dr [(0,0),(0,1),(0,2),(0,3),(0,4),(0,5),(0,6)] kr ?_;refine ρd ?_;refine dld ((a8.ext O).at (i:=0) rfl) ?_;refine ρd ?_;refine dld ((a7.ext O).at (i:=0) rfl) ?_;refine ρd ?_;refine ρ ?_;refine Ie ⟨a6.trans O,λe=>absurd a3 e,λ_=>⟨u,t,?_,?_,ht⟩⟩
 .have:pb=decide (q∈D.U):=by
   rw[Bool.eq_iff_iff,ah,decide_eq_true_eq,hV.up.has a3];have hn:D.n=2^D.k-1:=rfl;grind
  rw[this]
 have ao:=hV.up.before q;have:sgP (λs=>Qq D.ds (D.M s) q) D.n-sgM (λs=>Qq D.ds (D.M s) q) D.n=Qq D.ds D.U q:=by
  rw[show D.n=2^D.k-1 from rfl,ao];omega
 rw[this]at hu;exact hu.ext O
open Go.RowKit Pl Go.Wk
variable {cs:List Value}{w:World}
theorem EX5: ElT Tryz.prog 29 77 5 120 (.agg #[.slice none 0 0,.slice none 0 0,.slice none 0 0,.slice none 0 0,.slice none 0 0]):=⟨Tryz.underlying29,info_parts kr,rfl,by decide⟩
theorem EInp: ElT Tryz.prog 23 42 5 88 (.agg #[.int .i64 0,.int .i64 0,.slice none 0 0,.slice none 0 0,.slice none 0 0]):=⟨Tryz.underlying23,info_parts kr,rfl,by decide⟩
theorem Qyn(w:World): (Instr.buildSlice 29 0 #[]).run Tryz.prog w=.ok (.slice (some ⟨w.heap.size,0,none⟩) 0 0) (w.alloc (.cells ([]:List Value).toArray 77)):=kr
theorem Xkx{A:Option Addr}{n c:Nat}(hr:Rd w 5 A n cs)(h1:∀ u∈cs,u.oneCell'=true)(hb:n<=1000):
  Ret Tryz.prog 65 [.slice A n c] w λv w'=>(∃ A' c',v=.slice A' n c'/\n<=c'/\Rd w' 5 A' n cs/\∀ ad,A'=some ad->w.heap.size<=ad.block)/\Ext w w':=by
 refine Jz Tryz.func65 Tryz.ntmps65 rfl kr rfl ?_;refine ρ ?_;refine Kw ?_;refine ρ ?_;refine ci (λh=>?_) (λh=>?_)
 .have hA:A=none:=by simpa using h
  subst hA;have hn:n=0:=by
   rcases Nat.eq_zero_or_pos n with h0|h0
   .exact h0
   obtain⟨ad,h2,_⟩:=hr.isome h0 om;cases h2
  subst hn;refine ρ ?_;exact Jj ⟨⟨none,0,rfl,Nat.le_refl _,hr,λad e=>by cases e⟩,Ext.refl w⟩
 refine ρ ?_;refine bsl Qyn ?_;intro w1 b C O J;refine ρ ?_;refine apo C EX5 (J.own (n:=0) O rfl (Nat.zero_le _)) (hr.ext C) h1 (by unfold maxLen;omega) om ?_;intro v2 w2 o G _ _;obtain⟨A2,c2,rfl,D,Z⟩:=Jy o;refine ρ ?_;rw[Nat.zero_add]at o D ⊢;exact Jj ⟨⟨A2,c2,rfl,D,Rd.own o,λad e=>by subst e;exact(Z ad.block rfl).1⟩,G⟩
theorem Xwn(w:World): (Instr.buildSlice 23 0 #[]).run Tryz.prog w=.ok (.slice (some ⟨w.heap.size,0,none⟩) 0 0) (w.alloc (.cells ([]:List Value).toArray 42)):=kr
theorem Jfc{D:UD}(hV:UnV w D cs): Ret Tryz.prog 15 [.agg cs.toArray] w λu w'=>NatV w' u D.U.length/\Ext w w':=by
 obtain⟨DA,dc,MA,mc,SA,sl,sc,rfl,h2,h3,h4,h5,h6⟩:=id hV.ex;have G:D.U.length<=35000:=by
  have h7:=hV.up.total;have hs:=Jyx (c:=λs=>(D.M s).length) (B:=5000) hV.ml (2^D.k-1);have n7:2^D.k-1<=7:=hV.n7;grind
 obtain⟨A,c,e,e1,_,e2⟩:=id h6;injection e with e3 e4 e5
 subst e3;subst e4;subst e5;refine Jz Tryz.func15 Tryz.ntmps15 rfl kr rfl ?_;refine ρ ?_;refine bx ?_;intro w1 b o hb hB;refine ρ ?_;refine ld (hB.at (i:=4) rfl) ?_;refine ρ ?_;have O:=Jqd (n:=D.U.length) om;refine cl (Xkw (e2.ext o) (Qch _) om) ?_;rintro u w2 ⟨⟨A',c',rfl,Z,J⟩,C⟩;refine ρ ?_;exact Jj ⟨⟨A',c',rfl,Z,om,J⟩,o.trans C⟩
open Go.RowKit Pl Go.Wk
theorem Jrk{w:World}{D:UD}{cs:List Value}{QA:Option Addr}{qc:Nat}{q:Row}(hV:UnV w D cs)(hq:RdR w QA q)(hqc:q.length<=qc):
  Ret Tryz.prog 20 [.agg cs.toArray,.slice QA q.length qc] w λu w'=>Ext w w'/\u=.int .u32 (((if q.length=D.f then Xe (λi=>decide (q∈D.M (2^i))) D.k else 0):Nat):Int):=by
 have n7:=hV.n7;have am:=hV.up.k3;obtain⟨DA,dc,MA,mc,SA,sl,sc,rfl,h2,h3,h4,h5,h6⟩:=id hV.ex;refine Jz Tryz.func20 Tryz.ntmps20 rfl kr rfl ?_;refine ρ ?_;refine bx ?_;intro w1 b2 a1 an a3;refine ρ ?_;refine ld (a3.at (i:=1) rfl) ?_;refine ρ ?_;refine ci (λh=>?_) (λh=>?_)
 .have ac:q.length≠D.f:=by have:=Uf h;omega
  refine ρ ?_;exact Jj ⟨a1,by rw[if_neg ac]⟩
 have a6:q.length=D.f:=by have:=Gj h;omega
 clear h;refine ρ ?_;refine ld (a3.at (i:=0) rfl) ?_;refine ρ ?_;refine Qf (fun (i:Nat)=>[(1,.slice QA q.length qc),(2,.pointer (some ⟨b2,0,none⟩)),(5,.int .u32 ((Xe (λi=>decide (q∈D.M (2^i))) i:Nat):Int)),(17,.int .i64 (D.k:Int)),(18,.int .i64 (i:Int))])
  (λi w'=>i<=D.k/\Ext w1 w') (λi=>D.k-i) 0 sB ⟨Nat.zero_le _,Ext.refl _⟩ ?_
 rintro i w2 ⟨hi,G⟩;refine ρ ?_;refine ci (λh=>?_) (λh=>?_)
 .have li:i<D.k:=by have:=oT h;omega
  clear h;refine ρ ?_;have a9:i=0∨i=1∨i=2:=om
  obtain⟨s,hs⟩:∃ s,s=2^i:=⟨_,rfl⟩;have aa:1<=s:=by grind
  have J:s-1<D.n:=by
   have:2^i<2^D.k:=Nat.pow_lt_pow_right om li;unfold UD.n;omega
  have ai:s<=4:=by grind
  refine dr [(0,0),(0,1),(0,2),(0,3),(0,4),(0,5),(0,6),(0,7),(1,8),(0,9),(0,10),(0,11),(0,12),(0,13),(0,14),(0,15),(0,16),(0,17)] kr ?_;have Z:Ext w2 w2.drew:=(Ext.refl w2).drew;have o:=(a1.trans G).trans Z;have af:=(a3.ext G).ext Z;obtain⟨A,B,C,D',E,a,b,c',d,e,a',b',c2,d',e',a4⟩:=hV.x5 (s-1) J;have a8:∀ i,i<D.n->(D.xc i).length=5:=λi hi=>by obtain⟨A,B,C,D',E,a,b,c',d,e,a',b',c2,d',e',h⟩:=hV.x5 i hi;rw[h];rfl
  have a2:=(hV.ix (s-1) J).ext o;rw[a4]at a2;obtain⟨B0,tb⟩:=a2.tb;refine ρd ?_;refine dld (af.at (i:=3) rfl) ?_;refine ρd ?_;refine dshl ?_ (h0:=by omega);refine dkv 25 (show Value.int .i64 (IntKind.i64.wrap (1*2^min ((i:Int)).toNat IntKind.i64.bits))=.int .i64 (s:Int) by rw[hs];rcases a9 with rfl|rfl|rfl<;>rfl) ?_;refine ρd ?_;refine Vw 5 (s-1) (h5.ext o) J ?_;refine ρd ?_;refine Jo (cs:=[.slice A a a',.slice B b b',.slice C c' c2,.slice D' d d',.slice E e e']) (λj u hu=>?_) ?_
  .rw[<-a4]at hu;have hj:j<5:=by grind
   rw[Qo];exact Rd.cell (h5.ext o) (by rw[Vh a8 J hj];exact hu)
  refine ρd ?_;refine dcl (Jtw tb a2 (Rd.ext hq o) hqc) ?_;rintro u w3 ⟨a5,_,ab⟩;obtain⟨kv,st,rfl,ak,ah⟩:=ab a6;refine⟨a5,?_⟩;refine ρd ?_;refine ρ ?_;have e1:s-1+1=2^i:=(Nat.sub_add_cancel aa).trans hs;have ad:2^i<2^D.k:=Nat.pow_lt_pow_right om li;have a7:(0<(wiL (D.M (s-1+1)) q).length)↔q∈D.M (2^i):=by
   rw[e1];constructor
   .intro h3;obtain⟨x,hx⟩:=List.exists_mem_of_length_pos h3;unfold wiL at hx;rw[List.mem_filter,decide_eq_true_eq]at hx;have ag:=hV.up.len x (hV.up.sub Nat.one_le_two_pow ad hx.1);grind
   intro h3;refine List.length_pos_of_mem (a:=q) ?_;grind [wiL,List.take_length]
  have O:Ext w1 w3:=(G.trans Z).trans a5;have aj:=Qsr (λi=>decide (q∈D.M (2^i))) i;refine ci (λh=>?_) (λh=>?_)
  .have hm:=a7.1 (oT h);clear h;refine ρ ?_;refine Jzw rfl rfl om rfl ?_;refine Go.Wk.kv 38 (show Value.int .u32 (IntKind.u32.wrap (1*2^min ((i:Int)).toNat IntKind.u32.bits))=.int .u32 ((2^i:Nat):Int) by rcases a9 with rfl|rfl|rfl<;>rfl) ?_;refine ρ ?_;refine Qw (i+1) ?_ ⟨om,O⟩ om;rw[Jjc om om];rw[show Xe (λi=>decide (q∈D.M (2^i))) (i+1)=Xe (λi=>decide (q∈D.M (2^i))) i ||| 2^i by grind [Xe]];exact sO
  have hm:¬ q∈D.M (2^i):=by grind
  clear h;refine ρ ?_;refine Qw (i+1) ?_ ⟨om,O⟩ om;rw[show Xe (λi=>decide (q∈D.M (2^i))) (i+1)=Xe (λi=>decide (q∈D.M (2^i))) i by grind [Xe]];exact sO
 have ae:i=D.k:=by grind
 subst ae;refine ρ ?_;exact Jj ⟨a1.trans G,by rw[if_pos a6]⟩
end Go.Proofs.YtbcdghbonlifdaaGreatDoor
namespace Go.Proofs.YtbcdghbonlifdaaGreatDoor
open Pl Go.Wk
variable {m n v:Nat}{k r y:Row}
section
variable {f:Nat} {ds:List Bool} {kf:Nat->Nat} {pf:Nat->Int} {BB:Nat->List BkT} {tot:Nat} {L:List Row}
theorem IxP.ne_of(h:IxP f ds kf pf BB tot L)(hr:r∈L): tot≠0:=λe=>by
 rw[h.len]at e;grind
theorem IxP.val(h:IxP f ds kf pf BB tot L)(hr:r∈L)(hv:v<f): r.getD v V0∈(trK (BB v) (pmR (bk (kf v) 32) (r.take v))).toL.map (·.1):=by
 have u:=h.ne_of hr;rw[h.ans u]at hr;have C:r.length=f:=by grind [AX.ext_mem]
 have o:=AX.ext_gp hr (v+1) v (by grind);rw[Jdh,Pl.getD_take (Xy f kf pf BB).d0 om,List.take_take,Nat.min_eq_left om]at o;exact o
theorem IxP.srtT(h:IxP f ds kf pf BB tot L)(hv:v<f)(k:Row): Uw (ds.getD v false) (trK (BB v) k).toL:=by
 by_cases e:tot=0
 .rw[h.nil e v];exact List.Pairwise.nil
 have:=(h.srt e).srt v hv k;grind [Jdh]
theorem IxP.fitR(h:IxP f ds kf pf BB tot L)(hr:r∈L): ∀ u∈r,Xb u/\u.bytes.length<=24:=by
 have C:=h.ne_of hr;rw[h.ans C]at hr;have D:r.length=f:=by grind [AX.ext_mem]
 have o:=AX.ext_gp hr f;rw[List.take_of_length_le om]at o;exact h.gp o
end
theorem Xxl(hy:∀ u∈y,Xb u/\u.bytes.length<=24)(s:Nat): FitR (pmR (bk s 32) y):=by
 refine⟨by grind [Xj,Yd],λv o=>?_⟩;obtain⟨i,_,rfl⟩:=List.mem_map.1 o;grind [List.getD,fit0,List.mem_of_getElem?]
theorem Xqm{bs:List BkT}{a:V}(h:a∈(trK bs k).toL.map (·.1)): (Zg bs k).isSome=true:=by
 cases e:Zg bs k with
 | some i=>rfl
 | none=>rw[Jls e]at h;cases h
theorem Qxt(h0:0<n)(h:m<=n / 2): Jr m+1<=Jr n:=by
 have u:=Jwg (x:=n);have C:=Jhw (x:=n) om;obtain⟨L,o⟩:∃ L,Jr n=L+1:=⟨Jr n-1,om⟩;rw[o]at u ⊢;have:=Gk (x:=m) (k:=L) (by grind);omega
open Go.RowKit Pl Go.Wk
attribute [local irreducible] WC WL QX WD WDB WP WN WG WH WM
variable {c k m n qc:Nat}{A QA:Option Addr}{q:Row}{a w:World}
theorem Qvt(ha:Ext a w)(hr:RdR w A q)(hb:q.length<=1000):
  Ret Tryz.prog 110 [.slice A q.length c] w λv w'=>w'.ownsRow a.heap.size 118 3 v q.length (Jh q)/\Ext w w':=by
 refine Jz Tryz.func110 Tryz.ntmps110 rfl kr rfl ?_;refine ρ ?_;refine Kw ?_;refine ρ ?_;refine ci (λh=>?_) (λh=>?_)
 .have hA:A=none:=by simpa using h
  subst hA;have hn:q.length=0:=by
   rcases Nat.eq_zero_or_pos q.length with h0|h0
   .exact h0
   obtain⟨ad,h2,_⟩:=hr.isome h0 om;cases h2
  obtain rfl:=List.eq_nil_of_length_eq_zero hn;refine ρ ?_;exact Jj ⟨Zj _ _ _ _,Ext.refl w⟩
 refine ρ ?_;refine bsl Kt ?_;intro w1 b o O D;refine ρ ?_;refine apo (a:=a) (ha.trans o) EV (D.own (n:=0) (nL ha.size O) rfl (Nat.zero_le _)) (hr.ext o) (Jxb q) (by unfold maxLen;omega) om ?_;intro v2 Z u _ G _;have C:Ext w Z:=Qg o G λg eg=>by
  have:b=g:=by simpa [Value.ownBlock] using eg
  omega
 obtain⟨A2,c2,rfl,J,_⟩:=Jy u;refine ρ ?_;rw[Nat.zero_add]at u J ⊢;exact Jj ⟨u,C⟩
def SF.r1(y:V): SF:=⟨λv W=>∃ b:Nat,v=.slice (some ⟨b,0,none⟩) 1 1/\Blk W b 118 (Jh [y]),λ⟨b,e,h⟩ hx=>⟨b,e,h.ext hx⟩⟩
theorem Jsl{A a b C s e:Nat}(h1:b+1<=a)(h2:a<=A)(hs:s<=(A-a)*C)(he:e<=C): s+e<=(A-b)*C:=by
 have:(A-a+1)*C<=(A-b)*C:=nO _ om;grind
theorem Qxs(h:n<=m): Jr n<=Jr m:=Gk (Nat.lt_of_le_of_lt h Jwg)
theorem cmpN_le: Yq n m<=0↔n<=m:=by
 unfold Yq;grind
theorem Jzn(v:V)(w:World): (Instr.buildSlice 46 1 #[(0,v.val)]).run Tryz.prog w=.ok (.slice (some ⟨w.heap.size,0,none⟩) 1 1) (w.alloc (.cells (Jh [v]).toArray 118)):=kr
theorem Qfl{D:UD}{cs:List Value}{kv p:Value}{d:Bool}{t:Tr}(hV:UnV w D cs)(hq:RdR w QA q)(hqc:q.length<=qc)(hk:NatV w kv k)(hkl:k<D.U.length)(hqf:q.length<D.f)(hq2:q=(D.U.getD k []).take q.length)(hT:TrV (λ_=>False) w t p)(hs:Uw (D.ds.getD q.length false) t.toL)(hnb:Nb t.sum)(hsz:t.sz<=65536):
  Ret Tryz.prog 92 [.agg cs.toArray,.agg #[.bool d,p],.slice QA q.length qc,kv] w λu w'=>∃(a:V) (fd:Bool) (st:Nat),u=.tuple #[a.val,.bool fd,.int .i64 (st:Int)]/\Ext w w' /\
   (fd=true->neg (D.ds.getD q.length false) (cmpV a ((D.U.getD k []).getD q.length V0))<=0)/\((D.U.getD k []).getD q.length V0∈t.toL.map (·.1)->fd=true/\a=(D.U.getD k []).getD q.length V0)/\st<=Jr t.sz*(D.n*D.Hm):=by
 have n7:=hV.n7;have cj:D.U.getD k []∈D.U:=getD_mem' [] _ hkl;have d8:=hV.up.len _ cj;obtain⟨pp,rfl⟩:=hT.ptr;obtain⟨DA,dc,MA,mc,SA,sl,sc,rfl,h2,h3,h4,h5,h6⟩:=id hV.ex;have db:(D.f:Nat)<=32:=by
  have h0:0<D.n:=by
   have:=hV.up.k1;have:=Nat.pow_le_pow_right (show 0<2 by omega) this;unfold UD.n;omega
  exact(hV.ix 0 h0).ip.f32
 generalize hwant:(D.U.getD k []).getD q.length V0=want at *
 obtain⟨G,O⟩:∃ G:Nat->Prop,G=λi=>neg (D.ds.getD q.length false) (cmpV (eAt t i) want)<=0:=⟨_,rfl⟩;have aq:∀ i,Qq D.ds D.U (q++[eAt t i])<=k↔G i:=λi=>by
  have:=Xkf (a:=eAt t i) hV.up.ul hkl (v:=q.length) om;rw[<-hq2,hwant]at this;rw[O];exact this
 have cw:t.toL.length=t.sz:=(Tr.sz_eq t).symm;have ab:∀ i j,i<=j->j<t.sz->G j->G i:=λi j ca hj h=>by
  rw[O]at h ⊢;exact Qhq hs ca om h
 have d1:Jr t.sz<=17:=Gk om;have da:D.n*D.Hm<=7*10000000:=Nat.mul_le_mul n7 hV.hl;refine Jz Tryz.func92 Tryz.ntmps92 rfl kr rfl ?_;refine ρ ?_;refine bx ?_;intro w1 b4 bb d7 c1;refine ρ ?_;refine bx ?_;intro w2 b5 ay d6 b3;refine ρ ?_;refine alc (cs:=V0.cells) Yz ?_;intro w3 b8 a8 d5 br;refine ρ ?_;refine alc (cs:=V0.cells) Yz ?_;intro w4 af a5 cq aw;have ao:=((bb.trans ay).trans a8).trans a5;refine ρ ?_;refine ldW ((b3.ext a8).ext a5) ?_;refine ρ ?_;refine cl (Jrw (hT.ext ao)) ?_;rintro u w5 ⟨rfl,a4⟩;have be:=ao.trans a4;have bz:=(((c1.ext ay).ext a8).ext a5).ext a4;have bw:=((b3.ext a8).ext a5).ext a4;have bq:=(br.ext a5).ext a4;have l4:=c1.lt;have l5:=b3.lt;have l8:=br.lt;have cv:=aw.lt;have s1:=bb.size;have s2:=ay.size;have s3:=a8.size;have s4:=a5.size;have s5:=a4.size;refine ρ ?_;refine Xm (fun (lo hi:Nat) (z:Bool×Nat)=>[(2,.slice QA q.length qc),(3,kv),(4,.pointer (some ⟨b4,0,none⟩)),(5,.pointer (some ⟨b5,0,none⟩)),(8,.pointer (some ⟨b8,0,none⟩)),(11,.pointer (some ⟨af,0,none⟩)),(12,.bool z.1),(13,.int .i64 (z.2:Int)),(14,.int .i64 (lo:Int)),(15,.int .i64 (hi:Int))])
  (λlo hi z w'=>lo<=hi/\hi<=t.sz/\GrN (λk=>k=af) w5 w'/\(∃ a:V,Blk w' af 118 a.cells/\(0<lo->a=eAt t (lo-1)))/\(z.1=true↔0<lo)/\(∀ i,i<lo->G i)/\(∀ i,hi<=i->i<t.sz->¬ G i)/\z.2<=(Jr t.sz-Jr (hi-lo))*(D.n*D.Hm))
  (λlo hi _=>hi-lo) 0 t.sz (false,0) sB
  ⟨Nat.zero_le _,Nat.le_refl _,GrN.refl _ _,⟨V0,aw.ext a4,λh=>absurd h (Nat.lt_irrefl 0)⟩,⟨(λh=>by cases h),λh=>absurd h (Nat.lt_irrefl 0)⟩,λi hi=>absurd hi (Nat.not_lt_zero i),λi h1 h2=>absurd h2 om,Nat.zero_le _⟩ ?_
 rintro lo hi ⟨fd,st⟩ w6 ⟨d0,cb,ac,⟨a3,ae,Z⟩,ah,ax,bi,aa⟩;simp only at ah aa;have a9:Ext w w6:=ac.old be λk hk=>by rw[hk];omega
 have cp:st<=17*70000000:=by
  refine nL aa (Nat.mul_le_mul om om)
 refine ρ ?_;refine ci (λh=>?_) (λh=>?_)
 .have cz:lo<hi:=by have:=oT h;omega
  clear h;refine ρ ?_;refine qn (hi-lo) 2 ?_;refine ρ ?_;have ar:(lo:Int)+((hi-lo) / 2:Nat)=((lo+(hi-lo) / 2:Nat):Int):=om
  obtain⟨o,hm⟩:∃ o,o=lo+(hi-lo) / 2:=⟨_,rfl⟩;rw[<-hm]at ar;refine Go.Wk.kv 16 (congrArg (Value.int .i64) ar) ?_;have cy:lo<=o:=om
  have cx:o<hi:=om
  have bs:=Jv bw ac om;refine ρ ?_;refine ldW bs ?_;refine ρ ?_;refine cl (Qgf (k:=o) (hT.ext a9) om hnb om) ?_;rintro u w7 ⟨TA,tn,tc,rfl,ag⟩;have bd:=a9.trans ag;refine ρ ?_;refine alc (cs:=V0.cells) Yz ?_;intro w8 cm c6 bn c2;refine ρ ?_;refine stb (cs':=(eAt t o).cells) c2 ?_ (V.one _);intro w9 b7 d3 c5;have ai:Ext w7 w9:=c5 w7 c6 bn;have ak:=ag.trans ai;have bc:=bd.trans ai;have a7:Ext w9 w9.drew:=(Ext.refl w9).drew;have an:=bc.trans a7;have av:=((Jv bz ac om).ext ak).ext a7;have a1:=b7.ext a7;have bg:=Rd.ext hq an;refine ρ ?_;have d9:∀ {k:Nat},k<w9.heap.size->¬ w9.drew.heap.size<=k:=λh h'=>by have:=a7.size;have:w9.drew.heap.size=w9.heap.size:=rfl;omega
  have cr:=av.lt;have cn:=a1.lt;refine drM (λk=>w9.drew.heap.size<=k) ?_;refine Ux (fuel':=9) [(0,0),(0,1),(0,3)] #[true,true,false,true,false,false,false,false,false,false,false,false] kr kr rfl ?_;refine ρn ?_;refine Xl (cs:=[.int .i64 (D.k:Int),.int .i64 (D.f:Int),.slice DA D.f dc,.slice MA D.n mc,.slice SA sl sc]) (λw' hg j u hu=>(Jv av hg om).at hu) ?_;refine ρn ?_;refine Xl (cs:=(eAt t o).cells) (λw' hg j u hu=>(Jv a1 hg om).at hu) ?_;refine ρn ?_;refine Uz ?_;refine mcut 7 (lst 12 5) (fun (y:Option Addr×Nat×Nat)=>[(45,.slice y.1 q.length y.2.1),(47,.slice (some ⟨y.2.2,0,none⟩) 1 1),(43,.agg #[.int .i64 (D.k:Int),.int .i64 (D.f:Int),.slice DA D.f dc,.slice MA D.n mc,.slice SA sl sc]),(2,.slice QA q.length qc),(3,kv),(4,.pointer (some ⟨b4,0,none⟩)),(5,.pointer (some ⟨b5,0,none⟩)),(8,.pointer (some ⟨b8,0,none⟩)),(11,.pointer (some ⟨af,0,none⟩)),(12,.bool fd),(13,.int .i64 (st:Int)),(14,.int .i64 (lo:Int)),(15,.int .i64 (hi:Int)),(16,.int .i64 (o:Int)),(17,.pointer (some ⟨cm,0,none⟩))])
   (λy W=>Ext w9.drew W/\W.ownsRow w9.drew.heap.size 118 3 (.slice y.1 q.length y.2.1) q.length (Jh q)/\Blk W y.2.2 118 (Jh [eAt t o])) ?_ ?_
  rotate_left
  .intro rest;refine Jjv 2 4 kr rfl rfl rfl ?_ ?_
   .refine cl (Qvt (Ext.refl _) bg om) ?_;rintro u v1 ⟨ho,J⟩;obtain⟨CA,cc,rfl,ce,_⟩:=Jy ho;refine Jc (Xz (GrN.ext J) ?_);refine Ze 4 kr rfl rfl ?_;refine bsl (Jzn _) ?_;intro v2 b2 C ch a6;refine Jc (Xz (GrN.ext C) ?_);refine Gx (listed':=lst 12 5) kr ?_;exact rest (CA,cc,b2) _ _ ⟨J.trans C,Jk ho C,a6⟩ sB
   refine bsl (Jzn _) ?_;intro v1 b2 J ch a6;refine Jc (Xz (GrN.ext J) ?_);refine Ze 2 kr rfl rfl ?_;refine cl (Qvt J (Rd.ext bg J) om) ?_;rintro u v2 ⟨ho,C⟩;obtain⟨CA,cc,rfl,ce,_⟩:=Jy ho;refine Jc (Xz (GrN.ext C) ?_);refine Gx (listed':=lst 12 5) kr ?_;exact rest (CA,cc,b2) _ _ ⟨J.trans C,ho,a6.ext C⟩ sB
  rintro⟨CA,cc,b2⟩ v1 ⟨J,ho,a6⟩;simp only at ho a6;obtain⟨_,_,_,_,c7⟩:=Jy ho;refine Ze 5 kr rfl rfl ?_;refine apo (a:=w9.drew) J EV ho (a6.rd (n:=1) rfl) (V.one _) (by unfold maxLen;omega) om ?_;intro v' v2 bh C cd _;obtain⟨A3,c3,rfl,cg,_⟩:=Jy bh;have ap:=an.trans C;have ck:RdR v2 A3 (q++[eAt t o]):=by
   have h1:=Rd.own bh;rw[<-rowC_app']at h1;exact(by rw[List.length_append];exact h1:Rd _ 3 A3 (q++[eAt t o]).length (Jh (q++[eAt t o])))
  have b1:(q++[eAt t o]).length=q.length+1:=by simp
  refine Jc (Xz (GrN.by cd λj hj=>(c7 j hj).1) ?_);refine Ze 6 kr rfl rfl ?_;have bm:=Qfp (hV.ext ap) ck (qc:=c3) (by rw[b1];exact cg) (by rw[b1];omega);rw[b1]at bm;refine cl bm ?_;rintro u v3 ⟨nv,sn,rfl,c8,bf,a2⟩;refine Jc (Xz (GrN.ext a2) ?_);refine Ux (fuel':=0) [(0,7),(0,8),(0,9),(0,10),(0,11)] (lst 12 12) kr kr rfl ?_;refine ρn ?_;refine Uz ?_;refine Jwb kr ?_;refine ρ ?_;have ba:Ext w v3:=ap.trans a2;refine cl (Jkz c8 (hk.ext ba)) ?_;rintro u v4 ⟨rfl,am⟩;have aj:Ext w6 v4:=(((ak.trans a7).trans C).trans a2).trans am;have b6:=((a1.ext C).ext a2).ext am;have ad:=ae.ext aj;have au:GrN (λk=>k=af) w5 v4:=ac.trans (GrN.ext aj);have bj:Jr (hi-lo)<=Jr t.sz:=Qxs om;refine ρ ?_;refine ci (λh=>?_) (λh=>?_)
  .have hy:G o:=(aq o).1 (cmpN_le.1 (oT h));clear h;refine ρ ?_;refine lds (cs:=(eAt t o).cells) (λj u hu=>b6.at hu) ?_;refine ρ ?_;refine stb (cs':=(eAt t o).cells) ad ?_ (V.one _);intro v5 b9 bl co;refine ρ ?_;refine Qp (o+1) hi (true,st+sn) sO ⟨om,cb,au.trans (GrN.by bl λj hj=>by injection hj with hj;exact hj.symm),⟨_,b9,λ_=>by rw[Nat.add_sub_cancel]⟩,⟨λ_=>om,λ_=>rfl⟩,λi d2=>ab i o om om hy,bi,Jsl (Qxt om om) bj aa bf⟩ om
  have hy:¬ G o:=λhy=>oF h (cmpN_le.2 ((aq o).2 hy));clear h;refine ρ ?_;refine Qp lo o (fd,st+sn) sO ⟨om,om,au,⟨a3,ad,Z⟩,ah,ax,λi h1 h2 c4=>hy (ab o i h1 h2 c4),Jsl (Qxt om om) bj aa bf⟩ om
 have c9:lo=hi:=by have:=oF h;omega
 subst c9;have bp:=Jv bq ac om;refine ρ ?_;refine lds (cs:=a3.cells) (λj u hu=>ae.at hu) ?_;refine ρ ?_;refine stb (cs':=a3.cells) bp ?_ (V.one _);intro w7 bo d4 ag;refine ρ ?_;have hL:LastP (D.ds.getD q.length false) want t.toL lo:=⟨om,λi hi=>by have:=ax i hi;rw[O]at this;exact this,λi h1 h2=>by have:=bi i h1 om;rw[O]at this;exact this⟩;refine Jzd bo ⟨a3,fd,st,rfl,ag w a9 om,λh=>?_,λh=>?_,?_⟩
 .have h0:=ah.1 h;rw[Z h0];have:=ax (lo-1) om;rw[O]at this;exact this
 .obtain⟨h0,h1⟩:=hL.end hs h;exact⟨ah.2 h0,(Z h0).trans h1⟩
 refine nL aa (nO _ om)
open Go.RowKit Pl Go.Wk
variable {cs:List Value}{Sz c k qc v:Nat}{A QA:Option Addr}{q r:Row}{D:UD}{w:World}
def SF.rv(y:Row): SF:=⟨λv w=>RowV w v y,λh hx=>h.ext hx⟩
def SF.bu(w0:World)(t:Tr)(b:Bool): SF:=⟨λv _=>∃ d p,v=.tuple #[.agg #[.bool d,.pointer p],.bool b]/\TrV (λ_=>False) w0 t (.pointer p),λh _=>h⟩
def SF.bt(w0:World)(t:Tr): SF:=⟨λv _=>∃ d p,v=.agg #[.bool d,.pointer p]/\TrV (λ_=>False) w0 t (.pointer p),λh _=>h⟩
theorem Qmn{ds:List Bool}(h:RdB w A ds)(hv:v<ds.length)(hc:ds.length<=c): RdB w (if c=v then A else A.map (·.add (v*1))) [ds.getD v false]:=by
 have:=Rd.cut h v (v+1) c om om om;have e:((ds.map Value.bool).drop (v*1)).take ((v+1-v)*1)=[Value.bool (ds.getD v false)]:=by
  refine List.ext_getElem (by simp;omega) λi u o=>?_;grind
 grind
theorem Qfm(hV:UnV w D cs)(hv:v<D.f)(a b:V):
  Ret Tryz.prog 93 [.agg cs.toArray,.int .i64 (v:Int),a.val,b.val] w λu w'=>u=.bool (decide (0<neg (D.ds.getD v false) (cmpV a b)))/\Ext w w':=by
 obtain⟨DA,dc,MA,mc,SA,sl,sc,rfl,h2,h3,h4,h5,h6⟩:=id hV.ex;refine Jz Tryz.func93 Tryz.ntmps93 rfl kr rfl ?_;refine ρ ?_;refine bx ?_;intro w1 b4 a7 aj af;refine ρ ?_;refine bx (cs:=a.cells) ?_;intro w2 b6 a2 ai ae;refine ρ ?_;refine bx (cs:=b.cells) ?_;intro w3 b7 O ah ad;have a3:=(a7.trans a2).trans O;have C:Ext w3 w3.drew:=(Ext.refl w3).drew;have G:=a3.trans C;have a6:=((af.ext a2).ext O).ext C;have a5:=(ae.ext O).ext C;have a4:=ad.ext C;have aa:(v:Int)+1=((v+1:Nat):Int):=om
 have ag:v<1000000:=by
  have h0:0<D.n:=by
   have:=hV.up.k1;grind [Nat.pow_le_pow_right,UD.n]
  have:=(hV.ix 0 h0).ip.f32;omega
 refine ρ ?_;refine drH (λi=>false) ?_;refine Zv (fuel':=5) 14 [(0,0),(0,2),(0,4),(0,5),(0,6),(0,7),(0,8),(0,9)] #[true,false,true,false,true,true,true,true,true,true,false,false,false] kr kr rfl ?_;refine ρd ?_;refine Jo (cs:=a.cells) (λj u hu=>a5.at hu) ?_;refine ρd ?_;refine Jo (cs:=b.cells) (λj u hu=>a4.at hu) ?_;refine ρd ?_;refine dld (a6.at (i:=2) rfl) ?_;refine ρd ?_;refine Xzd Ij v (v+1) dc rfl rfl rfl rfl ⟨_,_,rfl,rfl⟩ ⟨_,_,rfl,aa⟩ rfl (.inl rfl) om om (nR _) rfl ?_;rw[show v+1-v=1 by omega];refine ρd ?_;refine Xf ?_;refine hmkS 14 3 _ #[true,true,true,true,true,true,true,true,true,true,false,false,false] [1,3] [10,12] [SF.r1 a,SF.r1 b] kr (by rfl) ?_ ?_
 .refine gsc (λvs v1 o hd=>?_) ?_
  .simp only[slM];refine bsl (Jzn _) ?_;intro v2 b2 J ab Z;exact Jc (Xo J ⟨b2,rfl,Z⟩)
  refine gsc (λvs v1 o hd=>?_) gse
  simp only[slM];refine bsl (Jzn _) ?_;intro v2 b2 J ab Z;exact Jc (Xo J ⟨b2,rfl,Z⟩)
 intro vs v1 o hd;obtain⟨ba,ea,a9⟩:=hd 0;obtain⟨bb,eb,a8⟩:=hd 1;simp only[slM,ea,eb];have ac:=Qmn (h4.ext (G.trans o)) (v:=v) (c:=dc) (by rw[h3];exact hv) om;refine Zv (fuel':=0) 14 [(1,10),(0,11),(0,12)] #[true,true,true,true,true,true,true,true,true,true,true,true,true] kr kr rfl ?_;refine dcl (Qwv (a:=[a]) (b:=[b]) (ds:=[D.ds.getD v false]) ⟨_,_,rfl,Nat.le_refl _,by simp,a9.rd rfl⟩ ⟨_,_,rfl,Nat.le_refl _,by simp,a8.rd rfl⟩ ⟨_,dc-v,rfl,by simp;omega,by simp,ac⟩) ?_;rintro u w4 ⟨rfl,a1⟩;refine⟨a1,?_⟩;refine ρd ?_;refine Xf ?_;refine Vf kr ?_;refine ρ ?_;refine Jj ⟨?_,(G.trans o).trans a1⟩;have:=Qvk (a:=a) (b:=b) (p:=[]) (ds:=[D.ds.getD v false]);grind
theorem UnV.row(hV:UnV w D cs)(hr:r∈D.U): ∃ i,i<D.k/\2^i-1<D.n/\2^i-1+1=2^i/\r∈D.M (2^i):=by
 obtain⟨i,hi,h⟩:=(hV.up.um r).1 hr;have o:2^i<2^D.k:=Nat.pow_lt_pow_right om hi;grind [Nat.one_le_two_pow,UD.n]
theorem UnV.fit(hV:UnV w D cs)(hr:r∈D.U): ∀ u∈r,Xb u/\u.bytes.length<=24:=by
 obtain⟨i,_,G,C,o⟩:=hV.row hr;have:=(hV.ix _ G).ip;rw[C]at this;exact this.fitR o
theorem Qfn{kv:Value}(hV:UnV w D cs)(hq:RdR w QA q)(hqc:q.length<=qc)(hk:NatV w kv k)(hkl:k<D.U.length)(hqf:q.length<D.f)(hq2:q=(D.U.getD k []).take q.length)(hS:∀ i,i<D.k->∀ v,v<D.f->∀ key,(trK (D.BB (2^i-1) v) key).sz<=Sz)(hS2:Sz<=65536):
  Ret Tryz.prog 53 [.agg cs.toArray,.int .i64 (q.length:Int),.slice QA q.length qc,kv] w λu w'=>∃ st:Nat,u=.tuple #[((D.U.getD k []).getD q.length V0).val,.bool true,.int .i64 (st:Int)]/\Ext w w'/\st<=D.k*(Jr Sz*(D.n*D.Hm)):=by
 have n7:=hV.n7;have dt:=hV.up.k3;have bi:D.U.getD k []∈D.U:=getD_mem' [] _ hkl;have dx:=hV.up.len _ bi;have cb:=hV.fit bi;have bb:∀ u∈q,Xb u/\u.bytes.length<=24:=λu hu=>cb u (by rw[hq2]at hu;exact List.mem_of_mem_take hu);obtain⟨i0,d1,c7,dh,bc⟩:=hV.row bi;obtain⟨DA,dc,MA,mc,SA,sl,sc,rfl,h2,h3,h4,h5,h6⟩:=id hV.ex;have e6:(D.f:Nat)<=32:=(hV.ix _ c7).ip.f32;obtain⟨O,a4⟩:∃ O,O=(D.U.getD k []).getD q.length V0:=⟨_,rfl⟩;rw[<-a4];have cz:Jr Sz<=17:=Gk om;have dz:D.n*D.Hm<=7*10000000:=Nat.mul_le_mul n7 hV.hl;obtain⟨C,hC⟩:∃ C,C=Jr Sz*(D.n*D.Hm):=⟨_,rfl⟩;have d9:C<=17*70000000:=by rw[hC];exact Nat.mul_le_mul cz om
 rw[<-hC];refine Jz Tryz.func53 Tryz.ntmps53 rfl kr rfl ?_;refine ρ ?_;refine bx ?_;intro w1 b4 c1 dw cn;refine ρ ?_;refine alc (cs:=V0.cells) Yz ?_;intro w2 b8 b9 dv cm;refine ρ ?_;refine alc (cs:=V0.cells) Yz ?_;intro w3 aj an dj b3;have c3:=(c1.trans b9).trans an;have b2:=(cn.ext b9).ext an;have ck:=cm.ext an;have l4:=cn.lt;have l8:=cm.lt;have dm:=b3.lt;have s1:=c1.size;have s2:=b9.size;have s3:=an.size;refine ρ ?_;refine ld (b2.at (i:=0) rfl) ?_;refine ρ ?_;refine Jt (fun (i:Nat) (z:Bool×Nat)=>[(1,.int .i64 (q.length:Int)),(2,.slice QA q.length qc),(3,kv),(4,.pointer (some ⟨b4,0,none⟩)),(8,.pointer (some ⟨b8,0,none⟩)),(11,.pointer (some ⟨aj,0,none⟩)),(12,.bool z.1),(13,.int .i64 (z.2:Int)),(22,.int .i64 (D.k:Int)),(23,.int .i64 (i:Int))])
  (λi z w'=>i<=D.k/\GrN (λk=>k=aj) w3 w'/\(∃ a:V,Blk w' aj 118 a.cells/\BestP (D.ds.getD q.length false) O (λj=>D.U.getD k []∈D.M (2^j)) i z.1 a)/\z.2<=i*C)
  (λi _=>D.k-i) 0 (false,0) sB
  ⟨Nat.zero_le _,GrN.refl _ _,⟨V0,b3,BestP.start _ _ _ _⟩,Nat.zero_le _⟩ ?_
 rintro i ⟨fd,st⟩ w4 ⟨hi,ad,⟨a1,a3,a6⟩,ao⟩;simp only at a6 ao;have a9:Ext w w4:=ad.old c3 λk hk=>by rw[hk];omega
 have df:st<=3*(17*70000000):=nL ao (Nat.mul_le_mul om d9);have ai:=Jv b2 ad om;refine ρ ?_;refine ci (λh=>?_) (λh=>?_)
 .have li:i<D.k:=by have:=oT h;omega
  clear h;have c8:i=0∨i=1∨i=2:=om
  obtain⟨s,hs⟩:∃ s,s=2^i:=⟨_,rfl⟩;have dq:1<=s:=by rw[hs];exact Nat.one_le_two_pow
  have a5:s-1<D.n:=by
   have:2^i<2^D.k:=Nat.pow_lt_pow_right om li;unfold UD.n;omega
  have dn:s<=4:=by rw[hs];rcases c8 with rfl|rfl|rfl<;>decide
  obtain⟨A,B,C',D',E,a,b,c',d,e,a',b',c2,d',e',bs⟩:=hV.x5 (s-1) a5;have b1:∀ i,i<D.n->(D.xc i).length=5:=λi hi=>by obtain⟨A,B,C,D',E,a,b,c',d,e,a',b',c2,d',e',h⟩:=hV.x5 i hi;rw[h];rfl
  have a2:=hV.ix (s-1) a5;rw[bs,show s-1+1=s by omega]at a2;have b6:Ext w4 w4.drew:=(Ext.refl w4).drew;have aw:=a9.trans b6;have da:=ai.ext b6;refine ρ ?_;refine dr [(0,0),(0,1),(0,2),(0,3),(0,4),(0,5),(0,6),(1,7),(2,8)] kr ?_;refine ρd ?_;refine dld (da.at (i:=3) rfl) ?_;refine ρd ?_;refine dshl ?_ (h0:=by omega);refine dkv 29 (show Value.int .i64 (IntKind.i64.wrap (1*2^min ((i:Int)).toNat IntKind.i64.bits))=.int .i64 (s:Int) by rw[hs];rcases c8 with rfl|rfl|rfl<;>rfl) ?_;refine ρd ?_;refine Vw 5 (s-1) (h5.ext aw) a5 ?_;refine ρd ?_;refine Jo (cs:=[.slice A a a',.slice B b b',.slice C' c' c2,.slice D' d d',.slice E e e']) (λj u hu=>?_) ?_
  .rw[<-bs]at hu;have hj:j<5:=by
    rcases Nat.lt_or_ge j 5 with h'|h'
    .exact h'
    rw[List.getElem?_eq_none (by rw[b1 _ a5];omega)]at hu;cases hu
   rw[Qo];exact Rd.cell (h5.ext aw) (by rw[Vh b1 a5 hj];exact hu)
  refine ρd ?_;refine dalc' Gl ?_;intro w5 e7 cv ce cp;refine Qj ?_;refine stW cp ?_;intro w6 bm du cr;have br:Ext w4.drew w6:=cr w4.drew cv ce;have au:=b6.trans br;have ax:=a9.trans au;refine ρ ?_;have ak:Ext w6 w6.drew:=(Ext.refl w6).drew;have av:=ax.trans ak;have cg:=bm.ext ak;have bh:=a2.ext av;obtain⟨B0,tb⟩:=bh.tb;obtain⟨t,ht⟩:∃ t,t=trK (D.BB (s-1) q.length) (pmR (bk (D.kf (s-1) q.length) 32) q):=⟨_,rfl⟩;obtain⟨bo,cc⟩:∃ bo,bo=(Zg (D.BB (s-1) q.length) (pmR (bk (D.kf (s-1) q.length) 32) q)).isSome:=⟨_,rfl⟩;have cx:Uw (D.ds.getD q.length false) t.toL:=by rw[ht];exact a2.ip.srtT hqf _
  have cy:Nb t.sum:=by rw[ht];exact Nb.pow (k:=1) (by rw[Nat.pow_one];exact a2.ip.big _ _) om
  have cw:t.sz<=Sz:=by rw[ht,hs];exact hS i li _ hqf _
  have ba:D.U.getD k []∈D.M (2^i)->O∈t.toL.map (·.1)/\bo=true:=λhm=>by
   have:=a2.ip.val (r:=D.U.getD k []) (by rw[hs];exact hm) hqf;rw[<-hq2,<-a4,<-ht]at this;exact⟨this,by rw[cc];exact Xqm (by rw[<-ht];exact this)⟩
  refine drH (λi=>Nat.ble 11 i) ?_;refine Zv (fuel':=8) 14 [(0,0),(0,1),(0,2),(0,3),(0,4)] (lst 13 5) kr kr rfl ?_;refine ρd ?_;refine Jo (λj u hu=>cg.at hu) ?_;refine ρd ?_;refine Jo (λj u hu=>cg.at hu) ?_;refine ρd ?_;refine Xf ?_;have c4:=a2.ip.kv q.length hqf;refine Jwp 2 (lst 13 11) (fun (y:Bool×Option Addr×Nat)=>[(41,.agg #[.bool y.1,.pointer y.2.1]),(42,.bool bo),(16,.pointer (some ⟨y.2.2,0,none⟩)),(1,.int .i64 (q.length:Int)),(2,.slice QA q.length qc),(3,kv),(4,.pointer (some ⟨b4,0,none⟩)),(8,.pointer (some ⟨b8,0,none⟩)),(11,.pointer (some ⟨aj,0,none⟩)),(12,.bool fd),(13,.int .i64 (st:Int)),(22,.int .i64 (D.k:Int)),(23,.int .i64 (i:Int))])
   (λy W=>Ext w6.drew W/\Blk W y.2.2 91 [.bool false,.pointer none]/\w6.drew.heap.size<=y.2.2/\TrV (λ_=>False) w6.drew t (.pointer y.2.1)) ?_ ?_
  rotate_left
  .intro rest;refine Qkg 17 9 2 _ (lst 13 11) [5,6,7,8,9,10] [39,40,33,41,42,16] [SF.rv (pmR (bk (D.kf (s-1) q.length) 32) q),SF.bu w6.drew t bo,SF.bu w6.drew t bo,SF.bt w6.drew t,SF.eq (.bool bo),SF.tbox w6.drew.heap.size] kr (by rfl) ?_ ?_ ?_
   .refine gsc (λvs w9 J hd=>?_) ?_
    .simp only[slM];refine cl (Qzm (bh.ix.ext J) hqf (Rd.ext hq (av.trans J)) hqc om c4) ?_;rintro uk W ⟨⟨KA,kc,rfl,c6,c5,bg,_⟩,hy⟩;exact Jc (Xo hy ⟨KA,kc,rfl,c6,c5,bg⟩)
    refine gsc (λvs w9 J hd=>?_) ?_
    .obtain⟨KA,kc,e0,c6,c5,bg⟩:=hd 0;simp only[slM,e0];refine cl (Qzp (tb.ext J) J bh.ix hqf bg (Xxl bb _)) ?_;rintro u W ⟨d,p,rfl,hT,_,hy⟩;rw[<-ht]at hT;rw[<-cc];exact Jc (Xo hy ⟨d,p,rfl,hT⟩)
    refine gsc (λvs w9 J hd=>?_) ?_
    .obtain⟨d,p,e1,hT⟩:=hd 1;simp only[slM,e1];refine ρ ?_;exact Xo (Ext.refl _) ⟨d,p,rfl,hT⟩
    refine gsc (λvs w9 J hd=>?_) ?_
    .obtain⟨d,p,e2,hT⟩:=hd 2;simp only[slM,e2];refine ρ ?_;exact Xo (Ext.refl _) ⟨d,p,rfl,hT⟩
    refine gsc (λvs w9 J hd=>?_) ?_
    .obtain⟨d,p,e2,hT⟩:=hd 2;simp only[slM,e2];refine ρ ?_;exact Xo (Ext.refl _) rfl
    refine gsc (λvs w9 J hd=>?_) gse
    simp only[slM];refine alc Gg ?_;intro W ae hy o G;exact Jc (Xo hy ⟨ae,rfl,Nat.le_trans J.size o,G⟩)
   .intro vs v1 ac hd;obtain⟨d,p,e3,hT⟩:=hd 3;have e4:vs 4=_:=hd 4;obtain⟨ae,e5,o,G⟩:=hd 5;simp only[slM,e3,e4,e5];exact rest (d,p,ae) _ _ ⟨ac,G,o,hT⟩ sB
   intro _ vs v1 ac hd;obtain⟨d,p,e3,hT⟩:=hd 3;obtain⟨d2,p2,e2,_⟩:=hd 2;obtain⟨ae,e5,o,G⟩:=hd 5;simp only[slM,e3,e2,e5];refine Gv (fuel':=2) 9 kr kr rfl rfl ?_;refine ρp ?_;refine ρd ?_;refine Xf ?_;refine hlist (listed':=lst 13 11) kr ?_;exact rest (d,p,ae) _ _ ⟨ac,G,o,hT⟩ sB
  rintro⟨d,p,ae⟩ v1 ⟨ac,G,o,hT⟩;simp only at G o hT;refine Zv (fuel':=0) 17 [(2,11),(2,12)] (lst 13 13) kr kr rfl ?_;refine Qj ?_;refine stW G ?_;intro w7 bl d3 am;refine Jc (Qs ?_);refine Qj ?_;refine ρ ?_;refine Qs ?_;refine Kr (Xf ?_);refine Vf kr ?_;have ar:Ext w6 w7:=am w6 (ak.trans ac) (nL ak.size o);have bq:Ext w6.drew w7:=am w6.drew ac o;have a7:=au.trans ar;have ag:=ax.trans ar;have c9:=ad.trans (GrN.ext a7);have bn:=a3.ext a7;refine ρ ?_;cases bo with
  | false=>
   refine ρ ?_;refine Jf (i+1) (fd,st) sO ⟨li,c9,⟨a1,bn,a6.skip λhm=>by have:=(ba hm).2;cases this⟩,Nat.le_trans ao (nO _ om)⟩ om
  | true=>
   refine ρ ?_;refine ldW (ai.ext a7) ?_;refine ρ ?_;refine ldW bl ?_;refine ρ ?_;refine cl (Qfl (hV.ext ag) (Rd.ext hq ag) hqc (hk.ext ag) hkl hqf hq2 (hT.ext bq) cx cy om) ?_;rintro u w8 ⟨val,fo,sn,rfl,cq,bf,be,a5⟩;rw[<-a4]at bf be;have dg:sn<=C:=by
    rw[hC];exact nL a5 (nO _ (Qxs cw))
   refine ρ ?_;refine alc (cs:=V0.cells) Yz ?_;intro w9 db J cd co;refine ρ ?_;refine stb (cs':=val.cells) co ?_ (V.one _);intro bp aa di bz;have b7:Ext w8 bp:=bz w8 J cd;have Z:=(a7.trans cq).trans b7;have d4:=ad.trans (GrN.ext Z);have aq:=a3.ext Z;have bj:=ai.ext Z;have ay:st+sn<=(i+1)*C:=by rw[Nat.succ_mul];omega
   have bd:D.U.getD k []∈D.M (2^i)->val=O:=λhm=>(be (ba hm).1).2;refine ρ ?_;have de:(st:Int)+(sn:Int)=((st+sn:Nat):Int):=om
   refine Vn (fun (t:Bool)=>[(68,.bool t),(1,.int .i64 (q.length:Int)),(2,.slice QA q.length qc),(3,kv),(4,.pointer (some ⟨b4,0,none⟩)),(8,.pointer (some ⟨b8,0,none⟩)),(11,.pointer (some ⟨aj,0,none⟩)),(12,.bool fd),(13,.int .i64 ((st:Int)+(sn:Int))),(18,.pointer (some ⟨db,0,none⟩)),(22,.int .i64 (D.k:Int)),(23,.int .i64 (i:Int))])
    (λt b5=>Ext bp b5/\(t=true->BestP (D.ds.getD q.length false) O (λj=>D.U.getD k []∈D.M (2^j)) (i+1) true val)/\(t=false->BestP (D.ds.getD q.length false) O (λj=>D.U.getD k []∈D.M (2^j)) (i+1) fd a1)) ?_ ?_
   .cases fo with
    | false=>
     refine ρ ?_;exact Jb false sB ⟨Ext.refl _,λh=>(by cases h),λ_=>a6.skip λhm=>by have:=(be (ba hm).1).1;cases this⟩
    | true=>
     cases fd with
     | false=>
      refine ρ ?_;exact Jb true sB ⟨Ext.refl _,λ_=>a6.take (bf rfl) bd (.inl rfl),λh=>(by cases h)⟩
     | true=>
      refine ρ ?_;refine ldW bj ?_;refine ρ ?_;refine lds (cs:=val.cells) (λj u hu=>aa.at hu) ?_;refine ρ ?_;refine lds (cs:=a1.cells) (λj u hu=>aq.at hu) ?_;refine ρ ?_;refine cl (Qfm (hV.ext (a9.trans Z)) hqf val a1) ?_;rintro u b5 ⟨rfl,bw⟩;refine ρ ?_;refine Jb _ sB ⟨bw,λh=>a6.take (bf rfl) bd (.inr (oT h)),λh=>a6.keep bd (by have:=oF h;omega)⟩
   rintro dl b5 ⟨a8,d8,d7⟩;have af:=Z.trans a8;have ah:=ad.trans (GrN.ext af);have ab:=a3.ext af;refine ρ ?_;refine ci (λh=>?_) (λh=>?_)
   .refine ρ ?_;refine lds (cs:=val.cells) (λj u hu=>(aa.ext a8).at hu) ?_;refine ρ ?_;refine stb (cs':=val.cells) ab ?_ (V.one _);intro dk ap ca dd;refine ρ ?_;refine Jf (i+1) (true,st+sn) sO ⟨li,ah.trans (GrN.by ca λj hj=>by injection hj with hj;exact hj.symm),⟨val,ap,d8 h⟩,ay⟩ om
   refine ρ ?_;refine Jf (i+1) (fd,st+sn) sO ⟨li,ah,⟨a1,ab,d7 h⟩,ay⟩ om
 have d0:i=D.k:=by have:=oF h;omega
 subst d0;obtain⟨d6,d5⟩:=a6.has ⟨i0,d1,bc⟩;subst d6;subst d5;have cj:=Jv ck ad om;refine ρ ?_;refine lds (cs:=a1.cells) (λj u hu=>a3.at hu) ?_;refine ρ ?_;refine stb (cs':=a1.cells) cj ?_ (V.one _);intro w7 ch d3 am;refine ρ ?_;exact Jzd ch ⟨st,rfl,am w a9 om,ao⟩
open Go.RowKit Pl Go.Wk
variable {cs:List Value}{Sz k m n:Nat}{D:UD}{w:World}
theorem cmpN_ge: 0<=Yq n m↔m<=n:=by
 unfold Yq;grind
theorem Jrm{kv:Value}(hV:UnV w D cs)(hk:NatV w kv k)(hS:∀ i,i<D.k->∀ v,v<D.f->∀ key,(trK (D.BB (2^i-1) v) key).sz<=Sz)(hS2:Sz<=65536)(hf:D.f<=32):
  Ret Tryz.prog 16 [.agg cs.toArray,kv] w λu w'=>Ext w w'/\(D.U.length<=k->u=.tuple #[.slice none 0 0,.int .i64 0,.int .i64 3]) /\
   (k<D.U.length->∃(A:Option Addr) (c st:Nat),u=.tuple #[.slice A (D.U.getD k []).length c,.int .i64 (st:Int),.int .i64 0]/\RdR w' A (D.U.getD k [])/\(D.U.getD k []).length<=c/\st<=D.f*(D.k*(Jr Sz*(D.n*D.Hm)))):=by
 have n7:=hV.n7;have ar:=hV.up.k3;obtain⟨DA,dc,MA,mc,SA,sl,sc,rfl,h2,h3,h4,h5,h6⟩:=id hV.ex;have aq:Jr Sz<=17:=Gk om;have be:D.n*D.Hm<=7*10000000:=Nat.mul_le_mul n7 hV.hl;obtain⟨C,hC⟩:∃ C,C=D.k*(Jr Sz*(D.n*D.Hm)):=⟨_,rfl⟩;have ay:C<=3*(17*70000000):=by rw[hC];exact Nat.mul_le_mul ar (Nat.mul_le_mul aq om)
 rw[<-hC];refine Jz Tryz.func16 Tryz.ntmps16 rfl kr rfl ?_;refine ρ ?_;refine bx ?_;intro w1 b2 a2 bd ai;refine ρ ?_;refine ld (ai.at (i:=4) rfl) ?_;refine ρ ?_;refine cl (Jkz (hk.ext a2) (h6.ext a2)) ?_;rintro u w2 ⟨rfl,a9⟩;have O:=a2.trans a9;refine ρ ?_;refine ci (λh=>?_) (λh=>?_)
 .have b9:D.U.length<=k:=cmpN_ge.1 (oT h);refine ρ ?_;exact Ge ⟨O,λ_=>rfl,λh=>absurd h om⟩
 have ac:k<D.U.length:=by
  have:=oF h;rcases Nat.lt_or_ge k D.U.length with h1|h1
  .exact h1
  exact absurd (cmpN_ge.2 h1) this
 clear h;have ax:D.U.getD k []∈D.U:=getD_mem' [] _ ac;have af:=hV.up.len _ ax;obtain⟨r,hr⟩:∃ r,r=D.U.getD k []:=⟨_,rfl⟩;rw[<-hr]at af ⊢;have Z:=ai.ext a9;refine ρ ?_;refine bsl Kt ?_;intro w3 b3 a8 aw b4;have ah:=Z.ext a8;refine ρ ?_;refine ld (ah.at (i:=1) rfl) ?_;refine ρ ?_;refine Xm (fun (v:Nat) (pv:Value) (st:Nat)=>[(1,kv),(2,.pointer (some ⟨b2,0,none⟩)),(7,pv),(8,.int .i64 (st:Int)),(20,.int .i64 (D.f:Int)),(21,.int .i64 (v:Int))])
  (λv pv st w'=>v<=D.f/\Ext w2 w'/\w'.ownsRow w2.heap.size 118 3 pv v (Jh (r.take v))/\st<=v*C) (λv _ _=>D.f-v) 0 (.slice (some ⟨b3,0,none⟩) 0 0) 0 sB
  ⟨Nat.zero_le _,a8,b4.own (n:=0) aw rfl (Nat.zero_le _),Nat.zero_le _⟩ ?_
 rintro v pv st w4 ⟨hv,o,a4,ab⟩;have J:=O.trans o;have ag:=Z.ext o;obtain⟨A3,c3,rfl,bb,av⟩:=Jy a4;have b5:st<=32*(3*(17*70000000)):=nL ab (Nat.mul_le_mul om ay);have a3:(r.take v).length=v:=by rw[List.length_take];omega
 have a5:RdR w4 A3 (r.take v):=by
  have:=Rd.own a4;exact(by rw[a3];exact this:Rd w4 3 A3 (r.take v).length (Jh (r.take v)))
 refine ρ ?_;refine ci (λh=>?_) (λh=>?_)
 .have lv:v<D.f:=by have:=oT h;omega
  clear h;refine ρ ?_;refine ldW ag ?_;refine ρ ?_;have ad:=Qfn (q:=r.take v) (qc:=c3) (hV.ext J) a5 om (hk.ext J) ac om (by rw[a3,hr]) hS hS2;rw[a3,<-hC,<-hr]at ad;refine cl ad ?_;rintro u w5 ⟨sn,rfl,an,b6⟩;refine ρ ?_;refine alc (cs:=V0.cells) Yz ?_;intro w6 bf am ae aj;refine ρ ?_;refine stb (cs':=(r.getD v V0).cells) aj ?_ (V.one _);intro w7 a6 ba ak;have a7:Ext w5 w7:=ak w5 am ae;have G:=an.trans a7;refine ρ ?_;refine lds (cs:=(r.getD v V0).cells) (λj u hu=>a6.at hu) ?_;refine ρ ?_;refine bsl (Jzn _) ?_;intro w8 b8 a1 bc b1;refine ρ ?_;refine apb (m':=1) (news:=Jh [r.getD v V0]) EV (Jk a4 (G.trans a1)) (b1.rd (n:=1) rfl) (Jxb _) (by unfold maxLen;omega) om ((o.trans G).trans a1).size ?_;intro v9 w9 ap au b7;have aa:st+sn<=(v+1)*C:=by rw[Nat.succ_mul];omega
  have e:r.take (v+1)=r.take v++[r.getD v V0]:=Qc V0 om;refine ρ ?_;refine Qp (v+1) v9 (st+sn) sO ⟨lv,Qg ((o.trans G).trans a1) au (λg eg=>(av g eg).1),?_,aa⟩ om;rw[e,rowC_app'];exact ap
 have ao:v=D.f:=by have:=oF h;omega
 clear h;subst ao;rw[show r.take D.f=r from List.take_of_length_le om]at a5;refine ρ ?_;refine Ge ⟨J,λh=>absurd h om,λ_=>⟨A3,c3,st,?_,a5,om,ab⟩⟩;rw[af]
theorem UnV.sz(h:UnV w D cs): ∀ i,i<D.k->∀ v,v<D.f->∀ key,(trK (D.BB (2^i-1) v) key).sz<=65536:=λi hi v o key=>by
 have C:2^i<2^D.k:=Nat.pow_lt_pow_right om hi;have u:=Nat.one_le_two_pow (n:=i);exact(h.ix _ (by unfold UD.n;omega)).ip.siz v key
theorem UnV.f32{w:World}{D:UD}{cs:List Value}(h:UnV w D cs): D.f<=32:=by
 have u:=h.up.k1;have o:2^1<=2^D.k:=by grind
 exact(h.ix 0 (by unfold UD.n;omega)).ip.f32
end Go.Proofs.YtbcdghbonlifdaaGreatDoor
namespace Go.Wk
open Go.RowKit
theorem OwnM.other{α:Type}{E:TypeId}{sz base:Nat}{Φ:World->List Value->α->Prop}{N:Nat->Prop}{w w':World}{v vp vp':Value}{ls:List α}(h:OwnM E sz Φ (λk=>N k∨vp.ownBlock=some k) w base v ls)(hg:w.grownBy w' vp.ownBlock)(hn:∀ g,vp'.ownBlock=some g->vp.ownBlock=some g∨w.heap.size<=g)(hd:∀ g,v.ownBlock=some g->¬ vp.ownBlock=some g): OwnM E sz Φ (λk=>N k∨vp'.ownBlock=some k) w' base v ls:=by
 obtain⟨ps,O,J,C⟩:=h;have u:GrN (λk=>vp.ownBlock=some k) w w':=GrN.by hg λk o=>o
 refine⟨ps,O,Js J u hd,λp hp=>⟨(C p hp).1,λW D=>(C p hp).2 W ?_⟩⟩;have G:GrN (λk=>((N k∨vp.ownBlock=some k)∨v.ownBlock=some k)∨w.heap.size<=k) w W:=(u.mono λk _ o=>(.inl (.inl (.inr o)):((N k∨vp.ownBlock=some k)∨v.ownBlock=some k)∨w.heap.size<=k)).trans (D.mono λk _ o=>by grind);exact G.mono λk o h=>h.elim id λZ=>by omega
end Go.Wk
namespace Go.Proofs.YtbcdghbonlifdaaGreatDoor
open Go.RowKit Pl Go.Wk
attribute [local irreducible] WC WL QX WD WDB WP WN WG WH WM
variable {ats ats':List Atm}{ds:List Bool}{ps ps':List Nat}{Ms:List UMem}{b12 bR base c f n:Nat}{M:UMem}{dv va vp:Value}{W W1 w wC:World}
def um0: UMem:=⟨0,[],[]⟩
structure InsM(w:World)(A:Option Addr)(f:Nat)(ds:List Bool)(Ms:List UMem)(xc:Nat->List Value): Prop where
 rd:Rd w 5 A Ms.length (Qk Ms.length xc)
 el:∀ i,i<Ms.length->InC w (Yb f ds (Ms.getD i um0)) (xc i)
theorem InsM.ext{w w':World}{A:Option Addr}{f:Nat}{ds:List Bool}{Ms:List UMem}{xc:Nat->List Value}(h:InsM w A f ds Ms xc)(hx:Ext w w'): InsM w' A f ds Ms xc:=⟨h.rd.ext hx,λi hi=>(h.el i hi).ext hx⟩
structure InF(w:World)(f:Nat)(ds:List Bool)(M:UMem)(cs:List Value)(D Q T:Option Addr)(dc pc tc:Nat)(ts:List TA): Prop where
 e:cs=[.int .i64 (M.N:Int),.int .i64 (f:Int),.slice D ds.length dc,.slice Q M.perm.length pc,.slice T M.ats.length tc]
 d:RdB w D ds
 dl:ds.length<=dc/\ds.length<=1100000
 p:Rd w 1 Q M.perm.length (Jp (nz M.perm))
 a:M.ats.map toAtm=ts.map (·.2)
 tl:ts.length=M.ats.length
 t:Rd w 3 T M.ats.length (atC ts)
 at_:∀ p∈ts,AtV w p.1 p.2
theorem InC.inF{cs:List Value}(h:InC w (Yb f ds M) cs): ∃ D Q T dc pc tc ts,InF w f ds M cs D Q T dc pc tc ts:=by
 obtain⟨vd,vp,va,rfl,⟨D,dc,rfl,h1,h2,Z⟩,O,ts,T,tc,G,rfl,h6,h7,C,J⟩:=h;obtain⟨Q,pc,e,a2,a1,u⟩:=IntsV.n O;have o:ts.length=M.ats.length:=by have:=congrArg List.length G;grind [Yb]
 rw[o]at C;exact⟨D,Q,T,dc,pc,tc,ts,by rw[e,o];rfl,Z,⟨h1,h2⟩,u,G,o,C,J⟩
theorem InF.ext{w w':World}{f:Nat}{ds:List Bool}{M:UMem}{cs:List Value}{D Q T:Option Addr}{dc pc tc:Nat}{ts:List TA}(h:InF w f ds M cs D Q T dc pc tc ts)(hx:Ext w w'): InF w' f ds M cs D Q T dc pc tc ts :=
 ⟨h.e,Rd.ext h.d hx,h.dl,h.p.ext hx,h.a,h.tl,h.t.ext hx,λp hp=>(h.at_ p hp).ext hx⟩
structure UMt(f:Nat)(ds:List Bool)(M:UMem): Prop where
 n:M.N<=24
 m:M.ats.length<=32
 asc:∀ a∈M.ats,Ql a.1
 lt:∀ a∈M.ats,∀ v∈a.1,v<M.N
 pm:PermOk M.N f M.perm
 chk:Jqm (Yb f ds M)
theorem Xjd(h:∀ M∈Ms,UOk f M)(hds:ds.length=f)(hne:Ms≠[])(h4:Ms.length<=4): UMt f ds (Qa f Ms):=by
 obtain⟨u,o⟩:=Qvw h hds hne h4;have C:=Jwj (s:=0) h;exact⟨u,by show(jAs f 0 Ms).length<=32;omega,Jll h,Jcf h,Jbz h,o⟩
theorem Xjh(h:f<=M.N): jN f 0 (Ms++[M])=jN f 0 Ms+(M.N-f):=by grind [Gw,Jcc,jN]
theorem Xjg: jPm f 0 (Ms++[M])=jPm f 0 Ms++M.perm.map (ren f (jN f 0 Ms-f)):=by
 rw[Jcb];simp[jPm]
theorem Xjj: jAs f 0 (Ms++[M])=jAs f 0 Ms++M.ats.map (Qn f (jN f 0 Ms-f)):=by
 rw[Jcg];simp[jAs]
structure MtS(wC W:World)(base b12 bR n f:Nat)(dv vp va:Value)(ps:List Nat)(ats:List Atm): Prop where
 ex:Ext wC W
 hb:Blk W b12 42 [.int .i64 (n:Int),.int .i64 (f:Int),dv,vp,va]
 op:W.ownsRow base 3 1 vp ps.length (Jp (nz ps))
 oa:OwnM 100 3 AtG (λk=>(k=b12∨k=bR)∨vp.ownBlock=some k) W base va ats
 dj:∀ g,va.ownBlock=some g->¬ vp.ownBlock=some g
 b1:wC.heap.size<=b12
 b0:bR<b12
 b2:b12<base
 b3:base<=W.heap.size
theorem MtS.ext{wC W W':World}{base b12 bR n f:Nat}{dv vp va:Value}{ps:List Nat}{ats:List Atm}(h:MtS wC W base b12 bR n f dv vp va ps ats)(hx:Ext W W'): MtS wC W' base b12 bR n f dv vp va ps ats :=
 ⟨h.ex.trans hx,h.hb.ext hx,Jk h.op hx,h.oa.ext hx,h.dj,h.b1,h.b0,h.b2,Nat.le_trans h.b3 hx.size⟩
theorem MtS.pf(h:MtS wC W base b12 bR n f dv vp va ps ats): ∃ A c,vp=.slice A ps.length c/\ps.length<=c/\∀ g,vp.ownBlock=some g->base<=g/\g<W.heap.size:=Jy h.op
theorem MtS.perm{vp':Value}(h:MtS wC W base b12 bR n f dv vp va ps ats)(ho:W1.ownsRow base 3 1 vp' ps'.length (Jp (nz ps')))(hg:W.grownBy W1 vp.ownBlock)(hn:∀ g,vp'.ownBlock=some g->vp.ownBlock=some g∨W.heap.size<=g):
  MtS wC (W1.setCell ((⟨b12,0,none⟩:Addr).add 3) vp') base b12 bR n f dv vp' va ps' ats:=by
 obtain⟨_,_,_,_,a5⟩:=Jy h.op;obtain⟨_,_,_,_,a4⟩:=Jy ho;obtain⟨_,_,_,_,a2⟩:=h.oa.form;have J:=h.b2;have a1:=h.b1;have C:GrN (λk=>vp.ownBlock=some k) W W1:=GrN.by hg λk D=>D
 have a3:=Jv h.hb C λe=>by grind
 have o:GrN (λk=>k=b12) W1 (W1.setCell ((⟨b12,0,none⟩:Addr).add 3) vp'):=GrN.set _ rfl;have O:=h.oa.other hg hn h.dj;have G:∀ g,va.ownBlock=some g->¬ vp'.ownBlock=some g:=λg Z e=>by
  rcases hn g e with u|u
  .exact h.dj g Z u
  repeat grind
 refine⟨?_,a3.set 3 _,Js ho o λg e u=>by grind,O.gr (o.mono λk _ D=>.inl (.inl D)) λg e u=>?_,G,a1,h.b0,J,?_⟩
 .exact o.old (C.old h.ex λk D=>by grind) λk D=>by omega
 .rcases u with(u|u)|u
  .grind
  .have:=(a2 g e).1;have:=h.b0;omega
  exact G g e u
 exact nL h.b3 (nL C.size o.size)
theorem MtS.atom{va':Value}(h:MtS wC W base b12 bR n f dv vp va ps ats)(ho:OwnM 100 3 AtG (λk=>(k=b12∨k=bR)∨vp.ownBlock=some k) W1 base va' ats')(hg:W.grownBy W1 va.ownBlock)(hn:∀ g,va'.ownBlock=some g->va.ownBlock=some g∨W.heap.size<=g):
  MtS wC (W1.setCell ((⟨b12,0,none⟩:Addr).add 4) va') base b12 bR n f dv vp va' ps ats':=by
 obtain⟨_,_,_,_,a4⟩:=Jy h.op;obtain⟨_,_,_,_,a5⟩:=h.oa.form;obtain⟨_,_,_,_,O⟩:=ho.form;have J:=h.b2;have a2:=h.b1;have C:GrN (λk=>va.ownBlock=some k) W W1:=GrN.by hg λk D=>D
 have a3:=Jv h.hb C λe=>by grind
 have u:GrN (λk=>k=b12) W1 (W1.setCell ((⟨b12,0,none⟩:Addr).add 4) va'):=GrN.set _ rfl;have G:∀ g,va'.ownBlock=some g->¬ vp.ownBlock=some g:=λg a1 e=>by
  rcases hn g a1 with o|o
  .exact h.dj g o e
  repeat grind
 have Z:=Js h.op C λg e o=>h.dj g o e;refine⟨?_,a3.set 4 _,Js Z u λg e o=>by grind,ho.gr (u.mono λk _ D=>.inl (.inl D)) λg e o=>?_,G,a2,h.b0,J,?_⟩
 .exact u.old (C.old h.ex λk D=>by grind) λk D=>by omega
 .rcases o with(o|o)|o
  .grind
  .have:=(O g e).1;have:=h.b0;omega
  exact G g e o
 exact nL h.b3 (nL C.size u.size)
theorem Xvk(n f:Int)(A:Option Addr)(a a':Nat)(w:World): (Instr.build 42 #[(0,.int .i64 n),(1,.int .i64 f),(2,.slice A a a')]).run Tryz.prog w=.ok (.agg #[.int .i64 n,.int .i64 f,.slice A a a',.slice none 0 0,.slice none 0 0]) w:=kr
theorem Qfk{A:Option Addr}{xc:Nat->List Value}(hI:InsM w A f ds Ms xc)(hU:∀ M∈Ms,UMt f ds M)(hne:Ms≠[])(h3:Ms.length<=3)(hn:jN f 0 Ms<=32)(hlP:(jPm f 0 Ms).length<=1000)(hlA:(jAs f 0 Ms).length<=1000):
  Ret Tryz.prog 27 [.slice A Ms.length c] w λu w'=>Ext w w'/\∃ cs,u=.tuple #[.agg cs.toArray,.int .i64 0]/\InC w' (Yb f ds (Qa f Ms)) cs:=by
 have bc:∀ {i},i<Ms.length->UMt f ds (Ms.getD i um0):=λhi=>hU _ (getD_mem' um0 Ms hi);have h0:0<Ms.length:=List.length_pos_iff.2 hne;have cb:∀ i,i<Ms.length->(xc i).length=5:=λi hi=>by
  obtain⟨D,Q,T,dc,pc,tc,ts,h⟩:=(hI.el i hi).inF;rw[h.e];rfl
 have C:∀ {W:World} (hx:Ext w W) {i:Nat} (hi:i<Ms.length) {j:Nat} {u:Value},(xc i)[j]?=some u->W.cell? ((adr A (i*5)).add j)=some u:=λhx i hi j u hu=>by
  have hj:j<5:=by grind
  rw[Qo];exact(hI.rd.ext hx).cell (by rw[Vh cb hi hj];exact hu)
 have fh:f<=32:=by grind [Gw]
 have bs:∀ {i},i<Ms.length->(Ms.getD i um0).N<=24/\f<=(Ms.getD i um0).N:=λhi=>⟨(bc hi).n,(bc hi).pm.fn⟩;have cq:∀ {i},i<Ms.length->jN f 0 (Ms.take (i+1))=jN f 0 (Ms.take i)+((Ms.getD i um0).N-f):=λhi=>by grind [Qc,um0,Xjh]
 have ej:∀ i,f<=jN f 0 (Ms.take i):=by grind [Gw]
 have g1:∀ i,Ms=Ms.take i++Ms.drop i:=by grind [List.take_append_drop]
 have de:∀ i,jN f 0 (Ms.take i)<=32:=λi=>by grind [Jcc,Gw,jN]
 have eh:∀ i,(jPm f 0 (Ms.take i)).length<=1000:=λi=>by grind [Jcb,List.length_append]
 have ei:∀ i,(jAs f 0 (Ms.take i)).length<=1000:=λi=>by grind [Jcg,List.length_append]
 obtain⟨af,a4⟩:=id hI;generalize hm:Ms.length=m at af a4 bc h0 cb C bs cq h3 ⊢
 refine Jz Tryz.func27 Tryz.ntmps27 rfl kr rfl ?_;refine ρ ?_;refine alc Yh ?_;intro w1 b2 bm ep e4;refine ρ ?_;refine cf ?_ ?_
 .grind
 refine ρ ?_;refine cf ?_ ?_
 .grind
 refine ρ ?_;refine Qf (fun (i:Nat)=>[(0,.slice A m c),(2,.pointer (some ⟨b2,0,none⟩)),(3,.int .i64 0),(26,.slice A m c),(27,.int .i64 (m:Int)),(28,.int .i64 (i:Int))])
  (λi w'=>i<=m/\Ext w1 w') (λi=>m-i) 0 sB ⟨Nat.zero_le _,Ext.refl _⟩ ?_
 rintro i w2 ⟨hi,Z⟩;refine ρ ?_;refine ci (λh=>?_) (λh=>?_)
 .have li:i<m:=by have:=oT h;omega
  clear h;have o:=bm.trans Z;obtain⟨D,Q,T,dc,pc,tc,ts,hF⟩:=(a4 i li).inF;have a3:=hF.e;refine ρ ?_;refine ixq 5 i (af.ext o) li ?_;refine ρ ?_;refine lds (cs:=[.int .i64 ((Ms.getD i um0).N:Int),.int .i64 (f:Int),.slice D ds.length dc,.slice Q (Ms.getD i um0).perm.length pc,.slice T (Ms.getD i um0).ats.length tc]) (λj u hu=>C o li (by rw[a3];exact hu)) ?_;refine ρ ?_;refine alc Yh ?_;intro w3 b5 cn eo f2;refine ρ ?_;refine stW f2 ?_;intro w4 dz em ax;have a8:Ext w2 w4:=ax w2 cn eo;refine ρ ?_;refine ldW dz ?_;refine ρ ?_;have di:=a4 i li;rw[a3]at di;have ao:=o.trans a8;have cp:=bs li;refine cl (Jlt (inp:=Yb f ds (Ms.getD i um0)) ⟨_,rfl,di.ext ao⟩ (by show _<=((Ms.getD i um0).N:Int)/\((Ms.getD i um0).N:Int)<=_;omega) (by show _<=(f:Int)/\(f:Int)<=_;omega)) ?_;rintro u w5 ⟨au,e,rfl,he⟩;have e0:e=0:=he.2 (bc li).chk;subst e0;refine ρ ?_;exact Qw (i+1) sO ⟨li,(Z.trans a8).trans au⟩ om
 have bp:i=m:=by grind
 clear h bp;obtain⟨D0,Q0,T0,f8,fx,ft,fr,ai⟩:=(a4 0 h0).inF;have o:=bm.trans Z;have aa:Ext w2 w2.drew:=(Ext.refl w2).drew;have J:=o.trans aa;refine ρ ?_;refine dr [(0,0),(0,1),(0,2),(0,3),(0,4),(0,5),(0,6),(0,7),(0,8),(0,9),(0,10),(0,11),(0,12),(0,13),(0,14)] kr ?_;refine ρd ?_;refine Vw 5 0 (af.ext J) h0 ?_;refine ρd ?_;refine dld (C J h0 (j:=1) (by rw[ai.e];rfl)) ?_;refine ρd ?_;refine Vw 5 0 (af.ext J) h0 ?_;refine ρd ?_;refine dld (C J h0 (j:=2) (by rw[ai.e];rfl)) ?_;refine ρd ?_;refine Vw 5 0 (af.ext J) h0 ?_;refine ρd ?_;refine dld (C J h0 (j:=1) (by rw[ai.e];rfl)) ?_;refine ρd ?_;refine ρ ?_;refine Qf (fun (i:Nat)=>[(0,.slice A m c),(2,.pointer (some ⟨b2,0,none⟩)),(3,.int .i64 0),(7,.int .i64 (f:Int)),(8,.slice D0 ds.length f8),(9,.int .i64 (jN f 0 (Ms.take i):Int)),(51,.slice A m c),(52,.int .i64 (m:Int)),(53,.int .i64 (i:Int))])
  (λi w'=>i<=m/\Ext w1 w') (λi=>m-i) 0 sB ⟨Nat.zero_le _,Z.trans aa⟩ ?_
 clear o aa J Z w2 hi i;rintro i w2 ⟨hi,Z⟩;refine ρ ?_;refine ci (λh=>?_) (λh=>?_)
 .have li:i<m:=by have:=oT h;omega
  clear h;have o:=bm.trans Z;obtain⟨D,Q,T,dc,pc,tc,ts,hF⟩:=(a4 i li).inF;have a3:=hF.e;have cp:=bs li;have ap:=cq li;have dd:=de i;refine ρ ?_;refine ixq 5 i (af.ext o) li ?_;refine ρ ?_;refine lds (cs:=[.int .i64 ((Ms.getD i um0).N:Int),.int .i64 (f:Int),.slice D ds.length dc,.slice Q (Ms.getD i um0).perm.length pc,.slice T (Ms.getD i um0).ats.length tc]) (λj u hu=>C o li (by rw[a3];exact hu)) ?_;refine ρ ?_;refine alc Yh ?_;intro w3 gd cn dq ea;refine ρ ?_;refine stW ea ?_;intro w4 aj em ax;have a8:Ext w2 w4:=ax w2 cn dq;have ao:=o.trans a8;refine ρ ?_;refine ld (aj.at (i:=1) rfl) ?_;refine ρ ?_;refine Go.Wk.kf 61 ?_ ?_
  .simp
  refine ρ ?_;refine ld (aj.at (i:=2) rfl) ?_;refine ρ ?_;refine cl (Jmd (Rd.ext hF.d ao) (Rd.ext ai.d ao) hF.dl.2) ?_;rintro u w5 ⟨rfl,au⟩;rw[decide_eq_true rfl];have cw:=aj.ext au;refine ρ ?_;refine ld (cw.at (i:=0) rfl) ?_;refine ρ ?_;have e9:(jN f 0 (Ms.take i):Int)+(((Ms.getD i um0).N:Int)-(f:Int))=(jN f 0 (Ms.take (i+1)):Int):=by rw[ap];omega
  rw[e9];exact Qw (i+1) sO ⟨li,(Z.trans a8).trans au⟩ om
 have bp:i=m:=by grind
 clear h;have bn:Ms.take i=Ms:=List.take_of_length_le om;have o:=bm.trans Z;refine ρ ?_;rw[bn];refine cf ?_ ?_
 .grind
 refine ρ ?_;refine cl (Jms (Rd.ext ai.d o) (λu hu=>by obtain⟨b,_,rfl⟩:=List.mem_map.1 hu;rfl) (by have:=ai.dl.2;omega)) ?_;rintro u wC ⟨⟨DC,dC,rfl,en,eu,ey⟩,cm⟩;have e1:=(e4.ext Z).ext cm;have fy:=e4.lt;have fb:=Z.size;have fa:=cm.size;have b4:=o.trans cm;refine ρ ?_;refine bld (Xvk _ _ _ _ _ _) ?_;refine ρ ?_;refine alc Yh ?_;intro w4 a1 ax bb e8;refine ρ ?_;refine stW e8 ?_;intro w5 bg g5 au;have c3:Ext wC w5:=au wC ax bb;have et:MtS wC w5 w5.heap.size a1 b2 (jN f 0 Ms) f (.slice DC ds.length dC) (.slice none 0 0) (.slice none 0 0) [] [] :=
  ⟨c3,bg,Zj _ _ _ _,OwnM.nil _ _,λg e=>by simp[Value.ownBlock]at e,bb,om,bg.lt,Nat.le_refl _⟩
 refine ρ ?_;refine Jqs (fun (i s:Nat) (vp va:Value)=>[(0,.slice A m c),(2,.pointer (some ⟨b2,0,none⟩)),(3,.int .i64 0),(7,.int .i64 (f:Int)),(12,.pointer (some ⟨a1,0,none⟩)),(13,.int .i64 (s:Int)),(84,.slice A m c),(85,.int .i64 (m:Int)),(86,.int .i64 (i:Int))])
  (λi s vp va w'=>i<=m/\s=jN f 0 (Ms.take i)-f/\MtS wC w' w5.heap.size a1 b2 (jN f 0 Ms) f (.slice DC ds.length dC) vp va (jPm f 0 (Ms.take i)) ((jAs f 0 (Ms.take i)).map toAtm)) (λi _ _ _=>m-i) 0 0 (.slice none 0 0) (.slice none 0 0) sB ⟨Nat.zero_le _,by show 0=f+0-f;omega,et⟩ ?_
 clear Z bp bn o hi i;rintro i s vp va w6 ⟨hi,hs,hS⟩;have an:Ext w w6:=b4.trans hS.ex;refine ρ ?_;refine ci (λh=>?_) (λh=>?_)
 .have li:i<m:=by have:=oT h;omega
  clear h;obtain⟨D,Q,T,dc,pc,tc,ts,hF⟩:=(a4 i li).inF;have a3:=hF.e;have cp:=bs li;have ap:=cq li;have dd:=de i;have ff:=ej i;obtain⟨M,hM⟩:∃ M,M=Ms.getD i um0:=⟨_,rfl⟩;rw[<-hM]at hF a3 cp ap;have av:UMt f ds M:=by rw[hM];exact bc li
  have dw:Ms.take (i+1)=Ms.take i++[M]:=by grind [Qc,um0]
  refine ρ ?_;refine ixq 5 i (af.ext an) li ?_;refine ρ ?_;refine lds (cs:=[.int .i64 (M.N:Int),.int .i64 (f:Int),.slice D ds.length dc,.slice Q M.perm.length pc,.slice T M.ats.length tc]) (λj u hu=>C an li (by rw[a3];exact hu)) ?_;refine ρ ?_;refine alc Yh ?_;intro w7 aw bl ba e7;refine ρ ?_;refine stW e7 ?_;intro w8 bf g4 ee;have c4:Ext w6 w8:=ee w6 bl ba;have du:=hS.ext c4;have d5:=an.trans c4;have aa:Ext w8 w8.drew:=(Ext.refl w8).drew;have br:=du.ext aa;have dx:=bf.ext aa;have J:=d5.trans aa;obtain⟨PA,d1,rfl,fe,bo⟩:=hS.pf;have fz:=bf.lt;refine ρ ?_;refine drN (λk=>(Value.slice PA (jPm f 0 (Ms.take i)).length d1).ownBlock=some k) 10 [(0,0),(0,1),(0,2),(0,3),(0,4),(0,5),(1,6),(1,7),(0,8),(2,9)] kr ?_;have bb:=br.b2;have d2:¬ (Value.slice PA (jPm f 0 (Ms.take i)).length d1).ownBlock=some a1:=λe=>by have:=(bo _ e).1;omega
  have g7:=hS.b3;have fw:=bl.size;refine ρn ?_;refine nld (Jl (br.hb.at (i:=3) rfl) d2) ?_;refine ρn ?_;refine nld (Jl (dx.at (i:=3) rfl) (λe=>by grind [Ya])) ?_;refine ρn ?_;refine nop ?_;have g2:M.perm.length<=24:=by have:=av.pm.len;omega
  refine cl (Jtz (f:=f) (s:=s) (vs:=M.perm) (Rd.ext hF.p J) om (λv hv=>by have:=av.pm.rng v hv;omega) om om) ?_;rintro u w9 ⟨B,rfl,b6,bj⟩;have bd:=br.ext bj;refine ρ ?_;refine Jm (GrN.ext bj) ?_;refine ρn ?_;refine nop ?_;have dv:=Rd.own b6;have d9:jPm f 0 (Ms.take (i+1))=jPm f 0 (Ms.take i)++M.perm.map (ren f s):=by rw[dw,Xjg,<-hs]
  have fd:=eh i;refine apb (m':=M.perm.length) (news:=Jp (nz (M.perm.map (ren f s)))) EI bd.op dv (λu hu=>by obtain⟨z,_,rfl⟩:=List.mem_map.1 hu;rfl) (by unfold maxLen;omega) om bd.b3 ?_;intro ed ck c7 a9 ca;have ag:ck.ownsRow w5.heap.size 3 1 ed (jPm f 0 (Ms.take (i+1))).length (Jp (nz (jPm f 0 (Ms.take (i+1))))):=by
   rw[d9,List.length_append,List.length_map,Qqp,Qzv];exact c7
  obtain⟨ec,d0,rfl,_,da⟩:=Jy ag;have cg:=bd.perm ag a9 ca;have bh:=Jv bd.hb (GrN.by a9 λk hk=>hk) d2;refine ρ ?_;refine Jm (GrN.by a9 λk hk=>hk) ?_;refine ρn ?_;refine Xh ?_;refine sto (bh.at (i:=3) rfl) (bh.frozen 3) ?_;generalize hw11:ck.setCell ((⟨a1,0,none⟩:Addr).add 3) _=w11 at cg ⊢
  have bq:GrN (λk=>k=a1) ck w11:=by rw[<-hw11];exact GrN.set _ rfl
  have fu:w6.heap.size<=aw:=ba;have a7:Blk w11 aw 42 [.int .i64 (M.N:Int),.int .i64 (f:Int),.slice D ds.length dc,.slice Q M.perm.length pc,.slice T M.ats.length tc] :=
   Jv (Jv (dx.ext bj) (GrN.by a9 λk hk=>hk) λe=>by have h1:=(bo _ e).2;omega) bq om
  refine Jc (Ug ?_);refine ρn ?_;refine ρ ?_;refine ld (a7.at (i:=4) rfl) ?_;have b9:∀ g,va.ownBlock=some g->g≠aw:=λg e=>by
   obtain⟨_,_,_,_,ah⟩:=hS.oa.form;have:=(ah g e).2;omega
  refine ρ ?_;refine Jt (fun (j:Nat) (va:Value)=>[(0,.slice A m c),(2,.pointer (some ⟨b2,0,none⟩)),(3,.int .i64 0),(7,.int .i64 (f:Int)),(12,.pointer (some ⟨a1,0,none⟩)),(13,.int .i64 (s:Int)),(15,.pointer (some ⟨aw,0,none⟩)),(84,.slice A m c),(85,.int .i64 (m:Int)),(86,.int .i64 (i:Int)),(100,.slice T M.ats.length tc),(101,.int .i64 (M.ats.length:Int)),(102,.int .i64 (j:Int))])
   (λj va w'=>j<=M.ats.length/\Blk w' aw 42 [.int .i64 (M.N:Int),.int .i64 (f:Int),.slice D ds.length dc,.slice Q M.perm.length pc,.slice T M.ats.length tc]/\(∀ g,va.ownBlock=some g->g≠aw) /\
    MtS wC w' w5.heap.size a1 b2 (jN f 0 Ms) f (.slice DC ds.length dC) (.slice ec (jPm f 0 (Ms.take (i+1))).length d0) va (jPm f 0 (Ms.take (i+1))) ((jAs f 0 (Ms.take i)++(M.ats.take j).map (Qn f s)).map toAtm)) (λj _=>M.ats.length-j) 0 va sB
   ⟨Nat.zero_le _,a7,b9,by grind⟩ ?_
  clear cg bq hw11 bh da ca a9 ag c7 bd b6 dv bj a7 b9 va hS du br;rintro j va cy ⟨hj,a6,dk,O⟩;have ae:=b4.trans O.ex;refine ρ ?_;refine ci (λh=>?_) (λh=>?_)
  .have lj:j<M.ats.length:=by have:=oT h;omega
   clear h;obtain⟨ta,d8⟩:∃ ta,ta=ts.getD j ta0:=⟨_,rfl⟩;have ef:ta∈ts:=by rw[d8];exact getD_mem' ta0 ts (by rw[hF.tl];exact lj)
   obtain⟨a,ha⟩:∃ a,a=M.ats.getD j pa0:=⟨_,rfl⟩;have cv:a∈M.ats:=by grind [getD_mem',pa0]
   have d7:ta.2=toAtm a:=by
    have h1:=congrArg (λl=>l[j]?) hF.a;grind
   have eb:=hF.at_ ta ef;rw[d7]at eb;obtain⟨⟨t1,t2,t3⟩,a2⟩:=ta;obtain⟨dh,dg,cr⟩:=eb;simp only at dh dg cr;obtain⟨VA,vd,rfl,_,g0,er⟩:=IntsV.n (l:=a.1) dh;obtain⟨G,gl,gc,rfl⟩:∃ G gl gc,t3=.slice G gl gc:=by obtain⟨ps,G,gc,_,e,_⟩:=id cr;exact⟨G,_,gc,e⟩
   have df:t2=.int .i64 (a.1.length:Int):=dg;subst df;have g3:=av.m;have g8:a.1.length<=24:=Jhg 24 ((av.asc a cv).imp λh=>Nat.ne_of_lt h) λv hv=>by have:=av.lt a cv v hv;omega
   refine ρ ?_;refine ixq 3 j (hF.t.ext ae) lj ?_;refine ρ ?_;refine lds (cs:=[.slice VA a.1.length vd,.int .i64 (a.1.length:Int),.slice G gl gc]) (λq u hu=>Jzp (hF.t.ext ae) hF.tl lj (by rw[<-d8];exact hu)) ?_;refine ρ ?_;refine alc Yk ?_;intro fq f9 d4 dn e6;refine ρ ?_;refine stW e6 ?_;intro bi bw fg d3;have am:Ext cy bi:=d3 cy d4 dn;have a3:Ext bi bi.drew:=(Ext.refl bi).drew;have ce:=(O.ext am).ext a3;have be:=bw.ext a3;have ab:=am.trans a3;have c5:=ae.trans ab;obtain⟨AA,ac,f5,ga,ah⟩:=O.oa.form;subst f5;have fi:=O.b3;have dm:=O.b2;have c2:∀ g,(Value.slice AA ((jAs f 0 (Ms.take i)++(M.ats.take j).map (Qn f s)).map toAtm).length ac).ownBlock=some g->g≠a1:=by grind
   have c1:∀ g,(Value.slice AA ((jAs f 0 (Ms.take i)++(M.ats.take j).map (Qn f s)).map toAtm).length ac).ownBlock=some g->g≠f9:=by grind
   refine ρ ?_;refine drN (λk=>(Value.slice AA ((jAs f 0 (Ms.take i)++(M.ats.take j).map (Qn f s)).map toAtm).length ac).ownBlock=some k) 10 [(0,0),(0,1),(0,2),(0,3),(0,4),(0,5),(0,7),(0,8),(1,6),(0,9),(1,10),(1,11),(0,12),(2,13)] kr ?_;refine ρn ?_;refine nld (Jl (ce.hb.at (i:=4) rfl) λe=>c2 _ e rfl) ?_;refine ρn ?_;refine nld (Jl (be.at (i:=0) rfl) λe=>c1 _ e rfl) ?_;refine ρn ?_;refine Xl (cs:=[.int .i64 (a.1.length:Int),.slice G gl gc]) (λw' hg q u hu=>Blk.at2 (i:=1) (Jv be hg λe=>c1 _ e rfl) (by rw[Nat.add_comm];exact hu)) ?_;refine ρn ?_;refine nop ?_;refine cl (Jtz (f:=f) (s:=s) (vs:=a.1) (er.ext c5) om (λv hv=>by have:=av.lt a cv v hv;omega) om om) ?_;rintro u fp ⟨B,rfl,b6,ay⟩;refine ρ ?_;refine Jm (GrN.ext ay) ?_;refine ρn ?_;refine Ig (λw=>Jdc _ _ _ _ _ _ _ w) ?_;refine ρn ?_;refine nop ?_;refine bsl (λw=>Jvl _ _ _ B G _ _ _ gc _ rfl rfl rfl w) ?_
   intro cx gb ak fl e5;refine ρ ?_;refine Jm (GrN.ext ak) ?_;refine nop ?_;have aq:=(ce.ext ay).ext ak;have a5:=ay.trans ak;have co:=Jk b6 ak;obtain⟨_,_,eB,_,f0⟩:=Jy b6;obtain⟨_,_,_,_,c6⟩:=Jy O.op;have fc:=ab.size;have dt:toAtm (Qn f s a)=⟨nz (a.1.map (ren f s)),a.1.length,a.2⟩:=by simp[toAtm,Qn]
   have hΦ:Off (λk=>((k=a1∨k=b2)∨(Value.slice ec (jPm f 0 (Ms.take (i+1))).length d0).ownBlock=some k)∨(Value.slice AA ((jAs f 0 (Ms.take i)++(M.ats.take j).map (Qn f s)).map toAtm).length ac).ownBlock=some k) cx (λu=>AtG u [.slice B a.1.length a.1.length,.int .i64 (a.1.length:Int),.slice G gl gc] (toAtm (Qn f s a))):=by
    intro W hW;have h1:=Js co hW λg e h=>by
     have:=(f0 g e).1;rcases h with((h|h)|h)|h
     .omega
     .omega
     .have:=(c6 g h).2;omega
     have:=(ah g h).2;omega
    have h2:Ext w W:=hW.old (c5.trans a5) λk h=>by
     have:=b4.size;have:=c3.size;have:=O.b1;rcases h with((h|h)|h)|h
     .omega
     .omega
     .have:=(c6 k h).1;omega
     have:=(ah k h).1;omega
    rw[dt];refine⟨(.slice B a.1.length a.1.length,.int .i64 (a.1.length:Int),.slice G gl gc),rfl,⟨B,a.1.length,by rw[Je,List.length_map],by rw[Je,List.length_map];exact nR _,by rw[Je,List.length_map];omega,by rw[Je,List.length_map];exact Rd.own h1⟩,rfl,cr.ext h2⟩
   refine apM EA (Φ:=AtG) aq.oa e5 rfl (Kg rfl) hΦ ?_ om aq.b3 ?_
   .have h1:=ei i;rw[List.length_map,List.length_append,List.length_map,List.length_take];omega
   intro cz cj ch cc c8;have cd:=aq.atom ch cc c8;obtain⟨A9,c9,f6,g6,fo⟩:=ch.form;have b8:GrN (λk=>(Value.slice AA ((jAs f 0 (Ms.take i)++(M.ats.take j).map (Qn f s)).map toAtm).length ac).ownBlock=some k) cx cj:=GrN.by cc λk hk=>hk
   have ar:=Jv aq.hb b8 λe=>c2 _ e rfl;refine ρ ?_;refine Jm b8 ?_;refine ρn ?_;refine Xh ?_;refine sto (ar.at (i:=4) rfl) (ar.frozen 4) ?_ (hv:=by rw[f6];rfl);generalize hw19:cj.setCell ((⟨a1,0,none⟩:Addr).add 4) cz=w19 at cd ⊢
   have bq:GrN (λk=>k=a1) cj w19:=by rw[<-hw19];exact GrN.set _ rfl
   have bz:=Jv (Jv ((a6.ext ab).ext a5) b8 λe=>dk _ e rfl) bq om;refine Jc (Ug ?_);refine ρn ?_;refine ρ ?_;refine Jf (j+1) cz sO ⟨lj,bz,λg e=>?_,?_⟩ om
   .rcases c8 g e with h1|h1
    .exact dk g h1
    have:=a6.lt;have:=a5.size;omega
   have e:(jAs f 0 (Ms.take i)++(M.ats.take (j+1)).map (Qn f s)).map toAtm=(jAs f 0 (Ms.take i)++(M.ats.take j).map (Qn f s)).map toAtm++[toAtm (Qn f s a)]:=by
    rw[Qc pa0 lj,<-ha];simp
   rw[e];exact cd
  have db:j=M.ats.length:=by have:=oF h;omega
  clear h;have f3:(jAs f 0 (Ms.take i)++(M.ats.take j).map (Qn f s)).map toAtm=(jAs f 0 (Ms.take (i+1))).map toAtm:=by
   rw[dw,Xjj,<-hs,db,List.take_length]
  rw[f3]at O;refine ρ ?_;refine ld (a6.at (i:=0) rfl) ?_;refine ρ ?_;have f7:(s:Int)+((M.N:Int)-(f:Int))=((s+(M.N-f):Nat):Int):=om
  rw[f7];exact Kb (i+1) (s+(M.N-f)) _ va sO ⟨li,by rw[ap];omega,O⟩ om
 have bp:i=m:=by have:=oF h;omega
 clear h;have bn:Ms.take i=Ms:=List.take_of_length_le om;rw[bn]at hS;obtain⟨PA,pd,rfl,eg,bo⟩:=hS.pf;obtain⟨AA,ad,rfl,g9,ah⟩:=hS.oa.form;refine ρ ?_;refine ldW hS.hb ?_;have e3:Blk w6 b2 42 [.int .i64 0,.int .i64 0,.slice none 0 0,.slice none 0 0,.slice none 0 0]:=e1.ext hS.ex;refine ρ ?_;refine stW e3 ?_;intro w7 e2 ek bl;have d6:Ext w w7:=bl w an ep;have b7:GrN (λk=>k=b2) w6 w7:=GrN.by ek λj hj=>by injection hj with hj;exact hj.symm
 have dm:=hS.b2;have fj:=hS.b1;have fk:=hS.b0;have ez:Rd w7 1 DC ds.length (ds.map Value.bool):=Ic (eu.ext hS.ex) (λh0 ad e (he:ad.block=b2)=>by have:=ey ad e;omega) w7 b7;have ew:=Js hS.op b7 λg e h=>by have:=(bo g e).1;omega
 have f4:=hS.oa.gr (b7.mono λk _ h=>.inl (.inr h)) λg e h=>by
  rcases h with(h|h)|h
  .have:=(ah g e).1;omega
  .have:=(ah g e).1;omega
  exact hS.dj g e h
 refine ρ ?_;refine Zh e2 ⟨d6,_,rfl,_,_,_,rfl,⟨DC,dC,rfl,en,ai.dl.2,ez⟩,⟨PA,pd,?_,?_,?_,?_⟩,Jdj (f4.gv (by rw[List.length_map];omega))⟩
 .show _=Value.slice PA (nz (jPm f 0 Ms)).length pd;rw[Je]
 .show(nz (jPm f 0 Ms)).length<=pd;rw[Je];exact eg
 .show(nz (jPm f 0 Ms)).length<=1100000;rw[Je];omega
 show Rd w7 1 PA (nz (jPm f 0 Ms)).length (Jp (nz (jPm f 0 Ms)));rw[Je];exact Rd.own ew
open Go.RowKit Pl Go.Wk
variable {f mc:Nat}{MA:Option Addr}{D:UD}{w w':World}
theorem Jzs: Qm Tryz.prog 33=some (.agg #[.int .i64 0,.int .i64 0,.slice none 0 0,.slice none 0 0,.slice none 0 0]):=kr
theorem Xwv(k f:Int)(A B C:Option Addr)(a b c a' b' c':Nat)(w:World): (Instr.build 33 #[(0,.int .i64 k),(1,.int .i64 f),(2,.slice A a a'),(3,.slice B b b'),(4,.slice C c c')]).run Tryz.prog w=.ok (.agg #[.int .i64 k,.int .i64 f,.slice A a a',.slice B b b',.slice C c c']) w:=kr
def SF.bv(ds:List Bool): SF:=⟨λv w=>BoolsV w v ds,λh hx=>h.ext hx⟩
theorem noN(h:Ext w w'): GrN (λ_=>False) w w':=GrN.ext h
structure PreU(w:World)(D:UD)(MA:Option Addr): Prop where
 rd:Rd w 5 MA D.n (Qk D.n D.xc)
 ix:∀ i,i<D.n->IxA w (.agg (D.xc i).toArray) D.f D.ds (D.kf i) (D.pf i) (D.BB i) (D.tot i) (D.M (i+1))
 up:UnP D.k D.f D.ds D.M D.U
 hm:∀ i,i<D.n->Qy D.f (λv=>hmB (D.BB i v))<=D.Hm
 hl:D.Hm<=10000000
 ml:∀ s,(D.M s).length<=5000
theorem PreU.ext{w w':World}{D:UD}{MA:Option Addr}(h:PreU w D MA)(hx:Ext w w'): PreU w' D MA:=⟨h.rd.ext hx,λi hi=>(h.ix i hi).ext hx,h.up,h.hm,h.hl,h.ml⟩
theorem PreU.x5(h:PreU w D MA): ∀ i,i<D.n->∃ A B C D' E a b c' d e a' b' c2 d' e',D.xc i=[.slice A a a',.slice B b b',.slice C c' c2,.slice D' d d',.slice E e e']:=λi hi=>by
 obtain⟨DA,dc,BA,cb,KA,ck,J,cp,O,G,u,e,_,_,_,_,_,_,o,_⟩:=(h.ix i hi).ix.ex;obtain⟨TA,Z,rfl,_⟩:=o;grind
theorem Qkp{xc:Nat->List Value}: ∀ n,(∀ i,i<n->∃ A B C D' E a b c' d e a' b' c2 d' e',xc i=[.slice A a a',.slice B b b',.slice C c' c2,.slice D' d d',.slice E e e'])->∀ u∈Qk n xc,u.oneCell'=true
 | 0,_,u,hu=>by cases hu
 | n+1,h,u,hu=>by
  rw[Kn,List.mem_append]at hu;rcases hu with hu|hu
  .exact Qkp n (λi hi=>h i om) u hu
  obtain⟨A,B,C,D',E,a,b,c',d,e,a',b',c2,d',e',hx⟩:=h n om;rw[hx]at hu;simp only[List.mem_cons,List.not_mem_nil,or_false]at hu;rcases hu with rfl|rfl|rfl|rfl|rfl<;>rfl
theorem Qrq{x:Value}{ds:List Bool}{kf:Nat->Nat}{pf:Nat->Int}{BB:Nat->List BkT}{tot:Nat}{L:List Row}(h:IxA w x f ds kf pf BB tot L):
  Ret Tryz.prog 64 [x] w λu w'=>NatV w' u L.length/\Ext w w':=by
 obtain⟨DA,dc,BA,cb,KA,ck,Z,cp,tv,J,G,rfl,_⟩:=id h.ix.ex;refine Jz Tryz.func64 Tryz.ntmps64 rfl kr rfl ?_;refine ρ ?_;refine bx ?_;intro w1 b o hb O;refine ρ ?_;refine ldW O ?_;refine ρ ?_;refine cl (Jxx (h.ix.ext o) h.ip.nbT) ?_;rintro u w2 ⟨D,_,C⟩;refine ρ ?_;rw[h.ip.len]at D;exact Jj ⟨D,o.trans C⟩
theorem Qfj(hP:PreU w D MA):
  Ret Tryz.prog 28 [.int .i64 (D.k:Int),.slice MA D.n mc] w λu w'=>Ext w w'/\∃ DA dc NA nc SA sl sc,u=.tuple #[.agg #[.int .i64 (D.k:Int),.int .i64 (D.f:Int),.slice DA D.f dc,.slice NA D.n nc,.slice SA sl sc],.int .i64 0]/\D.f<=dc/\D.ds.length=D.f /\
   Off (λk=>k<w.heap.size) w' λW=>RdB W DA D.ds/\Rd W 5 NA D.n (Qk D.n D.xc)/\NatV W (.slice SA sl sc) D.U.length:=by
 have b3:=hP.up.k1;have b2:=hP.up.k3;have a1:1<=D.n:=by
  have:=Nat.pow_le_pow_right (show 0<2 by omega) b3;unfold UD.n;omega
 have b1:D.n<=7:=by
  have:=Nat.pow_le_pow_right (show 0<2 by omega) b2;unfold UD.n;omega
 have ac:∀ i,i<D.n->(D.xc i).length=5:=λi hi=>by obtain⟨A,B,C,D',E,a,b,c',d,e,a',b',c2,d',e',h⟩:=hP.x5 i hi;rw[h];rfl
 have a2:∀ {W:World} (hx:Ext w W) {i:Nat} (hi:i<D.n) {j:Nat} {u:Value},(D.xc i)[j]?=some u->W.cell? ((adr MA (i*5)).add j)=some u:=λhx i hi j u hu=>by
  have hj:j<5:=by
   rcases Nat.lt_or_ge j 5 with h'|h'
   .exact h'
   rw[List.getElem?_eq_none (by rw[ac i hi];omega)]at hu;cases hu
  rw[Qo];exact(hP.rd.ext hx).cell (by rw[Vh ac hi hj];exact hu)
 have b8:∀ {i},i<D.n->D.ds.length=D.f/\D.f<=32:=λhi=>⟨(hP.ix _ hi).ix.dl,(hP.ix _ hi).ip.f32⟩;have ap:IntKind.i64.wrap (1*2^min ((D.k:Int)).toNat IntKind.i64.bits)=((D.n+1:Nat):Int):=by
  have:D.k=1∨D.k=2∨D.k=3:=om
  unfold UD.n;rcases this with h|h|h<;>rw[h]<;>rfl
 refine Jz Tryz.func28 Tryz.ntmps28 rfl kr rfl ?_;refine ρ ?_;refine alc Jzs ?_;intro w1 b4 ah bb aw;refine ρ ?_;refine Go.Wk.kf 13 ?_ ?_
 .exact dF om
 refine ρ ?_;refine cf ?_ ?_
 .exact dF om
 refine ρ ?_;refine Jzw rfl rfl om rfl ?_;refine Go.Wk.kv 21 (congrArg (Value.int .i64) ap) ?_;refine ρ ?_;refine cf ?_ ?_
 .exact bne_eq_false_iff_eq.2 om
 obtain⟨A,B,C,D',E,a,b,c',d,e,a',b',c2,d',e',O⟩:=hP.x5 0 a1;have ak:Ext w1 w1.drew:=(Ext.refl w1).drew;have J:=ah.trans ak;have a4:=(hP.ix 0 a1).ext J;rw[O]at a4;obtain⟨ae,bm⟩:=b8 a1;refine ρ ?_;refine drH (λ_=>false) ?_;refine Zv (fuel':=4) 14 [(0,0),(0,1),(0,2),(0,4),(0,5),(0,6)] #[true,true,true,false,true,true,true,false,false,false] kr kr rfl ?_;refine ρd ?_;refine Vw 5 0 (hP.rd.ext J) a1 ?_;refine ρd ?_;refine Jo (cs:=[.slice A a a',.slice B b b',.slice C c' c2,.slice D' d d',.slice E e e']) (λj u hu=>a2 J a1 (by rw[O];exact hu)) ?_;refine ρd ?_;refine Vw 5 0 (hP.rd.ext J) a1 ?_;refine ρd ?_;refine Jo (cs:=[.slice A a a',.slice B b b',.slice C c' c2,.slice D' d d',.slice E e e']) (λj u hu=>a2 J a1 (by rw[O];exact hu)) ?_;refine ρd ?_;refine Xf ?_;refine hmkS 14 2 _ (lst 10 8) [3,7] [28,32] [SF.eq (.int .i64 (D.f:Int)),SF.bv D.ds] kr (by rfl) ?_ ?_
 .refine gsc (λvs v1 a7 hd=>?_) ?_
  .simp only[slM];refine cl (Jch (a4.ext a7).ix) ?_;rintro u v2 ⟨rfl,ag⟩;exact Jc (Xo ag rfl)
  refine gsc (λvs v1 a7 hd=>?_) gse
  simp only[slM];refine cl (Qzn (a4.ext a7).ix) ?_;rintro u v2 ⟨hu,ag⟩;exact Jc (Xo ag hu)
 intro vs w2 a7 hd;have e0:vs 0=_:=hd 0;obtain⟨FA,fc,e1,c5,c4,au⟩:=hd 1;simp only[slM,e0,e1];refine Zv (fuel':=0) 14 [(0,8),(0,9)] (lst 10 10) kr kr rfl ?_;refine ρd ?_;refine Xf ?_;refine Vf kr ?_;have a3:=ak.trans a7;have an:=ah.trans a3;refine ρ ?_;refine Qf (fun (i:Nat)=>[(0,.int .i64 (D.k:Int)),(1,.slice MA D.n mc),(4,.pointer (some ⟨b4,0,none⟩)),(5,.int .i64 0),(6,.int .i64 (D.f:Int)),(7,.slice FA D.ds.length fc),(33,.slice MA D.n mc),(34,.int .i64 (D.n:Int)),(35,.int .i64 (i:Int))])
  (λi w'=>i<=D.n/\Ext w2 w') (λi=>D.n-i) 0 sB ⟨Nat.zero_le _,Ext.refl _⟩ ?_
 rintro i w3 ⟨hi,a6⟩;have o:=an.trans a6;refine ρ ?_;refine ci (λh=>?_) (λh=>?_)
 .have li:i<D.n:=by have:=oT h;omega
  clear h O a4;obtain⟨A,B,C,D',E,a,b,c',d,e,a',b',c2,d',e',O⟩:=hP.x5 i li;have aj:=hP.ix i li;rw[O]at aj;refine ρ ?_;refine ixq 5 i (hP.rd.ext o) li ?_;refine ρ ?_;refine lds (cs:=[.slice A a a',.slice B b b',.slice C c' c2,.slice D' d d',.slice E e e']) (λj u hu=>a2 o li (by rw[O];exact hu)) ?_;refine ρ ?_;refine alc Gl ?_;intro w4 b9 a5 ba bi;refine ρ ?_;refine stW bi ?_;intro w5 af c3 Z;have a8:Ext w3 w5:=Z w3 a5 ba;have aa:=o.trans a8;refine ρ ?_;refine ldW af ?_;refine ρ ?_;refine cl (Jch (aj.ext aa).ix) ?_;rintro u w6 ⟨rfl,G⟩;have av:=af.ext G;refine ρ ?_;refine Go.Wk.kf 43 ?_ ?_
  .simp
  refine ρ ?_;refine ldW av ?_;refine ρ ?_;refine cl (Qzn (aj.ext (aa.trans G)).ix) ?_;rintro u w7 ⟨⟨GA,gc,rfl,c1,b5,bg⟩,a9⟩;refine ρ ?_;refine cl (Jmd bg (au.ext (((a6.trans a8).trans G).trans a9)) b5) ?_;rintro u w8 ⟨rfl,ax⟩;rw[decide_eq_true rfl];refine ρ ?_;exact Qw (i+1) sO ⟨li,(((a6.trans a8).trans G).trans a9).trans ax⟩ om
 clear h;refine ρ ?_;have ao:=hP.up.total;refine cl (Jfm (S:=λ_=>False) (I:=λ_ _=>True) (c:=λs=>(D.M s).length) (cap:=[]) hP.x5 b1 (λk hk=>hk.elim) (λW hW=>(hP.rd.ext o).ext hW.toExt) (λi=>by have:=hP.ml i;omega) trivial (λ_ _ _ _ _=>trivial) (λi hi W hW _=>?_)) ?_
 .refine(Qrq ((hP.ix i hi).ext (o.trans hW.toExt))).mono ?_;rintro u W' ⟨h1,h2⟩;exact⟨⟨h1,λ_ _ _ _ _ h=>h⟩,noN h2,trivial⟩
 rintro sv w4 ⟨ai,ay,b7,_⟩;have a5:=b7.toExt;have ab:=o.trans a5;rw[show sgP (λs=>(D.M s).length) D.n-sgM (λs=>(D.M s).length) D.n=D.U.length by rw[show D.n=2^D.k-1 from rfl,ao];omega]at ai;refine ρ ?_;refine cl (Jms (au.ext (a6.trans a5)) (λu hu=>by obtain⟨b,_,rfl⟩:=List.mem_map.1 hu;rfl) om) ?_;rintro u w5 ⟨⟨DC,dC,rfl,c6,bd,bh⟩,Z⟩;refine ρ ?_;refine cl (Xkx (hP.rd.ext (ab.trans Z)) (Qkp _ hP.x5) om) ?_;rintro u w6 ⟨⟨NA,nc,rfl,bz,bc,bf⟩,G⟩;obtain⟨SA,sc,rfl,bw,c7,c8⟩:=id ai;refine ρ ?_;refine bld (Xwv _ _ _ _ _ _ _ _ _ _ _ _) ?_;refine ρ ?_;refine stW (((aw.ext a3).ext (a6.trans a5)).ext (Z.trans G)) ?_;intro w7 bj b6 a9;have bs:=aw.lt;have br:=a3.size;have bq:=a6.size;have bp:=a5.size;have bo:=Z.size;have aq:GrN (λk=>k=b4) w6 w7:=GrN.by b6 λj hj=>by injection hj with hj;exact hj.symm
 have am:Ext w w7:=a9 w ((ab.trans Z).trans G) bb;have ar:D.f<=dC:=om
 have bn:=ah.size;have bl:=a3.size;have be:Off (λk=>k<w.heap.size∨k=b4) w6 λW=>RdB W DC D.ds/\Rd W 5 NA D.n (Qk D.n D.xc)/\NatV W (.slice SA (Jq D.U.length).length sc) D.U.length:=λW hW=>
  ⟨Ic (bd.ext G) (λh0 ad e he=>by have:=bh ad e;omega) W hW,Ic bc (λh0 ad e he=>by have:=bf ad e;omega) W hW,
   (NatX.gr (N:=λk=>k<w.heap.size∨k=b4) ⟨(ai.ext Z).ext G,λ_ ad m c e he=>by have:=ay ad m c e;omega⟩ hW).1⟩
 refine ρ ?_;refine Zh bj ⟨am,DC,dC,NA,nc,SA,_,sc,by rw[ae],ar,ae,λW hW=>be W ((aq.mono λk _ h=>.inr h).trans (hW.mono λk _ h=>.inl h))⟩
end Go.Proofs.YtbcdghbonlifdaaGreatDoor
