/- Part 8. -/
import Derived.Test.YtgobkbeokaaplaaGreatDoorR07
set_option linter.unusedVariables false
set_option maxRecDepth 100000
set_option maxHeartbeats 40000000
namespace Go.Proofs.YtgobkbeokaaplaaGreatDoor
open Pl Go.Wk
variable {cs:List Nat}{N a b f n s t v:Nat}{z zM:Row}
abbrev PAt:= List Nat×List Row
def pa0: PAt:=([],[])
def BagL(L:List PAt)(s:Nat)(z:Row): Prop:=∀ a∈L,∃ r∈a.2,∀ j,j<a.1.length->s.testBit (a.1.getD j 0)=true->r.getD j V0=z.getD (a.1.getD j 0) V0
abbrev vrL(L:List PAt)(i:Nat): List Nat:=(L.getD i pa0).1
abbrev rwL(L:List PAt)(i:Nat): List Row:=(L.getD i pa0).2
theorem Qdd{α:Type}{d:α}{L:List α}{P:α->Prop}: (∀ i,i<L.length->P (L.getD i d))↔∀ a∈L,P a:=by grind [List.getElem_of_mem,Qd,getD_mem']
theorem bagL_iff{L:List PAt}: Ig L.length (vrL L) (rwL L) s z↔BagL L s z :=
 Qdd (d:=pa0) (P:=λa=>∃ r∈a.2,∀ j,j<a.1.length->s.testBit (a.1.getD j 0)=true->r.getD j V0=z.getD (a.1.getD j 0) V0)
theorem Xcd{n:Nat}{L:List PAt}{l:List Row}(hasc:∀ a∈L,Qo a.1)(hc:∀ v,s.testBit v=true->∃ a∈L,v∈a.1)(hl:Lt [] l)(h:∀ x∈l,∃ z:Row,x=pmR (bk s 32) z/\BagL L s z): l.length<=Jg L.length λi=>(rwL L i).length:=by
 have o:∀ i,i<L.length->Qo (vrL L i):=by grind
 refine Qvw (F:=λg=>(bk s 32).map (Jqg L.length (vrL L) g)) (λg g' C=>List.map_congr_left λv _=>Qqw C v) (Qzf hl) λx G=>?_;obtain⟨z,rfl,D⟩:=h x G;rw[<-bagL_iff]at D;obtain⟨g,C⟩:∃ g:Nat->Row,∀ i,i<L.length->g i∈rwL L i/\∀ j,j<(vrL L i).length->s.testBit ((vrL L i).getD j 0)=true->(g i).getD j V0=z.getD ((vrL L i).getD j 0) V0:=by
  refine⟨λi=>if hi:i<L.length then Classical.choose (D i hi) else[],λi hi=>?_⟩;grind
 refine⟨g,λi hi=>(C i hi).1,?_⟩;unfold pmR;refine List.map_congr_left λv O=>?_;obtain⟨_,u⟩:=bk_mem.1 O;obtain⟨a,Z,J⟩:=hc v u;obtain⟨i,hi,rfl⟩:=List.getElem_of_mem Z;refine(Qqv o ⟨i,hi,by grind⟩ λi hi j hj e=>?_).symm;grind
def ren(f s v:Nat): Nat:=if v<f then v else v+s
theorem Qnz(h:a<b): ren f s a<ren f s b:=by unfold ren;grind
theorem Qpb(h:ren f s a=ren f s b): a=b:=by unfold ren at h;grind
theorem Jhk(h:v<f): ren f s v=v:=if_pos h
theorem Jwc(h:f<=v): ren f s v=v+s:=if_neg om
theorem Jhl: ren f 0 v=v:=by unfold ren;split<;>rfl
structure UMem where
 N: Nat
 perm:List Nat
 ats:List PAt
structure UOk(f:Nat)(M:UMem): Prop where
 n6:M.N<=6
 m5:M.ats.length<=5
 asc:∀ a∈M.ats,Qo a.1
 lt:∀ a∈M.ats,∀ v∈a.1,v<M.N
 cov:∀ v,v<M.N->∃ a∈M.ats,v∈a.1
 srt:∀ a∈M.ats,Lt [] a.2
 len:∀ a∈M.ats,∀ r∈a.2,r.length=a.1.length
 fit:∀ a∈M.ats,∀ r∈a.2,∀ u∈r,Xl u=true/\Xs u
 cnt:Jg M.ats.length (λi=>(rwL M.ats i).length)<=5000
 big:∀ a∈M.ats,a.2.length<=12
 pm:PermOk M.N f M.perm
def Xj(f s:Nat)(a:PAt): PAt:=(a.1.map (ren f s),a.2)
def jAs(f:Nat): Nat->List UMem->List PAt
 | _,[]=>[]
 | s,M::Ms=>M.ats.map (Xj f s)++jAs f (s+(M.N-f)) Ms
def jPm(f:Nat): Nat->List UMem->List Nat
 | _,[]=>[]
 | s,M::Ms=>M.perm.map (ren f s)++jPm f (s+(M.N-f)) Ms
def jN(f:Nat): Nat->List UMem->Nat
 | s,[]=>f+s
 | s,M::Ms=>jN f (s+(M.N-f)) Ms
def Ya(f:Nat): Nat->List UMem->List Nat
 | s,[]=>[f+s]
 | s,M::Ms=>(f+s)::Ya f (s+(M.N-f)) Ms
theorem Gm{f:Nat}: ∀ {s:Nat} {Ms:List UMem},f+s<=jN f s Ms
 | _,[]=>nR _
 | s,M::Ms=>by have:=Gm (f:=f) (s:=s+(M.N-f)) (Ms:=Ms);unfold jN;omega
theorem Jlv{f:Nat}: ∀ {s:Nat} {Ms:List UMem},(∀ M∈Ms,UOk f M)->jN f s Ms<=f+s+Ms.length*(6-f)
 | _,[],_=>by simp[jN]
 | s,M::Ms,h=>by
  have:=Jlv (f:=f) (s:=s+(M.N-f)) (Ms:=Ms) λm hm=>h m (List.mem_cons_of_mem _ hm);have:=(h M mC).n6;rw[jN,List.length_cons,Nat.succ_mul];omega
theorem Jvf{f:Nat}: ∀ {s:Nat} {Ms:List UMem},(∀ M∈Ms,UOk f M)->(jAs f s Ms).length<=Ms.length*5
 | _,[],_=>by simp[jAs]
 | s,M::Ms,h=>by
  have:=Jvf (f:=f) (s:=s+(M.N-f)) (Ms:=Ms) λm hm=>h m (List.mem_cons_of_mem _ hm);have:=(h M mC).m5;rw[jAs,List.length_append,List.length_map,List.length_cons];omega
theorem Jvd{f:Nat}: ∀ {s:Nat} {Ms:List UMem} {a:PAt},a∈jAs f s Ms->∃ s' M a',M∈Ms/\a'∈M.ats/\a=Xj f s' a'/\s<=s'/\f+s'+(M.N-f)<=jN f s Ms
 | _,[],_,h=>by cases h
 | s,M::Ms,a,h=>by
  rw[jAs,List.mem_append]at h;rcases h with h|h
  .obtain⟨a',h1,rfl⟩:=List.mem_map.1 h;exact⟨s,M,a',List.mem_cons_self,h1,rfl,Nat.le_refl _,by grind [jN,Gm]⟩
  obtain⟨s',M',a',h1,h2,h3,h4,h5⟩:=Jvd h;exact⟨s',M',a',List.mem_cons_of_mem _ h1,h2,h3,om,h5⟩
theorem Qcx{l:List Nat}(h:Qo l): Qo (l.map (ren f s)):=by grind [Qo,Qnz]
section
variable {f:Nat} {Ms:List UMem} {s:Nat}
theorem Jlz(h:∀ M∈Ms,UOk f M): ∀ a∈jAs f s Ms,Qo a.1:=λa i=>by
 obtain⟨C,M,u,o,j,rfl,_⟩:=Jvd i;exact Qcx ((h M o).asc u j)
theorem Jct(h:∀ M∈Ms,UOk f M): ∀ a∈jAs f s Ms,∀ v∈a.1,v<jN f s Ms:=λa o v i=>by
 obtain⟨J,M,G,D,C,rfl,_,O⟩:=Jvd o;obtain⟨u,j,rfl⟩:=List.mem_map.1 i;have:=(h M D).lt G C u j;unfold ren;split<;>omega
theorem Jcs(h:∀ M∈Ms,UOk f M){P:List Row->Prop}(hP:∀ M∈Ms,∀ a∈M.ats,P a.2): ∀ a∈jAs f s Ms,P a.2:=λa i=>by
 obtain⟨C,M,u,o,j,rfl,_⟩:=Jvd i;exact hP M o u j
theorem Xxb(h:∀ M∈Ms,UOk f M): ∀ a∈jAs f s Ms,∀ r∈a.2,r.length=a.1.length:=λa j r i=>by
 obtain⟨D,M,C,u,o,rfl,_⟩:=Jvd j;rw[(h M u).len C o r i];simp[Xj]
end
theorem Jlw{f:Nat}: ∀ {s:Nat} {Ms:List UMem} {v:Nat},f+s<=v->v<jN f s Ms->∃ s' M,M∈Ms/\(∀ a∈M.ats.map (Xj f s'),a∈jAs f s Ms)/\f+s'<=v/\v<f+s'+(M.N-f)/\f+s'∈Ya f s Ms/\f+s'+(M.N-f)∈Ya f s Ms
 | _,[],v,h1,h2=>by rw[jN]at h2;omega
 | s,M::Ms,v,h1,h2=>by
  rcases Nat.lt_or_ge v (f+s+(M.N-f)) with h3|h3
  .refine⟨s,M,List.mem_cons_self,λa ha=>by grind [jAs,List.mem_append_left],h1,h3,by rw[Ya];grind,?_⟩;rw[Ya];refine List.mem_cons_of_mem _ ?_;cases Ms with
   | nil=>rw[Ya,List.mem_singleton];omega
   | cons M' Ms=>rw[Ya];exact List.mem_cons.2 (.inl om)
  rw[jN]at h2;obtain⟨s',M',h4,h5,h6,h7,h8,h9⟩:=Jlw (f:=f) (s:=s+(M.N-f)) (Ms:=Ms) (v:=v) om h2;grind [List.mem_cons_of_mem,jAs,List.mem_append_right,Ya]
theorem Qkg{Ms:List UMem}(h:∀ M∈Ms,UOk f M)(hne:Ms≠[])(hv:v<jN f 0 Ms): ∃ a∈jAs f 0 Ms,v∈a.1:=by
 rcases Nat.lt_or_ge v f with h1|h1
 .cases Ms with
  | nil=>exact absurd rfl hne
  | cons M Ms=>
   have j:=h M mC;obtain⟨a,u,i⟩:=j.cov v (by have:=j.pm.fn;omega);grind [Xj,jAs,List.mem_append_left,List.mem_map_of_mem,List.mem_map.2,Jhl]
 obtain⟨o,M,C,J,G,D,_⟩:=Jlw (f:=f) (s:=0) om hv;obtain⟨a,u,i⟩:=(h M C).cov (v-o) om;grind [Xj,List.mem_map_of_mem,List.mem_map.2,Jwc]
theorem Jlt{f:Nat}: ∀ {s:Nat} {Ms:List UMem},(∀ M∈Ms,UOk f M)->(jPm f s Ms).length=jN f s Ms-(f+s)/\(∀ v∈jPm f s Ms,f+s<=v/\v<jN f s Ms)/\(jPm f s Ms).Nodup
 | s,[],_=>by simp[jPm,jN]
 | s,M::Ms,h=>by
  obtain⟨h1,h2,h3⟩:=Jlt (f:=f) (s:=s+(M.N-f)) (Ms:=Ms) λm hm=>h m (List.mem_cons_of_mem _ hm);have hM:=(h M mC).pm;have hge:=Gm (f:=f) (s:=s+(M.N-f)) (Ms:=Ms);have hm:∀ v∈M.perm.map (ren f s),f+s<=v/\v<f+s+(M.N-f):=λv hv=>by
   obtain⟨u,hu,rfl⟩:=List.mem_map.1 hv;have:=hM.rng u hu;grind [Jwc]
  refine⟨?_,λv hv=>?_,?_⟩
  .rw[jPm,jN,List.length_append,List.length_map,h1,hM.len];omega
  .grind [jPm,jN]
  rw[jPm,List.nodup_append];refine⟨?_,h3,λa ha b hb e=>?_⟩
  .unfold List.Nodup;rw[List.pairwise_map];exact hM.nd.imp λhab e=>hab (Qpb e)
  repeat grind
theorem Jcp{Ms:List UMem}(h:∀ M∈Ms,UOk f M): PermOk (jN f 0 Ms) f (jPm f 0 Ms):=by
 obtain⟨u,o,j⟩:=Jlt (s:=0) h;exact⟨by grind [Gm],by rw[u];omega,λv i=>by have:=o v i;omega,j⟩
theorem Qjq: ren f s (ren f t v)=ren f (t+s) v:=by grind [Jhk,Jwc]
theorem Qpc(a:PAt): Xj f s (Xj f t a)=Xj f (t+s) a:=by grind [Xj,List.map_map,List.map_congr_left,Qjq]
theorem Qkf{f s:Nat}: ∀ {t:Nat} {Ms:List UMem},(jAs f t Ms).map (Xj f s)=jAs f (t+s) Ms
 | _,[]=>rfl
 | t,M::Ms=>by
  rw[jAs,jAs,List.map_append,List.map_map,Qkf,show t+(M.N-f)+s=t+s+(M.N-f) by omega];grind [List.map_congr_left,Qpc]
theorem Qkc{f s:Nat}: ∀ {t:Nat} {Ms:List UMem},(jPm f t Ms).map (ren f s)=jPm f (t+s) Ms
 | _,[]=>rfl
 | t,M::Ms=>by
  rw[jPm,jPm,List.map_append,List.map_map,Qkc,show t+(M.N-f)+s=t+s+(M.N-f) by omega];grind [List.map_congr_left,Qjq]
theorem Qkd{f s:Nat}: ∀ {t:Nat} {Ms:List UMem},jN f (t+s) Ms=jN f t Ms+s
 | t,[]=>by rw[jN,jN];omega
 | t,M::Ms=>by rw[jN,jN,show t+s+(M.N-f)=t+(M.N-f)+s by omega,Qkd]
theorem Jcv{f:Nat}: ∀ {s:Nat} {A B:List UMem},jAs f s (A++B)=jAs f s A++jAs f (jN f s A-f) B
 | s,[],B=>by grind [jAs,jN,Nat.add_sub_cancel_left]
 | s,M::A,B=>by rw[List.cons_append,jAs,jAs,Jcv,List.append_assoc,jN]
theorem Jcq{f:Nat}: ∀ {s:Nat} {A B:List UMem},jPm f s (A++B)=jPm f s A++jPm f (jN f s A-f) B
 | s,[],B=>by grind [jPm,jN,Nat.add_sub_cancel_left]
 | s,M::A,B=>by rw[List.cons_append,jPm,jPm,Jcq,List.append_assoc,jN]
theorem Jcr{f:Nat}: ∀ {s:Nat} {A B:List UMem},jN f s (A++B)=jN f (jN f s A-f) B
 | s,[],B=>by rw[List.nil_append,jN,Nat.add_sub_cancel_left]
 | s,M::A,B=>by rw[List.cons_append,jN,Jcr,jN]
def Xx(f:Nat)(G:List UMem): UMem:=⟨jN f 0 G,jPm f 0 G,jAs f 0 G⟩
theorem Qzx{f:Nat}: ∀ {s:Nat} {Gs:List (List UMem)},jAs f s (Gs.map (Xx f))=jAs f s Gs.flatten/\jPm f s (Gs.map (Xx f))=jPm f s Gs.flatten/\jN f s (Gs.map (Xx f))=jN f s Gs.flatten
 | s,[]=>⟨rfl,rfl,rfl⟩
 | s,G::Gs=>by
  obtain⟨h1,h2,h3⟩:=Qzx (f:=f) (s:=s+(jN f 0 G-f)) (Gs:=Gs);have e0:jN f s G=jN f 0 G+s:=by have:=Qkd (f:=f) (s:=s) (t:=0) (Ms:=G);grind
  have hge:=Gm (f:=f) (s:=0) (Ms:=G);have e1:jN f s G-f=s+(jN f 0 G-f):=om
  have ea:(jAs f 0 G).map (Xj f s)=jAs f s G:=by have:=Qkf (f:=f) (s:=s) (t:=0) (Ms:=G);grind
  have ep:(jPm f 0 G).map (ren f s)=jPm f s G:=by have:=Qkc (f:=f) (s:=s) (t:=0) (Ms:=G);grind
  refine⟨?_,?_,?_⟩
  .rw[List.map_cons,List.flatten_cons,jAs,Jcv,e1,<-h1];show(jAs f 0 G).map (Xj f s)++jAs f (s+(jN f 0 G-f)) _=_;rw[ea]
  .rw[List.map_cons,List.flatten_cons,jPm,Jcq,e1,<-h2];show(jPm f 0 G).map (ren f s)++jPm f (s+(jN f 0 G-f)) _=_;rw[ep]
  rw[List.map_cons,List.flatten_cons,jN,Jcr,e1,<-h3];rfl
theorem Xqt{M:UMem}(h:f<=M.N): Xx f [M]=M:=by
 have o:jN f 0 [M]=M.N:=by rw[jN,jN];omega
 have j:jPm f 0 [M]=M.perm:=by
  rw[jPm,jPm,List.append_nil];conv=>rhs;rw[<-List.map_id M.perm]
  grind [List.map_congr_left,Jhl]
 have i:jAs f 0 [M]=M.ats:=by
  rw[jAs,jAs,List.append_nil];conv=>rhs;rw[<-List.map_id M.ats]
  refine List.map_congr_left λa _=>?_;unfold Xj;have:a.1.map (ren f 0)=a.1:=by
   conv=>rhs;rw[<-List.map_id a.1]
   grind [List.map_congr_left,Jhl]
  rw[this];rfl
 unfold Xx;rw[o,j,i]
def Qdm(cs:List Nat)(u x:Nat): Prop:=∀ c∈cs,(u<c↔x<c)
def NbC(f:Nat)(cs:List Nat)(nb:Nat->Nat->Bool): Prop:=∀ u x,f<=u->nb u x=true->x<f∨Qdm cs u x
theorem NbC.step{nb:Nat->Nat->Bool}(h:NbC f cs nb)(hv:f<=v): NbC f cs (Ug v nb):=λu x j i=>by
 unfold Ug at i;by_cases e1:nb v u=true
 .rw[if_pos e1]at i;simp only[Bool.and_eq_true,Bool.or_eq_true]at i;rcases i.1.1 with h1|h1
  .exact h u x j h1
  rcases h v x hv h1 with h2|h2
  .exact .inl h2
  rcases h v u hv e1 with h3|h3
  .omega
  exact .inr λc o=>(h3 c o).symm.trans (h2 c o)
 rw[if_neg e1]at i;exact h u x j i
theorem NbC.at{f:Nat}{cs:List Nat}: ∀ {l:List Nat} {nb:Nat->Nat->Bool},NbC f cs nb->(∀ v∈l,f<=v)->NbC f cs (Yl nb l)
 | [],_,h,_=>h
 | v::l,nb,h,hl=>NbC.at (l:=l) (nb:=Ug v nb) (h.step (hl v mC)) λu hu=>hl u (List.mem_cons_of_mem _ hu)
theorem Qvv{f:Nat}: ∀ {s:Nat} {Ms:List UMem},∀ c∈Ya f s Ms,f+s<=c
 | _,[],c,h=>by grind [Ya,List.mem_singleton]
 | s,M::Ms,c,h=>by
  rw[Ya]at h;rcases List.mem_cons.1 h with h|h
  .omega
  have:=Qvv c h;omega
theorem Jlx{f:Nat}: ∀ {s:Nat} {Ms:List UMem},(∀ M∈Ms,UOk f M)->∀ a∈jAs f s Ms,∀ u∈a.1,∀ x∈a.1,f<=u->f<=x->f+s<=u/\Qdm (Ya f s Ms) u x
 | _,[],_,a,h,_,_,_,_,_,_=>by cases h
 | s,M::Ms,h,a,ha,u,hu,x,hx,fu,fx=>by
  rw[jAs,List.mem_append]at ha;rcases ha with ha|ha
  .obtain⟨a',h1,rfl⟩:=List.mem_map.1 ha;have hM:=h M mC;have key:∀ u∈(Xj f s a').1,f<=u->f+s<=u/\u<f+s+(M.N-f):=λu hu fu=>by
    obtain⟨u',h2,rfl⟩:=List.mem_map.1 hu;have h3:=hM.lt a' h1 u' h2;have:f<=u':=by unfold ren at fu;split at fu<;>omega
    rw[Jwc this];omega
   have k1:=key u hu fu;have k2:=key x hx fx;refine⟨k1.1,λc hc=>?_⟩;rw[Ya]at hc;rcases List.mem_cons.1 hc with hc|hc
   .omega
   have:=Qvv c hc;omega
  obtain⟨h1,h2⟩:=Jlx (λm hm=>h m (List.mem_cons_of_mem _ hm)) a ha u hu x hx fu fx;obtain⟨h3,_⟩:=Jlx (λm hm=>h m (List.mem_cons_of_mem _ hm)) a ha x hx u hu fx fu;refine⟨om,λc hc=>?_⟩;rw[Ya]at hc;rcases List.mem_cons.1 hc with hc|hc
  .omega
  exact h2 c hc
section
variable {f:Nat} {Ms:List UMem} (h:∀ M∈Ms,UOk f M)
include h
theorem nbC0: NbC f (Ya f 0 Ms) (nb0 (jN f 0 Ms) (Zl (jAs f 0 Ms).length (vrL (jAs f 0 Ms)))):=λu x C j=>by
 unfold nb0 at j;simp only[Bool.and_eq_true,decide_eq_true_eq,bne_iff_ne,List.any_eq_true]at j;obtain⟨⟨h1,Z⟩,e,D,O,J⟩:=j;obtain⟨i,hi,rfl⟩:=List.mem_map.1 D;have o:=List.mem_range.1 hi;have G:(jAs f 0 Ms).getD i pa0∈jAs f 0 Ms:=getD_mem' pa0 _ o;rcases Nat.lt_or_ge x f with h5|h5
 .exact .inl h5
 exact .inr (Jlx h _ G u (edgeOf_bit.1 O) x (edgeOf_bit.1 J) C h5).2
theorem Xcc{kf:Nat->Nat}{pf:Nat->Int}(hb:Jkl (jN f 0 Ms) (Zl (jAs f 0 Ms).length (vrL (jAs f 0 Ms))) (Xb (jPm f 0 Ms) f) kf pf)(hne:Ms≠[])(hv:v<jN f 0 Ms):
  ∃ s' M,M∈Ms/\(∀ a∈M.ats.map (Xj f s'),a∈jAs f 0 Ms)/\∀ x,(kf v ||| 2^v).testBit x=true->x<f∨f+s'<=x/\x<f+s'+(M.N-f):=by
 have hp:=Jcp h;have C:∀ e∈Zl (jAs f 0 Ms).length (vrL (jAs f 0 Ms)),e<2^jN f 0 Ms:=λe he=>by
  obtain⟨i,hi,rfl⟩:=List.mem_map.1 he;exact Jzv (Jct h _ (getD_mem' pa0 _ (List.mem_range.1 hi)))
 have o:∀ x,(kf v ||| 2^v).testBit x=true->x=v∨Vx (nb0 (jN f 0 Ms) (Zl (jAs f 0 Ms).length (vrL (jAs f 0 Ms)))) (Xb (jPm f 0 Ms) f) v x=true:=λx j=>by
  rw[Nat.testBit_or,Nat.testBit_two_pow,Bool.or_eq_true,decide_eq_true_eq]at j;rcases j with j|j
  .rw[(hb v hv).2.1]at j;exact .inr j
  exact .inl j.symm
 have J:∀ x,Vx (nb0 (jN f 0 Ms) (Zl (jAs f 0 Ms).length (vrL (jAs f 0 Ms)))) (Xb (jPm f 0 Ms) f) v x=true->x<jN f 0 Ms:=λx j=>Jcm (λa b O=>(Jzj C O).2.1) j;rcases Nat.lt_or_ge v f with h1|h1
 .obtain⟨M,hM⟩:∃ M,M∈Ms:=by cases Ms with
   | nil=>exact absurd rfl hne
   | cons M Ms=>exact⟨M,List.mem_cons_self⟩
  have hs:∃ s' M,M∈Ms/\∀ a∈M.ats.map (Xj f s'),a∈jAs f 0 Ms:=by cases Ms with
   | nil=>exact absurd rfl hne
   | cons M Ms=>exact⟨0,M,List.mem_cons_self,λa ha=>by grind [jAs,List.mem_append_left]⟩
  obtain⟨s',M',h2,h3⟩:=hs;refine⟨s',M',h2,h3,λx j=>.inl ?_⟩;rcases o x j with G|G
  .omega
  have h5:=(Jcl (Jlf C) hp.ond (hp.omem.2 hv) G).1;have Z:=hp.omem.2 (J x G);rcases List.mem_append.1 Z with D|D
  .refine absurd ?_ h5;obtain⟨p,q,e⟩:=List.append_of_mem D;have a1:∀ y∈jPm f 0 Ms,(y != v)=true:=λy hy=>bne_iff_ne.2 (by have:=(hp.rng y hy).1;omega);grind [pre,Xb,List.takeWhile_append_of_pos,List.mem_append_left]
  repeat grind
 obtain⟨s',M,h2,h3,G,h5,Z,D⟩:=Jlw (f:=f) (s:=0) om hv;refine⟨s',M,h2,h3,λx j=>?_⟩;rcases o x j with h8|h8
 .exact .inr om
 have Zr:∀ u∈pre (Xb (jPm f 0 Ms) f) v,f<=u:=λu hu=>by
  have hm:v∈jPm f 0 Ms:=by
   rcases List.mem_append.1 (hp.omem.2 hv) with h9|h9
   repeat grind
  obtain⟨r,e,hn⟩:=Jkw hm;have e2:pre (Xb (jPm f 0 Ms) f) v=pre (jPm f 0 Ms) v:=by grind [Xb,jPm,pre,List.range,Jbv]
  rw[e2]at hu;exact(hp.rng u ((List.takeWhile_sublist _).subset hu)).1
 rcases(nbC0 h).at Zr v x h1 h8 with h9|h9
 .exact .inl h9
 refine .inr ⟨?_,?_⟩
 .have:=h9 _ Z;omega
 have:=h9 _ D;omega
theorem jBldI{ds:List Bool}{ts:List TA}(hds:ds.length=f)(hne:Ms≠[])(h3:Ms.length<=4)(hts:ts.map (·.2)=(jAs f 0 Ms).map λa=>(⟨nz a.1,a.1.length,a.2⟩:Atm)):
  BldI (jN f 0 Ms) f ds (jPm f 0 Ms) ts (vrL (jAs f 0 Ms)) (rwL (jAs f 0 Ms)):=by
 have a3:ts.length=(jAs f 0 Ms).length:=by have:=congrArg List.length hts;simpa using this
 have hn:jN f 0 Ms<=24:=by
  have J:=Jlv (s:=0) h;cases Ms with
  | nil=>exact absurd rfl hne
  | cons M Ms=>
   have:=(h M mC).n6;have:=(h M mC).pm.fn;have h4:(M::Ms).length*(6-f)<=4*(6-f):=nO _ h3;omega
 have hm:=Jvf (s:=0) h;have j:∀ {P:PAt->Prop},(∀ a∈jAs f 0 Ms,P a)->∀ i,i<ts.length->P ((jAs f 0 Ms).getD i pa0):=by grind
 refine⟨⟨om,om,λi hi=>?_,j (P:=λa=>Qo a.1) (Jlz h),j (P:=λa=>∀ u∈a.1,u<jN f 0 Ms) (Jct h),λv hv=>?_,j (P:=λa=>Lt [] a.2) (Jcs h λM D=>(h M D).srt),j (P:=λa=>∀ r∈a.2,r.length=a.1.length) (Xxb h),j (P:=λa=>a.2.length<=65536) (Jcs (P:=λl=>l.length<=65536) h λM D a o=>nL ((h M D).big a o) (by decide))⟩,Jcp h,hds,j (P:=λa=>∀ r∈a.2,∀ u∈r,Xl u=true/\Xs u) (Jcs (P:=λl=>∀ r∈l,∀ u∈r,Xl u=true/\Xs u) h λM D=>(h M D).fit),λkf pf hb v hv=>⟨λl hl hx=>?_,λi hi=>.inl (j (P:=λa=>a.2.length<=12) (Jcs (P:=λl=>l.length<=12) h λM D=>(h M D).big) i hi)⟩⟩
 .have J:(ts.map (·.2)).getD i a0=(ts.getD i ta0).2:=by simp[List.getD,hi]
  grind
 .obtain⟨a,o,C⟩:=Qkg h hne hv;obtain⟨i,hi,rfl⟩:=List.getElem_of_mem o;exact⟨i,om,by grind⟩
 rw[a3]at hb hx;obtain⟨G,M,D,O,a4⟩:=Xcc h hb hne hv;have Z:=h M D;have hr:Jg (M.ats.map (Xj f G)).length (λi=>(rwL (M.ats.map (Xj f G)) i).length)<=5000:=by
  refine nL (Nat.le_of_eq ?_) Z.cnt;rw[List.length_map];refine Gf λi hi=>?_;have:(M.ats.map (Xj f G)).getD i pa0=Xj f G (M.ats.getD i pa0):=by simp[List.getD,hi]
  rw[rwL,this];rfl
 refine nL (Xcd (n:=0) (L:=M.ats.map (Xj f G)) (s:=kf v ||| 2^v) (λa o=>?_) (λx a2=>?_) hl λx a1=>?_) (nL hr om)
 .obtain⟨a',J,rfl⟩:=List.mem_map.1 o;exact Qcx (Z.asc a' J)
 .rcases a4 x a2 with J|J
  .obtain⟨a,o,C⟩:=Z.cov x (by have:=Z.pm.fn;omega);exact⟨_,List.mem_map_of_mem o,List.mem_map.2 ⟨x,C,Jhk J⟩⟩
  obtain⟨a,o,C⟩:=Z.cov (x-G) om;exact⟨_,List.mem_map_of_mem o,List.mem_map.2 ⟨x-G,C,by grind [Jwc]⟩⟩
 obtain⟨z,hz,e,hB⟩:=hx x a1;exact⟨z,e,λa o=>(bagL_iff.1 hB) a (O a o)⟩
end
def Jyn(n:Nat)(L:List PAt)(z:Row): Prop:=z.length=n/\∀ a∈L,pmR a.1 z∈a.2
theorem ansL_iff{L:List PAt}: Zt n L.length (vrL L) (rwL L) z↔Jyn n L z :=
 and_congr_right λ_=>Qdd (d:=pa0) (P:=λa=>pmR a.1 z∈a.2)
def UAns(f:Nat)(M:UMem)(y:Row): Prop:=∃ z,Jyn M.N M.ats z/\z.take f=y
theorem Qqm(hc:∀ v∈cs,v<N)(h:∀ v,v<N->z.getD (ren f s v) V0=zM.getD v V0): pmR (cs.map (ren f s)) z=pmR cs zM:=by grind [pmR,List.map_map,List.map_congr_left]
theorem jans{f:Nat}: ∀ {s:Nat} {Ms:List UMem} {p:Row},(∀ M∈Ms,UOk f M)->p.length=f+s->((∃ z,Jyn (jN f s Ms) (jAs f s Ms) z/\z.take (f+s)=p)↔∀ M∈Ms,UAns f M (p.take f))
 | s,[],p,_,hp=>⟨λ_ M hM=>(by cases hM),λ_=>⟨p,⟨hp,λa ha=>(by cases ha)⟩,by grind⟩⟩
 | s,M::Ms,p,h,hp=>by
  have hM:=h M mC;have hfN:=hM.pm.fn;have h':∀ m∈Ms,UOk f m:=by grind
  have hge:=Gm (f:=f) (s:=s+(M.N-f)) (Ms:=Ms);constructor
  .rintro⟨z,⟨hz,ha⟩,rfl⟩;rw[jN]at hz;have ih:=(jans (f:=f) (s:=s+(M.N-f)) (Ms:=Ms) (p:=z.take (f+(s+(M.N-f)))) h' (by grind)).1 ⟨z,⟨hz,λa ha'=>ha a (by grind [jAs,List.mem_append_right])⟩,rfl⟩;intro m hm;rw[List.take_take,Nat.min_eq_left om]at ih ⊢;rcases List.mem_cons.1 hm with rfl|hm
   .have hget:∀ v,v<m.N->((List.range m.N).map λv=>z.getD (ren f s v) V0).getD v V0=z.getD (ren f s v) V0:=by grind
    refine⟨(List.range m.N).map λv=>z.getD (ren f s v) V0,⟨by simp,λa ha'=>?_⟩,?_⟩
    .have h1:=ha (Xj f s a) (by grind [jAs,List.mem_append_left,List.mem_map_of_mem]);have h2:pmR (Xj f s a).1 z=pmR a.1 ((List.range m.N).map λv=>z.getD (ren f s v) V0):=Qqm (hM.lt a ha') λv hv=>(hget v hv).symm;rw[h2]at h1;exact h1
    repeat grind [List.ext_getElem,List.length_take,List.length_map,List.length_range,Jhk,Qd,V0]
   exact ih m hm
  intro hA;obtain⟨zM,⟨hzl,hza⟩,hzf⟩:=hA M mC;have hpl:(p++zM.drop f).length=f+(s+(M.N-f)):=by grind
  obtain⟨z,⟨hz,hzA⟩,hzt⟩:=(jans (f:=f) (s:=s+(M.N-f)) (Ms:=Ms) (p:=p++zM.drop f) h' hpl).2 λm hm=>by grind
  have hget:∀ i,i<f+(s+(M.N-f))->z.getD i V0=(p++zM.drop f).getD i V0:=λi hi=>by grind
  refine⟨z,⟨by rw[jN];exact hz,λa ha=>?_⟩,?_⟩
  .rw[jAs,List.mem_append]at ha;rcases ha with ha|ha
   .obtain⟨a',h1,rfl⟩:=List.mem_map.1 ha;have h2:pmR (Xj f s a').1 z=pmR a'.1 zM:=Qqm (hM.lt a' h1) λv hv=>by
     unfold ren;split
     .rename_i hvf;rw[hget v om];have e1:(p++zM.drop f).getD v V0=p.getD v V0:=by grind
      have e2:zM.getD v V0=(zM.take f).getD v V0:=by simp[List.getD,hvf]
      grind
     repeat grind
    rw[h2];exact hza a' h1
   exact hzA a ha
  repeat grind [Nat.min_eq_left,List.take_length]
open Pl Go.Wk
variable {d found:Bool}{l:List (V×Nat)}{ds:List Bool}{U:List Row}{c i j k s v:Nat}{may:Nat->Prop}{p q r y:Row}{a best want:V}
def Jwm(s:Nat): Bool:=[false,true,true,false,true,false,false,true].getD s false
def sgP(c:Nat->Nat): Nat->Nat
 | 0=>0
 | i+1=>if Jwm (i+1) then sgP c i+c (i+1) else sgP c i
def sgM(c:Nat->Nat): Nat->Nat
 | 0=>0
 | i+1=>if Jwm (i+1) then sgM c i else sgM c i+c (i+1)
structure UnP(k f:Nat)(ds:List Bool)(M:Nat->List Row)(U:List Row): Prop where
 k1:1<=k
 k3:k<=3
 ul:Lt ds U
 um:∀ y,y∈U↔∃ i,i<k/\y∈M (2^i)
 ml:∀ s,1<=s->s<2^k->Lt ds (M s)
 mm:∀ s,1<=s->s<2^k->∀ y,y∈M s↔∀ i,i<k->s.testBit i=true->y∈M (2^i)
 len:∀ y∈U,y.length=f
theorem cnt2{P b0 b1:Row->Bool}: ∀ {U:List Row},(∀ y∈U,(b0 y || b1 y)=true)->(U.filter λy=>b0 y && P y).length+(U.filter λy=>b1 y && P y).length=(U.filter P).length+(U.filter λy=>(b0 y && b1 y) && P y).length
 | [],_=>rfl
 | y::U,h=>by
  have ih:=cnt2 (P:=P) (b0:=b0) (b1:=b1) (U:=U) λx hx=>h x (List.mem_cons_of_mem _ hx);grind
theorem cnt3{P b0 b1 b2 : Row → Bool}: ∀ {U : List Row}, (∀ y ∈ U, (b0 y || b1 y || b2 y) = true) → (U.filter fun y => b0 y && P y).length + (U.filter fun y => b1 y && P y).length + (U.filter fun y => b2 y && P y).length + (U.filter fun y => (b0 y && b1 y && b2 y) && P y).length =
      (U.filter P).length + (U.filter fun y => (b0 y && b1 y) && P y).length + (U.filter fun y => (b0 y && b2 y) && P y).length + (U.filter fun y => (b1 y && b2 y) && P y).length
  | [], _ => rfl
  | y :: U, h => by
    have ih := cnt3 (P := P) (b0 := b0) (b1 := b1) (b2 := b2) (U := U) fun x hx => h x (List.mem_cons_of_mem _ hx)
    have h0 := h y mC
    simp only [List.filter_cons]
    grind
theorem Qzd{l:List Row}(h:Lt ds l)(P:Row->Bool): Lt ds (l.filter P):=List.Pairwise.sublist List.filter_sublist h
section
variable {k f:Nat} {ds:List Bool} {M:Nat->List Row} {U:List Row} (h:UnP k f ds M U)
include h
theorem UnP.sub(h1:1<=s)(h2:s<2^k)(hy:y∈M s): y∈U:=by
 obtain⟨i,hi⟩:∃ i,s.testBit i=true:=Nat.exists_testBit_of_ne_zero om;have j:i<k:=by grind [Nat.lt_or_ge,Nat.testBit_lt_two_pow,Nat.lt_of_lt_of_le,Nat.pow_le_pow_right]
 exact(h.um y).2 ⟨i,j,(h.mm s h1 h2 y).1 hy i j hi⟩
theorem UnP.fil(h1:1<=s)(h2:s<2^k){b:Row->Bool}(hb:∀ y,b y=true↔∀ i,i<k->s.testBit i=true->y∈M (2^i))(P:Row->Bool): ((M s).filter P).length=(U.filter λy=>b y && P y).length:=by
 have:M s=U.filter b:=Ie (h.ml s h1 h2) (Qzd h.ul b) λy=>by
  rw[List.mem_filter,hb];exact⟨λj=>⟨h.sub h1 h2 j,(h.mm s h1 h2 y).1 j⟩,λj=>(h.mm s h1 h2 y).2 j.2⟩
 grind [List.filter_filter,List.filter_congr,Bool.and_comm]
theorem UnP.signed(P:Row->Bool): sgP (λs=>((M s).filter P).length) (2^k-1)=(U.filter P).length+sgM (λs=>((M s).filter P).length) (2^k-1):=by
 obtain⟨m,hm⟩:∃ m:Nat->Row->Bool,m=λi y=>decide (y∈M (2^i)):=⟨_,rfl⟩;obtain⟨j,G⟩:∃ j:Nat->Row->Bool,j=λs y=>(List.range k).all λi=>!(s.testBit i) || m i y:=⟨_,rfl⟩;have key:∀ s,1<=s->s<2^k->((M s).filter P).length=(U.filter λy=>j s y && P y).length:=λs o u=>h.fil o u (λy=>by grind) P;have hu:∀ y∈U,∃ i,i<k/\m i y=true:=λy D=>by
  obtain⟨i,hi,o⟩:=(h.um y).1 D;exact⟨i,hi,by rw[hm];simpa using o⟩
 have a2:=h.k1;have a1:=h.k3;clear h hm;obtain rfl|rfl|rfl:k=1∨k=2∨k=3:=om
 .have C:=key 1 (by decide) (by decide);show 0+((M 1).filter P).length=_+0;rw[C,Nat.zero_add,Nat.add_zero];grind [List.filter_congr,Nat.testBit]
 .have C:=key 1 (by decide) (by decide);have Z:=key 2 (by decide) (by decide);have O:=key 3 (by decide) (by decide);show 0+((M 1).filter P).length+((M 2).filter P).length=_+(0+((M 3).filter P).length);have o:j 1=m 0:=by grind
  have u:j 2=m 1:=by grind
  have J:j 3=λy=>m 0 y && m 1 y:=by grind
  rw[C,Z,O,o,u,J];have:=cnt2 (P:=P) (b0:=m 0) (b1:=m 1) (U:=U) λy D=>by grind
  grind
 have C:=key 1 (by decide) (by decide);have Z:=key 2 (by decide) (by decide);have O:=key 3 (by decide) (by decide);have e4:=key 4 (by decide) (by decide);have e5:=key 5 (by decide) (by decide);have e6:=key 6 (by decide) (by decide);have e7:=key 7 (by decide) (by decide);show 0+((M 1).filter P).length+((M 2).filter P).length+((M 4).filter P).length+((M 7).filter P).length=_+(0+((M 3).filter P).length+((M 5).filter P).length+((M 6).filter P).length);have hs:∀ s,j s=λy=>(!(s.testBit 0) || m 0 y) && ((!(s.testBit 1) || m 1 y) && ((!(s.testBit 2) || m 2 y) && true)):=λs=>by subst G;rfl
 have o:j 1=m 0:=by grind
 have u:j 2=m 1:=by grind
 have h4:j 4=m 2:=by grind
 have J:j 3=λy=>m 0 y && m 1 y:=by grind
 have h5:j 5=λy=>m 0 y && m 2 y:=by grind
 have h6:j 6=λy=>m 1 y && m 2 y:=by grind
 have h7:j 7=λy=>m 0 y && m 1 y && m 2 y:=by grind
 rw[C,Z,O,e4,e5,e6,e7,o,u,J,h4,h5,h6,h7];have:=cnt3 (P:=P) (b0:=m 0) (b1:=m 1) (b2:=m 2) (U:=U) λy D=>by grind
 simp only at this ⊢;omega
end
theorem Qyp{b:V}: Jv (p++[a]) (p++[b]) ds=neg (ds.getD p.length false) (cmpV a b):=by
 have key:∀(p:Row) (ds:List Bool),Jv (p++[a]) (p++[b]) ds=neg (ds.getD p.length false) (cmpV a b):=by
  intro p;induction p with
  | nil=>
   grind [cmpV,Jv,Jlc]
  | cons x p ih=>
   grind [cmpV,Jv,Vv,List.getD]
 exact key p ds
theorem Xwx(h:Lt ds U)(hk:k<U.length): Qc ds U q<=k↔¬ Jv ((U.getD k []).take q.length) q ds<0:=by
 have o:∀ i j,i<=j->j<U.length->Jv ((U.getD i []).take q.length) ((U.getD j []).take q.length) ds<=0:=λi j D J=>by
  refine Qym _ _ ds _ ?_;rcases Nat.eq_or_lt_of_le D with e|e
  .rw[e,Ye];exact Int.le_refl _
  exact Int.le_of_lt (Xjz h e J)
 have Z:Qc ds U q=Qc ds (U.take (k+1)) q+Qc ds (U.drop (k+1)) q:=by rw[<-Jnd,List.take_append_drop]
 have O:Qc ds U q=Qc ds (U.take k) q+Qc ds (U.drop k) q:=by rw[<-Jnd,List.take_append_drop]
 constructor
 .intro G u;have:Qc ds (U.take (k+1)) q=(U.take (k+1)).length:=Qyg λx C=>by
   obtain⟨i,hi,rfl⟩:=List.getElem_of_mem C;rw[List.length_take]at hi;rw[List.getElem_take,<-Qd [] _ (show i<U.length by omega)];exact(Gt ds).le_lt (o i k om hk) u
  grind
 intro G;have:Qc ds (U.drop k) q=0:=Jnc λx C u=>by
  obtain⟨i,hi,rfl⟩:=List.getElem_of_mem C;rw[List.length_drop]at hi;rw[List.getElem_drop,<-Qd [] _ (show k+i<U.length by omega)]at u;exact G ((Gt ds).le_lt (o k (k+i) om om) u)
 grind [Qc,Jyb,List.length_take]
theorem Xww(h:Lt ds U)(hk:k<U.length)(hv:v<(U.getD k []).length): Qc ds U ((U.getD k []).take v++[a])<=k↔neg (ds.getD v false) (cmpV a ((U.getD k []).getD v V0))<=0:=by
 rw[Xwx h hk];have i:((U.getD k []).take v).length=v:=by grind
 have e:(U.getD k []).take ((U.getD k []).take v++[a]).length=(U.getD k []).take v++[(U.getD k []).getD v V0]:=by
  rw[List.length_append,i];exact Qr V0 hv
 grind [Qyp,Jzg]
section
variable {k f:Nat} {ds:List Bool} {M:Nat->List Row} {U:List Row} (h:UnP k f ds M U)
include h
theorem UnP.before(q:Row): sgP (λs=>Qc ds (M s) q) (2^k-1)=Qc ds U q+sgM (λs=>Qc ds (M s) q) (2^k-1):=h.signed _
theorem UnP.total: sgP (λs=>(M s).length) (2^k-1)=U.length+sgM (λs=>(M s).length) (2^k-1):=by
 have:=h.signed λ_=>true;have e:∀ l:List Row,l.filter (λ_=>true)=l:=by grind [List.filter_eq_self.2]
 grind
theorem UnP.has(hr:r.length=f): r∈U↔∃ s,1<=s/\s<2^k/\0<(wiL (M s) r).length:=by
 constructor
 .intro C;obtain⟨i,hi,u⟩:=(h.um r).1 C;refine⟨2^i,Nat.one_le_two_pow,Nat.pow_lt_pow_right om hi,?_⟩;refine List.length_pos_of_mem (a:=r) ?_;grind [wiL,List.take_length]
 rintro⟨s,u,J,G⟩;obtain⟨x,o⟩:=List.exists_mem_of_length_pos G;unfold wiL at o;rw[List.mem_filter,decide_eq_true_eq]at o;have j:=h.sub u J o.1;have D:=h.len x j;grind
end
structure BestP(d:Bool)(want:V)(may:Nat->Prop)(i:Nat)(found:Bool)(best:V): Prop where
 le:found=true->neg d (cmpV best want)<=0
 has:(∃ j,j<i/\may j)->found=true/\best=want
theorem BestP.start(d:Bool)(want:V)(may:Nat->Prop)(best:V): BestP d want may 0 false best:=⟨λh=>(by cases h),λ⟨j,i,_⟩=>absurd i (Nat.not_lt_zero j)⟩
theorem BestP.skip(h:BestP d want may i found best)(hn:¬ may i): BestP d want may (i+1) found best :=
 ⟨h.le,λ⟨j,u,o⟩=>h.has ⟨j,by grind⟩⟩
theorem BestP.take{val:V}(h:BestP d want may i found best)(hv:neg d (cmpV val want)<=0)(hm:may i->val=want)(hf:found=false∨0<neg d (cmpV val best)): BestP d want may (i+1) true val :=
 ⟨λ_=>hv,λ⟨j,u,o⟩=>⟨rfl,by
  rcases Nat.lt_or_ge j i with h2|h2
  .obtain⟨D,C⟩:=h.has ⟨j,h2,o⟩;grind
  repeat grind⟩⟩
theorem BestP.keep{val:V}(h:BestP d want may i true best)(hm:may i->val=want)(hf:neg d (cmpV val best)<=0): BestP d want may (i+1) true best :=
 ⟨h.le,λ⟨j,u,o⟩=>⟨rfl,by
  rcases Nat.lt_or_ge j i with h2|h2
  .exact(h.has ⟨j,h2,o⟩).2
  have:j=i:=om
  subst this;have e:=hm o;rw[e,Jzg]at hf;have C:=h.le rfl;refine(Jqw d).zero _ _ ?_;grind⟩⟩
structure LastP(d:Bool)(want:V)(l:List (V×Nat))(c:Nat): Prop where
 le:c<=l.length
 yes:∀ i,i<c->neg d (cmpV (l.getD i (V0,0)).1 want)<=0
 no:∀ i,c<=i->i<l.length->¬ neg d (cmpV (l.getD i (V0,0)).1 want)<=0
theorem LastP.end(h:LastP d want l c)(hs:Us d l)(hw:want∈l.map (·.1)): 0<c/\(l.getD (c-1) (V0,0)).1=want:=by
 obtain⟨p,hp,e⟩:=List.mem_map.1 hw;obtain⟨i,hi,rfl⟩:=List.getElem_of_mem hp;have D:(l.getD i (V0,0)).1=want:=by grind
 have j:i<c:=by
  rcases Nat.lt_or_ge i c with h1|h1
  .exact h1
  have:=h.no i h1 hi;grind [Vv,Jlc]
 have C:=h.le;rcases Nat.lt_or_ge i (c-1) with h1|h1
 .have u:=h.yes (c-1) om;have o:=List.pairwise_iff_getElem.1 hs i (c-1) hi om h1;grind [Qd,V0,Jzg]
 repeat grind
theorem Qmp(hs:Us d l)(hij:i<=j)(hj:j<l.length)(h:neg d (cmpV (l.getD j (V0,0)).1 want)<=0): neg d (cmpV (l.getD i (V0,0)).1 want)<=0:=by
 rcases Nat.eq_or_lt_of_le hij with e|e
 .rw[e];exact h
 have o:=List.pairwise_iff_getElem.1 hs i j om hj e;rw[<-Qd (V0,0) l (show i<l.length by omega),<-Qd (V0,0) l hj]at o;exact(Jqw d).trans _ _ _ (Int.le_of_lt o) h
open Pl Go.Wk
variable {ds:List Bool}{f i n s:Nat}{y:Row}{α:Type}
def Xr(c:Cse)(ats:List Atm): UMem:=⟨c.N,toN c.pm,(List.range c.m).map λi=>(c.vars i,rsA ats i)⟩
section
variable {c:Cse} {ats:List Atm} (h:CseOk c ats)
include h
theorem CseOk.uok: UOk c.F (Xr c ats):=by
 have j:∀ {P:PAt->Prop},(∀ i,i<c.m->P (c.vars i,rsA ats i))->∀ a∈(Xr c ats).ats,P a:=λhP a O=>by
  obtain⟨i,hi,rfl⟩:=List.mem_map.1 O;grind
 refine⟨h.nN.2,?_,j (P:=λa=>Qo a.1) λi hi=>(h.vars hi).2.1,j (P:=λa=>∀ v∈a.1,v<c.N) λi hi=>(h.vars hi).2.2.1,λv G=>?_,j (P:=λa=>Lt [] a.2) λi hi=>(h.set hi).1,j (P:=λa=>∀ r∈a.2,r.length=a.1.length) λi hi=>h.slen hi,
  j (P:=λa=>∀ r∈a.2,∀ u∈r,Xl u=true/\Xs u) λi hi r J u D=>?_,?_,j (P:=λa=>a.2.length<=12) λi hi=>?_,h.pm.1⟩
 .have:=h.few.v5;grind [Xr,List.length_map,List.length_range,Cse.m]
 .obtain⟨i,hi,C⟩:=h.cov G;exact⟨_,List.mem_map.2 ⟨i,List.mem_range.2 hi,rfl⟩,C⟩
 .have o:=((h.set hi).2 r).1 J;have h1:=((h.mka i hi).ok r o).2;exact⟨List.all_eq_true.1 h1 u D,h.fit i (by rw[<-h.len];exact hi) r o u D⟩
 .have h3:=h.cnt;have Z:Jg c.m (λi=>(rsA ats i).length)<=Jg c.m λi=>(c.crs i).length:=Qqh λi hi=>Jgn (h.set hi);have e:Jg (Xr c ats).ats.length (λi=>(rwL (Xr c ats).ats i).length)=Jg c.m λi=>(rsA ats i).length:=by
   have el:(Xr c ats).ats.length=c.m:=by simp[Xr]
   rw[el];refine Gf λi hi=>?_;simp[rwL,Xr,List.getD,hi]
  rw[e];omega
 have:=Jgn (h.set hi);have Z:=h.few.row i (by rw[<-h.len];exact hi);grind [Cse.crs,rsA]
theorem CseOk.uans: UAns c.F (Xr c ats) y↔y∈c.ans:=by
 rw[h.ans.2 y];have e:∀ z,Jyn (Xr c ats).N (Xr c ats).ats z↔Zt c.N c.m c.vars (rsA ats) z:=λz=>by
  unfold Jyn Zt;refine and_congr_right λ_=>⟨λj i hi=>j _ (List.mem_map.2 ⟨i,List.mem_range.2 hi,rfl⟩),λj a u=>?_⟩;obtain⟨i,hi,rfl⟩:=List.mem_map.1 u;grind
 exact⟨λ⟨z,j,o⟩=>⟨z,(e z).1 j,o⟩,λ⟨z,j,o⟩=>⟨z,(e z).2 j,o⟩⟩
end
def Yf(l:List α)(s i:Nat): List α:=((List.range i).filter λi=>s.testBit i).filterMap λi=>l[i]?
theorem Jht{l:List α}(hi:i<l.length): Yf l s (i+1)=if s.testBit i=true then Yf l s i++[l[i]] else Yf l s i:=by grind [Yf,List.range_succ,List.filter_cons_of_pos,List.getElem?_eq_getElem,List.filter_cons_of_neg]
theorem Jhv{α:Type}{l:List α}{s:Nat}: ∀ i,i<=l.length->(Yf l s i).Sublist (l.take i)
 | 0,_=>by simp[Yf]
 | i+1,hi=>by
  have ih:=Jhv (l:=l) (s:=s) i om;have hi':i<l.length:=om
  rw[Jht hi',List.take_add_one,List.getElem?_eq_getElem hi'];grind
def pick(l:List α)(s:Nat): List α:=Yf l s l.length
theorem pick_sub{l:List α}: (pick l s).Sublist l:=by
 have:=Jhv (l:=l) (s:=s) l.length (nR _);rwa [List.take_length]at this
theorem flat_len{a b:List (List α)}(h:a.Sublist b): a.flatten.length<=b.flatten.length:=by
 induction h with
 | slnil=>exact nR _
 | cons x _ ih=>rw[List.flatten_cons,List.length_append];omega
 | cons_cons x _ ih=>rw[List.flatten_cons,List.flatten_cons,List.length_append,List.length_append];omega
theorem pick_mem{l:List α}{x:α}: x∈pick l s↔∃ i,i<l.length/\s.testBit i=true/\l[i]?=some x:=by grind [pick,Yf,List.mem_filter.2,List.mem_range.2]
theorem Qqr{l:List α}(h1:1<=s)(h2:s<2^l.length): pick l s≠[]:=by
 obtain⟨i,hi⟩:∃ i,s.testBit i=true:=Nat.exists_testBit_of_ne_zero om;have j:i<l.length:=by grind [Nat.lt_or_ge,Nat.testBit_lt_two_pow,Nat.lt_of_lt_of_le,Nat.pow_le_pow_right]
 exact List.ne_nil_of_mem (pick_mem.2 ⟨i,j,hi,List.getElem?_eq_getElem j⟩)
theorem Qrr{l:List α}: (pick l s).length<=l.length:=pick_sub.length_le
abbrev CsA:= Cse×List Atm
def CsM(f:Nat)(ds:List Bool)(p:CsA): Prop:=CseOk p.1 p.2/\p.1.F=f/\p.1.ds=ds
structure CsU(gs:List (List CsA))(f:Nat)(ds:List Bool): Prop where
 c1:1<=gs.length
 c3:gs.length<=3
 c4:gs.flatten.length<=4
 ne:∀ g∈gs,g≠[]
 ok:∀ g∈gs,∀ p∈g,CsM f ds p
noncomputable def Xe(ms:List CsA): List Row:=match ms with
 | []=>[]
 | p::ms=>p.1.ans.filter λy=>ms.all λq=>decide (y∈q.1.ans)
theorem Jdm: ∀ {ms:List CsA},ms≠[]->∀ y,y∈Xe ms↔∀ q∈ms,y∈q.1.ans
 | [],h,_=>absurd rfl h
 | p::ms,_,y=>by grind [Xe,List.all_eq_true]
theorem Qyt(p:CsA): Xe [p]=p.1.ans:=List.filter_eq_self.2 λ_ _=>rfl
theorem Qyv{ms:List CsA}(h:∀ p∈ms,CsM f ds p): Lt ds (Xe ms):=by
 cases ms with
 | nil=>exact List.Pairwise.nil
 | cons p ms=>
  obtain⟨j,_,i⟩:=h p mC;have:=j.ans.1;rw[i]at this;exact Qzd this _
theorem Qyw{ms:List CsA}(h:∀ p∈ms,CsM f ds p): (Xe ms).length<=5000:=by
 cases ms with
 | nil=>exact Nat.zero_le _
 | cons p ms=>exact nL (List.length_filter_le _ _) (h p mC).1.anl
theorem Xvk{ms:List CsA}(h:∀ p∈ms,CsM f ds p)(hy:y∈Xe ms): y.length=f:=by
 cases ms with
 | nil=>cases hy
 | cons p ms=>
  obtain⟨j,i,o⟩:=h p mC;rw[j.arow (List.mem_filter.1 hy).1,i]
noncomputable def Jkj(ds:List Bool)(gs:List (List CsA)): List Row:=(gs.flatMap Xe).foldl (Za ds) []
theorem Qcz(ds:List Bool)(gs:List (List CsA)): Zn ds (gs.flatMap Xe) (Jkj ds gs):=by
 have:=Jzq (ds:=ds) (gs.flatMap Xe) (done:=[]) (l:=[]) ⟨List.Pairwise.nil,λx=>Iff.rfl⟩;rwa [List.nil_append]at this
theorem pick_flat{gs:List (List CsA)}{p:CsA}: p∈(pick gs s).flatten↔∃ i,∃(hi:i<gs.length),s.testBit i=true/\p∈gs[i]:=by
 rw[List.mem_flatten];constructor
 .rintro⟨g,j,hp⟩;obtain⟨i,hi,ht,e⟩:=pick_mem.1 j;grind
 rintro⟨i,hi,ht,hp⟩;exact⟨_,pick_mem.2 ⟨i,hi,ht,List.getElem?_eq_getElem hi⟩,hp⟩
section
variable {gs:List (List CsA)} {f:Nat} {ds:List Bool} (h:CsU gs f ds)
include h
theorem CsU.pne(h1:1<=s)(h2:s<2^gs.length): (pick gs s).flatten≠[]:=by
 obtain⟨g,j⟩:=List.exists_mem_of_ne_nil _ (Qqr h1 h2);obtain⟨i,hi,ht,e⟩:=pick_mem.1 j;obtain⟨p,hp⟩:=List.exists_mem_of_ne_nil _ (h.ne g (List.mem_of_getElem? e));exact List.ne_nil_of_mem (List.mem_flatten.2 ⟨g,j,hp⟩)
theorem CsU.p4: (pick gs s).flatten.length<=4:=nL (flat_len pick_sub) h.c4
theorem CsU.pok: ∀ p∈(pick gs s).flatten,CsM f ds p:=λp hp=>by
 obtain⟨i,hi,_,j⟩:=pick_flat.1 hp;exact h.ok _ (List.getElem_mem hi) p j
theorem CsU.cmn(h1:1<=s)(h2:s<2^gs.length)(y:Row): y∈Xe (pick gs s).flatten↔∀ i (hi:i<gs.length),s.testBit i=true->y∈Xe gs[i]:=by
 rw[Jdm (h.pne h1 h2)];constructor
 .intro o i hi ht;exact(Jdm (h.ne _ (List.getElem_mem hi)) y).2 λq j=>o q (pick_flat.2 ⟨i,hi,ht,j⟩)
 intro o q j;obtain⟨i,hi,ht,u⟩:=pick_flat.1 j;exact(Jdm (h.ne _ (List.getElem_mem hi)) y).1 (o i hi ht) q u
theorem CsU.one(hi:i<gs.length)(y:Row): y∈Xe (pick gs (2^i)).flatten↔y∈Xe gs[i]:=by
 rw[h.cmn Nat.one_le_two_pow (Nat.pow_lt_pow_right om hi)];grind
theorem CsU.unp: UnP gs.length f ds (λs=>Xe (pick gs s).flatten) (Jkj ds gs):=by
 have j:=Qcz ds gs;refine⟨h.c1,h.c3,j.1,λy=>?_,λs J G=>Qyv h.pok,λs J G y=>?_,λy o=>?_⟩
 .rw[j.2 y,List.mem_flatMap];constructor
  .rintro⟨g,C,o⟩;obtain⟨i,hi,rfl⟩:=List.getElem_of_mem C;exact⟨i,hi,(h.one hi y).2 o⟩
  rintro⟨i,hi,o⟩;exact⟨_,List.getElem_mem hi,(h.one hi y).1 o⟩
 .show y∈Xe (pick gs s).flatten↔_;rw[h.cmn J G];exact⟨λD i hi ht=>(h.one hi y).2 (D i hi ht),λD i hi ht=>(h.one hi y).1 (D i hi ht)⟩
 obtain⟨g,C,u⟩:=List.mem_flatMap.1 ((j.2 y).1 o);exact Xvk (h.ok g C) u
end
def Qj(ms:List CsA): List UMem:=ms.map λp=>Xr p.1 p.2
section
variable {ms:List CsA} {f:Nat} {ds:List Bool} (h:∀ p∈ms,CsM f ds p)
include h
theorem Jkr: ∀ M∈Qj ms,UOk f M:=λM i=>by
 obtain⟨p,hp,rfl⟩:=List.mem_map.1 i;obtain⟨o,j,_⟩:=h p hp;rw[<-j];exact o.uok
theorem Xvl(hne:ms≠[])(hn:n=(jAs f 0 (Qj ms)).length): Lt ds (Xe ms)/\(Xe ms).length<=5000/\∀ y,y∈Xe ms↔∃ z,Zt (jN f 0 (Qj ms)) n (vrL (jAs f 0 (Qj ms))) (rwL (jAs f 0 (Qj ms))) z/\z.take f=y:=by
 subst hn;refine⟨Qyv h,Qyw h,λy=>?_⟩
 have G:∀ y:Row,(∀ q∈ms,y∈q.1.ans)↔∀ M∈Qj ms,UAns f M y:=λy=>by
  constructor
  .intro u M J;obtain⟨p,hp,rfl⟩:=List.mem_map.1 J;obtain⟨o,j,_⟩:=h p hp;rw[<-j];exact o.uans.2 (u p hp)
  intro u p hp;obtain⟨o,j,_⟩:=h p hp;have:=u _ (List.mem_map_of_mem hp);rw[<-j]at this;exact o.uans.1 this
 rw[Jdm hne,G];constructor
 .intro u;have D:y.length=f:=by
   obtain⟨p,hp⟩:=List.exists_mem_of_ne_nil _ hne;have:=(G y).2 u p hp;obtain⟨o,j,_⟩:=h p hp;rw[o.arow this,j]
  obtain⟨z,C,e⟩:=(jans (s:=0) (p:=y) (Jkr h) om).2 (by grind);exact⟨z,ansL_iff.2 C,e⟩
 rintro⟨z,C,e⟩;have i:=ansL_iff.1 C;have D:y.length=f:=by rw[<-e,List.length_take,i.1];grind [Gm,Qj]
 have:=(jans (s:=0) (p:=y) (Jkr h) om).1 ⟨z,i,e⟩;grind
end
open Pl Go.Wk
variable {b:Nat->Bool}
def Vj(b:Nat->Bool): Nat->Nat
 | 0=>0
 | i+1=>if b i then Vj b i ||| 2^i else Vj b i
theorem Jwx(b:Nat->Bool): ∀ k j,(Vj b k).testBit j=(decide (j<k) && b j)
 | 0,j=>by simp[Vj]
 | k+1,j=>by
  have ih:=Jwx b k j;grind [Vj]
theorem Xjk(b:Nat->Bool)(k:Nat): Vj b k<2^k:=Nat.lt_pow_two_of_testBit _ λi hi=>by grind [Jwx]
theorem Xjl{k:Nat}: Vj b k=2^k-1↔∀ i,i<k->b i=true:=by
 constructor
 .intro h i hi;have:=Jwx b k i;grind
 intro h;refine Nat.eq_of_testBit_eq λi=>?_;grind [Jwx,Nat.testBit_two_pow_sub_one]
noncomputable def Jzp(gs:List (List CsA))(y:Row)(i:Nat): Bool:=decide (y∈Xe (gs.getD i []))
theorem Xzm{gs:List (List CsA)}{y:Row}(h:∀ i,i<gs.length->b i=Jzp gs y i): Vj b gs.length=Vj (Jzp gs y) gs.length:=by
 refine Nat.eq_of_testBit_eq λi=>?_;grind [Jwx]
section
variable {gs gs':List (List CsA)} {f:Nat} {ds:List Bool}
end
open Go.RowKit Pl Go.Wk
attribute [local irreducible] WC WL QX WD WDB WP WN WG WH WM
variable {ds:List Bool}{f:Nat}
def toAtm(a:PAt): Atm:=⟨nz a.1,a.1.length,a.2⟩
def Vz(f:Nat)(ds:List Bool)(M:UMem): Inp:=⟨M.N,f,ds,nz M.perm,M.ats.map toAtm⟩
theorem Xcm{l:List Nat}(h:Qo l): Jkh (nz l):=λj h0 i=>by
 rw[Qk]at i;rw[Jwn om,Jwn i];have:=List.pairwise_iff_getElem.1 h (j-1) j om i om;grind
theorem Qbd{Ms:List UMem}(h:∀ M∈Ms,UOk f M)(hds:ds.length=f)(hne:Ms≠[])(h4:Ms.length<=4): jN f 0 Ms<=24/\Gk (Vz f ds (Xx f Ms)):=by
 have hp:=Jcp h;have a1:=hp.fn;have hn:jN f 0 Ms<=24:=by
  have h1:=Jlv (s:=0) h;cases Ms with
  | nil=>exact absurd rfl hne
  | cons M Ms=>
   have:=(h M mC).n6;have:=(h M mC).pm.fn;have h4:(M::Ms).length*(6-f)<=4*(6-f):=nO _ h4;omega
 have hm:=Jvf (s:=0) h;have o:∀ {v:Int},v∈nz (jPm f 0 Ms)->∃ u,u∈jPm f 0 Ms/\v=(u:Int):=λi=>by
  obtain⟨u,j,rfl⟩:=List.mem_map.1 i;exact⟨u,j,rfl⟩
 refine⟨hn,?_,?_,?_,?_,?_,?_,λv i=>?_,?_,?_,?_,?_,λa O=>?_,λv i=>?_⟩
 .show(0:Int)<=(jN f 0 Ms:Nat);omega
 .show((jN f 0 Ms:Nat):Int)<=32;omega
 .show(0:Int)<=(f:Int);omega
 .show(f:Int)<=(jN f 0 Ms:Nat);omega
 .show((ds.length:Nat):Int)=f;omega
 .show(((nz (jPm f 0 Ms)).length:Nat):Int)=(jN f 0 Ms:Nat)-(f:Int);rw[Qk,hp.len];omega
 .obtain⟨u,j,rfl⟩:=o i;have:=hp.rng u j;show(f:Int)<=u/\(u:Int)<(jN f 0 Ms:Nat);omega
 .show(nz (jPm f 0 Ms)).Nodup;unfold nz List.Nodup;rw[List.pairwise_map];exact hp.nd.imp λJ e=>J om
 .show(0:Int)<=(jN f 0 Ms:Nat);omega
 .show((jN f 0 Ms:Nat):Int)<=32;omega
 .show((jAs f 0 Ms).map toAtm).length<=32;grind
 .obtain⟨Z,C,rfl⟩:=List.mem_map.1 O;refine⟨Xcm (Jlz h Z C),λv i=>?_,Qk _⟩;obtain⟨u,j,rfl⟩:=List.mem_map.1 i;have:=Jct h Z C u j;show(0:Int)<=u/\(u:Int)<(jN f 0 Ms:Nat);omega
 have G:v<jN f 0 Ms:=by
  have:(v:Int)<(jN f 0 Ms:Nat):=i;omega
 obtain⟨a,O,D⟩:=Qkg h hne G;exact⟨toAtm a,List.mem_map_of_mem O,List.mem_map_of_mem (f:=fun (c:Nat)=>(c:Int)) D⟩
theorem Xxt{w:World}{v:Value}{M:UMem}(h:InV w v (Vz f ds M))(hds:ds.length=f): ∃ ts:List TA,ts.map (·.2)=M.ats.map toAtm/\BldV w v M.N f ds M.perm ts:=by
 obtain⟨_,rfl,O,J,Z,rfl,⟨D,G,rfl,h1,_,C⟩,⟨Q,pc,rfl,h3,_,h4⟩,ts,A,c,u,rfl,o,_,j,i⟩:=h;refine⟨ts,u.symm,D,G,Q,pc,A,c,?_,?_,C,?_,?_,j,o,i⟩;repeat grind [Vz,Qk]
end Go.Proofs.YtgobkbeokaaplaaGreatDoor
namespace Go.Proofs.YtgobkbeokaaplaaGreatDoor
open Pl Go.Wk
variable {f v:Nat}
section
variable {n f m:Nat} {es perm:List Nat} {vars:Nat->List Nat} {rs:Nat->List Row} {kf kf':Nat->Nat} {pf pf':Nat->Int} {R R':Nat->List Row} {ds:List Bool}
end
def BBp(f:Nat)(ds:List Bool)(ms:List CsA)(BB:Nat->List BkT): Prop:=∃(kf:Nat->Nat) (pf:Nat->Int) (R:Nat->List Row),
 ElR (jN f 0 (Qj ms)) f (jAs f 0 (Qj ms)).length (Zl (jAs f 0 (Qj ms)).length (vrL (jAs f 0 (Qj ms)))) (jPm f 0 (Qj ms)) (vrL (jAs f 0 (Qj ms))) (rwL (jAs f 0 (Qj ms))) kf pf R /\
 BB=BBx (Vo (jN f 0 (Qj ms)) pf (TV (jN f 0 (Qj ms)) f kf pf R ds (plO (jPm f 0 (Qj ms)) f)) ((jAs f 0 (Qj ms)).map toAtm)) (jN f 0 (Qj ms)) f kf pf R ds (plO (jPm f 0 (Qj ms)) f)
theorem BBp.sz{ds:List Bool}{ms:List CsA}{BB:Nat->List BkT}(h:BBp f ds ms BB){b:BkT}(hb:b∈BB v): b.2.sz<=65536:=by
 obtain⟨kf,pf,R,i,rfl⟩:=h;unfold BBx at hb;by_cases hv:v<f
 .rw[if_pos hv]at hb;split at hb
  .cases hb
  have e:=((Jym (ds:=ds) i hv).con b hb).1;have u:b.2.toL.length<=(R v).length:=by
   rw[e];have:∀ j m,(Xy j m (R v) b.1).length<=(R v).length:=λj m=>by grind [Xy,List.length_map,List.length_filter_le]
   unfold Yv;split<;>simpa using this _ _
  rw[Tr.sz_eq];have o:=(i.rows v (nM hv i.pm.fn)).2.2;omega
 rw[if_neg hv]at hb;cases hb
end Go.Proofs.YtgobkbeokaaplaaGreatDoor
namespace Go.Wk
theorem dneb{P:Program}{n d ty:Nat}{al:AL}{w:World}{ops:Array Oper}{Q:Exit->Act->World->Prop}{drest:List (Nat×Oper)}{pos:String}{aft:Array Edge}{tt:TT}[h:Tab P tt]{t t2:TypeId}{k:TK}{x y:Operand}{p q:Bool}(kk:WD P n ops Q drest ((d,.bool (!(p == q)))::al) w)(ht:tk tt t=some k:=by rfl)(hk:k.desc=.bool:=by rfl)(hx:ev al x=some (.bool p):=by rfl)(hy:ev al y=some (.bool q):=by rfl)(hd:Nat.blt d n=true:=by rfl):
  WD P n ops Q ((0,⟨some d,.binOp .neq t x y t2,ty,pos,aft,none⟩)::drest) al w:=dy (λw' _ a i=>Qnc h.ok ht hk i hx hy (some d) w') hd kk
end Go.Wk
namespace Go.Proofs.YtgobkbeokaaplaaGreatDoor
open Go.RowKit Pl Go.Wk _root_.Go.Proofs.Tryz
attribute [local irreducible] WC WL QX WD WDB WP
variable {w:World}
theorem Qtc(s:Nat)(h:s<8): Ret prog 164 [.int .u64 (s:Int)] w λu w'=>w'=w/\u=.int .i64 (([0,1,1,2,1,2,2,3].getD s 0:Nat):Int):=by
 obtain rfl|rfl|rfl|rfl|rfl|rfl|rfl|rfl:s=0∨s=1∨s=2∨s=3∨s=4∨s=5∨s=6∨s=7:=om
 all_goals
  refine enE func164 ntmps164 ?_;iterate 6
   refine ρ ?_;refine Uf rfl rfl (by decide) rfl ?_
  refine ρ ?_;refine Jj ⟨rfl,?_⟩;kernel_rfl
theorem Qtb(s:Nat)(h:s<8): Ret prog 114 [.int .u64 (s:Int)] w λu w'=>w'=w/\u=.int .i64 (([0,1,1,2,1,2,2,3].getD s 0:Nat):Int):=by
 refine enE func114 ntmps114 ?_;refine clR (Qtc s h) ?_;rintro u w' ⟨rfl,rfl⟩;refine ρ ?_;exact Jj ⟨rfl,rfl⟩
theorem Jdk{A B:Option Addr}{c d:Nat}{us vs:List Bool}(hA:RdB w A us)(hB:RdB w B vs)(hm:us.length<=1100000):
  Ret prog 13 [.slice A us.length c,.slice B vs.length d] w λu w'=>u=.bool (decide (us=vs))/\Ext w w':=by
 refine enE func13 ntmps13 ?_;refine ciR (λh=>?_) (λh=>?_)
 .have C:us.length≠vs.length:=by have:=Yh h;omega
  refine ρ ?_;exact Jj ⟨by rw[decide_eq_false λe=>C (by rw[e])],Ext.refl _⟩
 have hl:us.length=vs.length:=by have:=Uv h;omega
 clear h;refine ρ ?_;refine Qs (fun (k:Nat)=>[(0,.slice A us.length c),(1,.slice B vs.length d),(12,.int .i64 (us.length:Int)),(13,.int .i64 (k:Int))])
  (λk w'=>k<=us.length/\Ext w w'/\∀ j,j<k->us.getD j false=vs.getD j false) (λk=>us.length-k) 0 sB
  ⟨Nat.zero_le _,Ext.refl _,λj Z=>absurd Z (Nat.not_lt_zero j)⟩ ?_
 rintro k D ⟨hk,i,Z⟩;refine ciR (λh=>?_) (λh=>?_)
 .have lk:k<us.length:=by have:=oT h;omega
  clear h;refine drR (scq 9 []) ?_;have o:Ext D D.drew:=(Ext.refl D).drew;have O:RdB D.drew A us:=Rd.ext hA (i.trans o);have J:RdB D.drew B vs:=Rd.ext hB (i.trans o);refine Jd k O lk ?_;refine Jz (RdB.cell O lk) ?_;refine ρd ?_;have G:k<vs.length:=om
  refine dix k J G ?_;refine Jz (RdB.cell J G) ?_;refine ρd ?_;refine dneb ?_;refine ρd ?_;refine ciR (λh=>?_) (λh=>?_)
  .have C:us.getD k false≠vs.getD k false:=λe=>by rw[e]at h;simp at h
   refine ρ ?_;refine Jj ⟨?_,i.trans o⟩;rw[decide_eq_false λe=>C (by rw[e])]
  have he:us.getD k false=vs.getD k false:=by simpa using h
  clear h;refine ρ ?_;refine Qm (k+1) sO ⟨lk,i.trans o,λj a2=>?_⟩ om;grind
 have a1:k=us.length:=by grind
 refine ρ ?_;refine Jj ⟨?_,i⟩;grind [List.ext_getElem,Qd]
open Go.RowKit Pl Go.Wk
def tt4: TT:=(43,{ desc:=.slice 55,esz:=5 })::(24,{ desc:=.slice 33,esz:=5 })::(47,{ desc:=.invalid,size:=5,offs:=[0,1,2,3,4] })::tt
theorem Jsf: TOk Tryz.prog tt4:=⟨⟨kr,kr,kr⟩,⟨kr,kr,kr⟩,⟨_,Tryz.underlying47,kr,kr⟩,Il⟩
instance (priority:=5000):Tab Tryz.prog tt4:=⟨Jsf,mixed⟩
theorem Qjp{w:World}{A:Option Addr}{c f s:Nat}{vs:List Nat}(hV:Rd w 1 A vs.length (Jt (nz vs)))(hl:vs.length<=1000)(hb:∀ v∈vs,v<=1000)(hf:f<=1000)(hs:s<=1000):
  Ret Tryz.prog 63 [.slice A vs.length c,.int .i64 (f:Int),.int .i64 (s:Int)] w λu w'=>∃ B,u=.slice B vs.length vs.length/\w'.ownsRow w.heap.size 3 1 u vs.length (Jt (nz (vs.map (ren f s))))/\Ext w w':=by
 refine enE Tryz.func63 Tryz.ntmps63 ?_;refine ρ ?_;refine mkn EI vs.length om (by unfold maxLen;omega) ?_;intro w1 B J D a5;have e0:(madeCells (Value.int .i64 0).cells (vs.length*1)).toList=List.replicate vs.length (.int .i64 0):=by rw[Nat.mul_one];exact Gq _ _
 rw[e0]at D;refine ρ ?_;refine Jo (fun (k:Nat) (_:List Value)=>[(0,.slice A vs.length c),(1,.int .i64 (f:Int)),(2,.int .i64 (s:Int)),(7,.slice B vs.length vs.length),(13,.slice A vs.length c),(14,.int .i64 (vs.length:Int)),(15,.int .i64 (k:Int))])
  (λk C w'=>k<=vs.length/\C.length=vs.length/\(∀ j,j<k->C[j]?=some (.int .i64 ((ren f s (vs.getD j 0):Nat):Int)))/\w'.ownsRow w.heap.size 3 1 (.slice B vs.length vs.length) vs.length C/\Ext w w') (λk _=>vs.length-k) 0 (List.replicate vs.length (.int .i64 0)) sB
  ⟨Nat.zero_le _,by simp,λj Z=>absurd Z (Nat.not_lt_zero j),D,J⟩ ?_
 rintro k C w2 ⟨hk,G,a1,o,i⟩;refine ciR (λh=>?_) (λh=>?_)
 .have lk:k<vs.length:=by have:=oT h;omega
  clear h;have a2:=hb _ (getD_mem' 0 vs lk);refine ixR k (hV.ext i) lk ?_;refine ldR ((hV.ext i).cell (Zb lk)) ?_;refine ρ ?_;refine Zc (fun (z:Nat)=>[(0,.slice A vs.length c),(1,.int .i64 (f:Int)),(2,.int .i64 (s:Int)),(7,.slice B vs.length vs.length),(8,.int .i64 (k:Int)),(9,.int .i64 (z:Int)),(13,.slice A vs.length c),(14,.int .i64 (vs.length:Int)),(15,.int .i64 (k:Int))])
   (λz w'=>w'=w2/\z=ren f s (vs.getD k 0)) ?_ ?_
  .refine ci (λh=>?_) (λh=>?_)
   .have a4:f<=vs.getD k 0:=by have:=oT h;omega
    refine ρ ?_;exact Jc (vs.getD k 0+s) sO ⟨rfl,by rw[ren,if_neg om]⟩
   have O:vs.getD k 0<f:=by have:=oF h;omega
   refine ρ ?_;exact Jc (vs.getD k 0) sB ⟨rfl,by rw[ren,if_pos O]⟩
  rintro z w3 ⟨rfl,rfl⟩;obtain⟨s1,s2,s3,s4,s5⟩:=Vc o (q:=k) om (.int .i64 ((ren f s (vs.getD k 0):Nat):Int));have hv:C[k]?=some (C.getD k (.int .i64 0)):=by grind
  refine ixR k (Rd.own o) lk ?_;refine Xo (s1.trans hv) s2 ?_;refine ρ ?_;refine Jf (k+1) (C.set k (.int .i64 ((ren f s (vs.getD k 0):Nat):Int))) sO ⟨lk,by simp[G],λj Z=>?_,s3,Qa i s5 λg hg=>?_⟩ om;repeat grind [List.getElem?_set_self,List.getElem?_set_ne,Jb]
 have a3:k=vs.length:=by grind
 have e:C=Jt (nz (vs.map (ren f s))):=by
  refine List.ext_getElem? λj=>?_;grind [Nat.lt_or_ge,Jt,nz,List.getD,List.getElem?_eq_none]
 rw[e]at o;refine ρ ?_;exact Jj ⟨B,rfl,o,i⟩
open Go.RowKit Pl Go.Wk
variable {mc n:Nat}
theorem Qxg: ∀ s,s<8->((([0,1,1,2,1,2,2,3].getD s 0:Nat):Int).tmod 2 == 1)=Jwm s:=by decide
theorem Jbn{c:Nat->Nat}{B:Nat}(h:∀ i,c i<=B): ∀ n,sgP c n+sgM c n<=n*B
 | 0=>by simp[sgP,sgM]
 | n+1=>by
  have ih:=Jbn h n;have:=h (n+1);rw[sgP,sgM,Nat.succ_mul];split<;>omega
theorem Jzl(h:n<4294967296): (Jq n).length<=1000:=by
 rcases Nat.eq_zero_or_pos n with rfl|h0
 .rw[limbs_0];exact Nat.zero_le _
 repeat grind [Xqd,Nat.le_of_ble_eq_true]
theorem Jbk{w:World}{fid:FuncId}{cap:List Value}{MA:Option Addr}{xc:Nat->List Value}{c:Nat->Nat}{S:Nat->Prop}{I:Nat->World->Prop}(hx5:∀ i,i<n->∃ A B C D E a b c' d e a' b' c2 d' e',xc i=[.slice A a a',.slice B b b',.slice C c' c2,.slice D d d',.slice E e e'])(hn:n<=7)(hS:∀ k,S k->k<w.heap.size)(hR:Off S w λW=>Rd W 5 MA n (Qy n xc))(hcb:∀ i,c i<=1000000)(hI0:I 0 w)(hIx:∀ i W W',I i W->Ext W W'->I i W')(hc:∀ i,i<n->∀ W,GrN S w W->I i W->Ret Tryz.prog fid (.agg (xc i).toArray::cap) W λu W'=>NatX S W' u (c (i+1))/\GrN S W W'/\I (i+1) W'):
  Ret Tryz.prog 67 [.func (.func fid) #[] cap.toArray,.slice MA n mc] w λu w'=>NatV w' u (sgP c n-sgM c n)/\Fresh w u/\GrN S w w'/\I n w':=by
 have a2:∀ i,i<n->(xc i).length=5:=λi hi=>by obtain⟨A,B,C,D,E,a,b,c',d,e,a',b',c2,d',e',h⟩:=hx5 i hi;rw[h];rfl
 refine enE Tryz.func67 Tryz.ntmps67 ?_;refine ρ ?_;refine Zj (fun (i:Nat) (p m:Value)=>[(0,.func (.func fid) #[] cap.toArray),(5,p),(6,m),(11,.slice MA n mc),(12,.int .i64 (n:Int)),(13,.int .i64 (i:Int))])
  (λi p m w'=>i<=n/\GrN S w w'/\NatX S w' p (sgP c i)/\NatX S w' m (sgM c i)/\I i w') (λi _ _=>n-i) 0 (.slice none 0 0) (.slice none 0 0) sB
  ⟨Nat.zero_le _,GrN.refl _ _,NatX.nil w,NatX.nil w,hI0⟩ ?_
 rintro i p m w1 ⟨hi,a1,hp,hm,hI⟩;refine ciR (λh=>?_) (λh=>?_)
 .have li:i<n:=by have:=oT h;omega
  clear h;have a9:=hR w1 a1;obtain⟨A,B,C,D,E,a,b,c',d,e,a',b',c2,d',e',a6⟩:=hx5 i li;have ab:=Jbn hcb i;have a7:i*1000000<=7000000:=om
  refine Qp 5 i a9 li ?_;refine Jh (cs:=[.slice A a a',.slice B b b',.slice C c' c2,.slice D d d',.slice E e e']) (λj u hu=>?_) ?_
  .rw[<-a6]at hu;have hj:j<5:=by
    rcases Nat.lt_or_ge j 5 with h'|h'
    .exact h'
    rw[List.getElem?_eq_none (by rw[a2 i li];omega)]at hu;cases hu
   rw[Xv];exact Rd.cell a9 (by rw[Yk a2 li hj];exact hu)
  refine Jw Jjq ?_;intro w2 bb O ah aj;refine Qh (cs':=[.slice A a a',.slice B b b',.slice C c' c2,.slice D d d',.slice E e e']) aj ?_ Qxf;intro w3 a3 Z aa;have o:Ext w1 w3:=aa w1 O ah;have a4:i+1<8:=om
  refine ρ ?_;refine Go.Wk.kv 20 (show Value.int .u64 (IntKind.u64.wrap ((i:Int)+1))=.int .u64 ((i+1:Nat):Int) by rw[Kh om];congr 1) ?_;refine cl (Qtb (i+1) a4) ?_;rintro u w4 ⟨ew,rfl⟩;obtain rfl:=ew.symm;refine ρ ?_;refine wrem rfl rfl (by decide) rfl ?_;refine ρ ?_;have Z:GrN S w w3:=a1.trans (GrN.ext o);have ai:=hIx i _ _ hI o;have J:=hc i li w3 Z ai;rw[a6]at J;have a8:∀ {W:World},GrN S w W->∀ k,S k->k<W.heap.size:=λhg k hk=>nM (hS k hk) hg.size;have am:=hcb (i+1);refine ci (λh=>?_) (λh=>?_)
  .have ho:Jwm (i+1)=true:=(Qxg (i+1) a4).symm.trans h;refine Ja a3 ?_;refine ρ ?_;refine clv J ?_;rintro u w4 ⟨hu,G,a5⟩;have ac:=(hp.ext o).gr G;refine clR (Jqk ac.1 hu.1 (Jzl om) (Jzl om)) ?_;rintro v w5 ⟨hv,hf,hx5⟩;refine ρ ?_;refine Qe (i+1) v m sO ⟨li,(Z.trans G).trans (GrN.ext hx5),?_,?_,hIx _ _ _ a5 hx5⟩ om
   .rw[sgP,if_pos ho];exact hf.x hv (a8 (Z.trans G))
   rw[sgM,if_pos ho];exact((hm.ext o).gr G).ext hx5
  have ho:Jwm (i+1)=false:=(Qxg (i+1) a4).symm.trans h;refine Ja a3 ?_;refine ρ ?_;refine clv J ?_;rintro u w4 ⟨hu,G,a5⟩;have ae:=(hm.ext o).gr G;refine clR (Jqk ae.1 hu.1 (Jzl om) (Jzl om)) ?_;rintro v w5 ⟨hv,hf,hx5⟩;refine ρ ?_;refine Qe (i+1) p v sO ⟨li,(Z.trans G).trans (GrN.ext hx5),?_,?_,hIx _ _ _ a5 hx5⟩ om
  .rw[sgP,ho];exact((hp.ext o).gr G).ext hx5
  rw[sgM,ho];exact hf.x hv (a8 (Z.trans G))
 have af:i=n:=by have:=oF h;omega
 subst af;have ab:=Jbn hcb i;have a7:i*1000000<=7000000:=om
 refine clR (Qtz hp.1 hm.1 (Jzl om)) ?_;rintro u w2 ⟨⟨v,rfl,hv,hf⟩,O⟩;have ag:Fresh w v:=λad n c e=>nL a1.size (hf ad n c e);refine ciR (λh=>?_) (λh=>?_)
 .have ak:sgP c i<sgM c i:=by
   rcases Nat.lt_or_ge (sgP c i) (sgM c i) with h1|h1
   .exact h1
   rw[if_neg om]at h;exact absurd h (by decide)
  refine ρ ?_;refine Jj ⟨?_,?_,a1.trans (GrN.ext O),hIx _ _ _ hI O⟩;rotate_left
  .intro ad n c e;cases e
  rw[show sgP c i-sgM c i=0 by omega];exact NatV.nil _
 refine ρ ?_;exact Jj ⟨hv,ag,a1.trans (GrN.ext O),hIx _ _ _ hI O⟩
open Go.RowKit Pl Go.Wk _root_.Go.Proofs.Tryz
variable {cs:List Value}{b b3 b6 f n qc t:Nat}{QA:Option Addr}{q:Row}{c u v x:Value}{w:World}
theorem Xvt(hc:∀ x,c≠.int .u32 x)(hb:Blk w b t [c]){ad:Addr}(he:ad.block=b)(hu:w.cell? ad=some u): ∀ x,u≠.int .u32 x:=by
 intro x e;subst e;obtain⟨j,off,i⟩:=ad;simp only at he;subst he;unfold Blk at hb;simp[World.cell?,hb]at hu;grind
theorem NatV.off(h:NatV w v n)(hc:∀ x,c≠.int .u32 x)(hb:Blk w b t [c]): NatX (λk=>k=b) w v n:=⟨h,λh0 G m k e C=>by
 obtain⟨A,D,i,_,_,j⟩:=h;rw[e]at i;injection i with e3 e4 e5
 subst e3;have hp:=limbs_pos' h0;have o:=j.cell (k:=0) (u:=.int .u32 ((Jq n).getD 0 0).toNat) (by grind [Jq,Nc]);grind [Xvt,adr,Ud]⟩
theorem Xbv{ds:List Bool}{kf:Nat->Nat}{pf:Nat->Int}{BB:Nat->List BkT}{tot:Nat}{L:List Row}(h:IxA w x f ds kf pf BB tot L)(hB3:Blk w b3 59 [.slice QA q.length qc])(hB6:Blk w b6 3 [.int .i64 (t:Int)])(hne:b3≠b6)(hq:RdR w QA q)(hqc:q.length<=qc)(hqf:q.length<=f)(ht:t+Ql f (λv=>hmB (BB v))<=1000000000):
  Ret prog 191 [x,.pointer (some ⟨b3,0,none⟩),.pointer (some ⟨b6,0,none⟩)] w λu w'=>NatX (λk=>k=b6) w' u (Qc ds L q)/\GrN (λk=>k=b6) w w'/\∃ st:Nat,st<=Ql f (λv=>hmB (BB v))/\Blk w' b6 3 [.int .i64 ((t+st:Nat):Int)]:=by
 obtain⟨B0,tb⟩:=h.tb;have ix:=h.ix;obtain⟨DA,dc,BA,cb,KA,ck,a6,cp,tv,a4,a3,rfl,_⟩:=id ix.ex;refine enE func191 ntmps191 ?_;refine bxR ?_;intro w1 b o hb a2;refine Ja a2 ?_;refine ldR ((hB3.ext o).at (i:=0) rfl) ?_;refine clR (Qnw (tb.ext o) (h.ext o) (Rd.ext hq o) hqc) ?_;rintro u w2 ⟨D,_,O⟩;obtain⟨lv,hv,st,rfl,Z,_,J⟩:=O hqf;have C:=(hB6.ext o).ext D;refine ldR (C.at (i:=0) rfl) ?_;refine ρ ?_;refine Vb C ?_ rfl;intro w3 G a1 a5;refine ρ ?_;have hg:GrN (λk=>k=b6) w2 w3:=GrN.by a1 λj hj=>by injection hj with hj;exact hj.symm
 refine Jj ⟨(Z.off (λx e=>by cases e) C).gr hg,(GrN.ext (o.trans D)).trans hg,st,J,?_⟩;rw[show((t+st:Nat):Int)=(t:Int)+(st:Int) by omega];exact G
structure UD where
 k: Nat
 f:Nat
 ds:List Bool
 M:Nat->List Row
 U:List Row
 xc:Nat->List Value
 kf:Nat->Nat->Nat
 pf:Nat->Nat->Int
 BB:Nat->Nat->List BkT
 tot:Nat->Nat
 Hm:Nat
protected def UD.n (D:UD):Nat:=2^D.k-1
structure UnV(w:World)(D:UD)(cs:List Value): Prop where
 ex:∃ DA dc MA mc SA sl sc,cs=[.int .i64 (D.k:Int),.int .i64 (D.f:Int),.slice DA D.f dc,.slice MA D.n mc,.slice SA sl sc]/\D.f<=dc/\D.ds.length=D.f/\RdB w DA D.ds/\Rd w 5 MA D.n (Qy D.n D.xc)/\NatV w (.slice SA sl sc) D.U.length
 ix:∀ i,i<D.n->IxA w (.agg (D.xc i).toArray) D.f D.ds (D.kf i) (D.pf i) (D.BB i) (D.tot i) (D.M (i+1))
 up:UnP D.k D.f D.ds D.M D.U
 hm:∀ i,i<D.n->Ql D.f (λv=>hmB (D.BB i v))<=D.Hm
 hl:D.Hm<=10000000
 ml:∀ s,(D.M s).length<=5000
theorem UnV.ext{w w':World}{D:UD}{cs:List Value}(h:UnV w D cs)(hx:Ext w w'): UnV w' D cs:=by
 obtain⟨DA,dc,MA,u,SA,j,o,h1,Z,O,J,G,C⟩:=h.ex;exact⟨⟨DA,dc,MA,u,SA,j,o,h1,Z,O,Rd.ext J hx,G.ext hx,C.ext hx⟩,λi hi=>(h.ix i hi).ext hx,h.up,h.hm,h.hl,h.ml⟩
theorem UnV.n7{D:UD}(h:UnV w D cs): D.n<=7:=by
 have i:=h.up.k3;have:2^D.k<=2^3:=Nat.pow_le_pow_right om i;unfold UD.n;omega
theorem UnV.x5{D:UD}(h:UnV w D cs): ∀ i,i<D.n->∃ A B C D' E a b c' d e a' b' c2 d' e',D.xc i=[.slice A a a',.slice B b b',.slice C c' c2,.slice D' d d',.slice E e e']:=λi hi=>by
 obtain⟨DA,Z,BA,cb,KA,ck,G,cp,J,u,o,e,_,_,_,_,_,_,j,_⟩:=(h.ix i hi).ix.ex;obtain⟨TA,O,rfl,_⟩:=j;grind
theorem Jfk: Qu prog 3=some (.int .i64 0):=kr
theorem Qhn{D:UD}(hV:UnV w D cs)(hq:RdR w QA q)(hqc:q.length<=qc)(hqf:q.length<=D.f):
  Ret prog 166 [.agg cs.toArray,.slice QA q.length qc] w λu w'=>∃(nv:Value) (st:Nat),u=.tuple #[nv,.int .i64 (st:Int)]/\NatV w' nv (Qc D.ds D.U q)/\st<=D.n*D.Hm/\Ext w w':=by
 have n7:=hV.n7;obtain⟨DA,dc,MA,mc,SA,sl,sc,rfl,h2,h3,h4,h5,h6⟩:=id hV.ex;refine enE func166 ntmps166 ?_;refine bxR ?_;intro w1 b2 a1 an ae;refine bxR ?_;intro w2 b3 J am a5;refine Jw Jfk ?_;intro w3 b6 a7 ab ac;refine ρ ?_;refine Vb ac ?_ rfl;intro w4 C aj a6;refine ρ ?_;have j:Ext w2 w4:=a6 w2 a7 ab;have o:=(a1.trans J).trans j;have l6:=C.lt;have l3:=a5.lt;have ah:=a1.size;have ag:=J.size;have af:=j.size;refine ld (((ae.ext J).ext j).at (i:=3) rfl) ?_;refine ρ ?_;have a4:=a5.ext j;have O:b3≠b6:=om
 have ao:D.n*D.Hm<=7*10000000:=Nat.mul_le_mul n7 hV.hl;refine cl (Jbk (S:=λk=>k=b6) (I:=λi W=>∃ t:Nat,t<=i*D.Hm/\Blk W b6 3 [.int .i64 (t:Int)]) (c:=λs=>Qc D.ds (D.M s) q) (cap:=[.pointer (some ⟨b3,0,none⟩),.pointer (some ⟨b6,0,none⟩)]) hV.x5 n7 (λk hk=>by rw[hk];exact l6)
  (Iu (h5.ext o) λh0 ad e he=>?_) (λi=>?_) ⟨0,Nat.zero_le _,C⟩ (λi W W' ⟨t,h1,h2⟩ hx=>⟨t,h1,h2.ext hx⟩) (λi hi W hg ⟨t,h1,h2⟩=>?_)) ?_
 .obtain⟨ap,e',ai⟩:=h5.2 h0;grind
 .have:=Jyb D.ds (D.M i) q;have:=hV.ml i;omega
 .have Z:Ext w W:=hg.old o λk hk=>by omega
  have hh:=hV.hm i hi;have a8:(i+1)*D.Hm<=D.n*D.Hm:=nO _ om;rw[Nat.succ_mul]at a8;refine(Xbv ((hV.ix i hi).ext Z) (Jy a4 hg O) h2 O (Rd.ext hq Z) hqc hqf om).mono ?_;rintro u W' ⟨g1,g2,st,g3,g4⟩;exact⟨g1,g2,t+st,by rw[Nat.succ_mul];omega,g4⟩
 rintro u w5 ⟨hu,ak,a9,t,ht,a3⟩;have a2:Ext w w5:=a9.old o λk hk=>by omega
 have G:Ext w5 w5.drew:=(Ext.refl w5).drew;refine drR (scq 4 []) ?_;refine Jz ((a3.ext G).at (i:=0) rfl) ?_;refine ρd ?_;refine ρ ?_;refine Yt ⟨u,t,rfl,?_,ht,a2.trans G⟩;have aa:=hV.up.before q;have:sgP (λs=>Qc D.ds (D.M s) q) D.n-sgM (λs=>Qc D.ds (D.M s) q) D.n=Qc D.ds D.U q:=by
  rw[show D.n=2^D.k-1 from rfl,aa];omega
 rw[this]at hu;exact hu.ext G
open Go.RowKit Pl Go.Wk _root_.Go.Proofs.Tryz
attribute [local irreducible] WN WG
variable {d:Bool}{N:Nat->Prop}{t:Tr}{p:Value}{w:World}
structure AtB(w:World)(bS bK bV bR:Nat)(sv kc:Value)(v:V): Prop where
 sb:Blk w bS 45 [sv]
 kb:Blk w bK 3 [kc]
 vb:Blk w bV 147 v.cells
 rb:Blk w bR 147 V0.cells
theorem AtB.ext{w w':World}{bS bK bV bR:Nat}{sv kc:Value}{v:V}(h:AtB w bS bK bV bR sv kc v)(hx:Ext w w'): AtB w' bS bK bV bR sv kc v:=⟨h.sb.ext hx,h.kb.ext hx,h.vb.ext hx,h.rb.ext hx⟩
def eAt(t:Tr)(k:Nat): V:=(t.toL.getD k (V0,0)).1
def AtJ(bS bK bV bR k:Nat)(t s:Tr)(w:World): Prop:=∃(sv:Value) (j:Nat) (v:V),AtB w bS bK bV bR sv (.int .i64 (j:Int)) v/\(∃ A n c,sv=.slice A n c)/\j<s.sz/\s.sz<=1000000/\eAt s j=eAt t k/\Nb s.sum
def AtD(bS bK bV bR k:Nat)(t:Tr)(w:World): Prop:=∃(sv kc:Value),AtB w bS bK bV bR sv kc (eAt t k)/\∃ A n c,sv=.slice A n c
theorem Jsm(h:TrV N w t p): Ret prog 25 [.agg #[.bool d,p]] w λu w'=>u=.int .i64 (t.sz:Int)/\Ext w w':=by
 obtain⟨q,rfl⟩:=h.ptr;refine enE func25 ntmps25 ?_;refine bxR ?_;intro G J j o C;refine ldR (C.at (i:=1) rfl) ?_;refine clR (Jbj (h.ext j)) ?_;rintro u D ⟨rfl,rfl⟩;refine ρ ?_;exact Jj ⟨rfl,j⟩
theorem Xcj{bS bK bV bR k:Nat}(hne:bS≠bK/\bS≠bV/\bK≠bV/\bS≠bR/\bV≠bR/\bK≠bR):
  ∀ l a x r u w,TrV (λj=>j=bS∨j=bV∨j=bK) w (.node l a x r) u->AtJ bS bK bV bR k t (.node l a x r) w ->
  Ret prog 190 ((#[]:Array Value).toList++[u]++(#[.pointer (some ⟨bK,0,none⟩),.pointer (some ⟨bV,0,none⟩),.pointer (some ⟨bS,0,none⟩)]:Array Value).toList) w λz w'=>∃ c,z=.int .i64 c/\GrN (λj=>j=bS∨j=bV∨j=bK) w w'/\(c<0->AtJ bS bK bV bR k t l w')/\(0<c->AtJ bS bK bV bR k t r w')/\(c=0->AtD bS bK bV bR k t w'):=by
 obtain⟨n1,n2,n3,n4,n5,n6⟩:=hne;rintro l a x r u w hs ⟨sv,j,v,hB,⟨SA,ag,sc,rfl⟩,e1,e2,e3,C⟩;obtain⟨bn,wn,pl,pr,sn,rfl,⟨a9,a4⟩,aa,ak,hl,hr⟩:=id hs;obtain⟨ql,rfl⟩:=hl.ptr;obtain⟨qr,rfl⟩:=hr.ptr;simp only[Tr.sz]at e1 e2;simp only[Tr.sum]at C;refine enE func190 ntmps190 ?_;refine ldR (a9.at (i:=4) rfl) ?_;refine clR (Jbj hl) ?_;rintro u w' ⟨rfl,rfl⟩;refine ldR (hB.kb.at (i:=0) rfl) ?_;refine ciR (λhc=>?_) (λhc=>?_)
 .have hc:j<l.sz:=by have:=oT hc;omega
  refine ρ ?_;refine Jj ⟨-1,rfl,GrN.refl _ _,λ_=>⟨_,j,v,hB,⟨_,_,_,rfl⟩,hc,om,?_,C.le om⟩,λh=>om,λh=>om⟩;rw[<-e3];unfold eAt;rw[Tr.toL];rw[Tr.sz_eq]at hc;simp[List.getD,List.getElem?_append_left hc]
 have hc:¬ j<l.sz:=λh=>oF hc om;refine ldR (hB.kb.at (i:=0) rfl) ?_;refine ciR (λa1=>?_) (λa1=>?_)
 .have a1:l.sz<j:=by have:=oT a1;omega
  refine ldR (hB.kb.at (i:=0) rfl) ?_;refine ρ ?_;refine Vb hB.kb ?_ rfl;intro w6 af Z ah;refine ρ ?_;have a6:GrN (λj=>j=bS∨j=bV∨j=bK) w' w6:=GrN.by Z λj o=>.inr (.inr (by injection o with o;exact o.symm))
  refine Jj ⟨1,rfl,a6,λh=>om,λ_=>⟨_,j-(l.sz+1),v,⟨hB.sb.grown Z (by simpa using n1),?_,hB.vb.grown Z (by simpa using n3.symm),hB.rb.grown Z (by simpa using n6.symm)⟩,⟨_,_,_,rfl⟩,om,om,?_,C.le om⟩,λh=>om⟩
  .rw[show((j-(l.sz+1):Nat):Int)=(j:Int)-((l.sz:Int)+1) by omega];exact af
  rw[<-e3];unfold eAt;rw[Tr.toL];have ac:=Tr.sz_eq l;rw[List.getD,List.getD,List.getElem?_append_right om,show j-l.toL.length=(j-(l.sz+1))+1 by omega,List.getElem?_cons_succ]
 have o:j=l.sz:=by have:=oF a1;omega
 have e5:eAt t k=a:=by
  rw[<-e3];unfold eAt;rw[Tr.toL];have ac:=Tr.sz_eq l;rw[List.getD,List.getElem?_append_right om,show j-l.toL.length=0 by omega];rfl
 refine ρ ?_;refine drN (λj=>j=bS∨j=bV) 13 (scq 13 [10,11,12]) kr ?_;have O:Ext w' w'.drew:=(Ext.refl w').drew;have a2:=hB.ext O;have a3:=a9.ext O;have a5:¬ (bn=bS∨bn=bV):=λh=>a4 (h.elim .inl λh=>.inr (.inl h));refine ρn ?_;refine Zh (cs:=a.cells) (λW hg=>Blk.pre (cs:=a.cells) (Jy a3 hg a5)) ?_;refine ρn ?_;refine nld (λW hg=>(Jy a3 hg a5).at (i:=3) rfl) ?_;refine ρn ?_;refine nop ?_;refine cl (Jws ((aa.ext O).1) (C.le om).len) ?_;rintro us w2 ⟨ab,am,D⟩;obtain⟨UA,uc,rfl,_⟩:=id ab;refine ρ ?_;refine Ju (GrN.ext D) ?_;refine ρn ?_;refine nop ?_;refine stb (cs':=a.cells) ((a2.vb).ext D) ?_ (V.one a);intro w3 ad J aj;refine ρ ?_;refine Ju (GrN.by J λj o=>.inr (by injection o with o;exact o.symm)) ?_;refine ρn ?_;refine nop ?_;refine Vb ((a2.sb.ext D).grown J (by simpa using n2)) ?_ rfl;intro w4 ae G ai;refine ρ ?_;refine Ju (GrN.by G λj o=>.inl (by injection o with o;exact o.symm)) ?_
 refine ρn ?_;refine ρ ?_;have a8:GrN (λj=>j=bS∨j=bV∨j=bK) w2 w3:=GrN.by J λj o=>.inr (.inl (by injection o with o;exact o.symm))
 have a7:GrN (λj=>j=bS∨j=bV∨j=bK) w3 w4:=GrN.by G λj o=>.inl (by injection o with o;exact o.symm)
 refine Jj ⟨0,rfl,(GrN.ext (O.trans D)).trans (a8.trans a7),λh=>om,λh=>om,λ_=>⟨_,_,⟨ae,((a2.kb.ext D).grown J (by simpa using n3)).grown G (by simpa using n1.symm),?_,((a2.rb.ext D).grown J (by simpa using n5.symm)).grown G (by simpa using n4.symm)⟩,_,_,_,rfl⟩⟩;rw[e5];exact ad.grown G (by simpa using n2.symm)
theorem Qld{k:Nat}(h:TrV N w t p)(hk:k<t.sz)(hb:Nb t.sum)(hs:t.sz<=1000000):
  Ret prog 165 [.agg #[.bool d,p],.int .i64 (k:Int)] w λu w'=>∃ A n c,u=.tuple #[(eAt t k).val,.slice A n c,.bool true]/\Ext w w':=by
 obtain⟨q,rfl⟩:=h.ptr;refine enE func165 ntmps165 ?_;refine bxR ?_;intro w1 bT aa ay hT;refine bxR ?_;intro w2 bK a7 b2 hK;refine Jw (cs:=V0.cells) Yp ?_;intro w3 bR O b1 hR;refine drR (scq 8 [5]) ?_;have G:Ext w3 w3.drew:=(Ext.refl w3).drew;have ad:=((hT.ext a7).ext O).ext G;have a8:=(hK.ext O).ext G;have Z:=((aa.trans a7).trans O).trans G;refine Jz (a8.at (i:=0) rfl) ?_;refine ρd ?_;refine dkf 11 ?_ ?_
 .exact dF om
 refine Jz (a8.at (i:=0) rfl) ?_;refine Qf (cs:=[.bool d,.pointer q]) (λj u hu=>ad.at hu) ?_;refine Qq (Jsm (h.ext Z)) ?_;rintro u w4 ⟨rfl,C⟩;refine⟨C,?_⟩;refine ρd ?_;refine cfR ?_ ?_
 .exact dF om
 have ac:=Z.trans C;have am:=(hR.ext G).ext C;have aj:=ad.ext C;have an:=a8.ext C;refine Jw (cs:=V0.cells) Yp ?_;intro w5 bV a9 ax hV;refine Jw zNat ?_;intro w6 bS a6 az hS;have lK:=hK.lt;have lR:=hR.lt;have lV:=hV.lt;have av:=aa.size;have au:=a7.size;have ar:=O.size;have aq:=(G.trans C).size;have ap:=a9.size;have ao:=a6.size;have n1:bS≠bK:=om
 have n2:bS≠bV:=om
 have n3:bK≠bV:=om
 have n4:bS≠bR:=om
 have n5:bV≠bR:=om
 have n6:bK≠bR:=om
 have o:Ext w4 w6:=a9.trans a6;have a4:Ext w w6:=ac.trans o;have hN:TrV (λk=>k=bS∨k=bV∨k=bK) w6 t (.pointer q):=(h.old (N':=λk=>k=bS∨k=bV∨k=bK) λk hk=>.inr (by rcases hk with rfl|rfl|rfl<;>omega)).ext a4;have aw:=Tr.ht_le t;refine Ja (aj.ext o) ?_;refine clR (Jrq (N:=λk=>k=bS∨k=bV∨k=bK) (J:=AtJ bS bK bV bR k t) (D:=AtD bS bK bV bR k t) hN ⟨_,k,V0,⟨hS,an.ext o,hV.ext a6,am.ext o⟩,⟨_,_,_,rfl⟩,hk,hs,rfl,hb⟩ om ?_ ?_ (Xcj ⟨n1,n2,n3,n4,n5,n6⟩)) ?_
 .rintro s w w' ⟨sv,m,v,a1,a2⟩ hx;exact⟨sv,m,v,a1.ext hx,a2⟩
 .rintro w ⟨sv,m,v,a1,a2,a3,_⟩;simp only[Tr.sz]at a3;omega
 rintro z w7 ⟨⟨n,rfl,hn⟩,⟨sv,kc,af,A,m,c,rfl⟩,ai⟩;have ab:Ext w w7:=ai.old a4 λk hk=>by rcases hk with rfl|rfl|rfl<;>omega
 refine ρ ?_;refine drN (λk=>k=bR) 10 (scq 5 [2]) kr ?_;have a5:Ext w7 w7.drew:=(Ext.refl w7).drew;have ae:=af.ext a5;refine ρn ?_;refine Zh (cs:=(eAt t k).cells) (λw' hg j u hu=>(Jy ae.vb hg n5).at hu) ?_;refine ρn ?_;refine nld (Jr (ae.sb.at (i:=0) rfl) n4) ?_;refine ρn ?_;refine nop ?_;refine stb (cs':=(eAt t k).cells) (af.rb.ext a5) ?_ (V.one _);intro w8 ak ah ag;refine ρ ?_;refine Ju (GrN.by ah λj hj=>by injection hj with hj;exact hj.symm) ?_;refine ρn ?_;refine ρ ?_;refine Jqs ak ⟨A,m,c,rfl,ag w (ab.trans a5) om⟩
end Go.Proofs.YtgobkbeokaaplaaGreatDoor
namespace Go.Proofs.YtgobkbeokaaplaaGreatDoor
open Go.RowKit Pl Go.Wk _root_.Go.Proofs.Tryz
attribute [local irreducible] WC WL QX WD WDB WP
variable {b3 bp bs f n qc t:Nat}{QA:Option Addr}{q:Row}{v x:Value}{w:World}
theorem NatX.or{N N':Nat->Prop}(h:NatX N w v n)(h':NatX N' w v n): NatX (λk=>N k∨N' k) w v n:=⟨h.1,λh0 i m c e j=>j.elim (h.2 h0 i m c e) (h'.2 h0 i m c e)⟩
theorem Jpn: Qu prog 4=some (.bool false):=kr
theorem Qpm{ds:List Bool}{kf:Nat->Nat}{pf:Nat->Int}{BB:Nat->List BkT}{tot:Nat}{L:List Row}{pb:Bool}(h:IxA w x f ds kf pf BB tot L)(hB3:Blk w b3 59 [.slice QA q.length qc])(hBp:Blk w bp 4 [.bool pb])(hBs:Blk w bs 3 [.int .i64 (t:Int)])(hne:bp≠bs)(hq:RdR w QA q)(hqc:q.length<=qc)(hqf:q.length=f)(ht:t+Ql f (λv=>hmB (BB v))<=1000000000):
  Ret prog 71 [x,.pointer (some ⟨b3,0,none⟩),.pointer (some ⟨bp,0,none⟩),.pointer (some ⟨bs,0,none⟩)] w λu w'=>NatX (λk=>k=bp∨k=bs) w' u (Qc ds L q)/\GrN (λk=>k=bp∨k=bs) w w'/\Blk w' bp 4 [.bool (pb || decide (0<(wiL L q).length))]/\∃ st:Nat,st<=Ql f (λv=>hmB (BB v))/\Blk w' bs 3 [.int .i64 ((t+st:Nat):Int)]:=by
 obtain⟨B0,tb⟩:=h.tb;have ix:=h.ix;obtain⟨DA,dc,BA,cb,KA,ck,ad,cp,tv,ac,ab,rfl,_⟩:=id ix.ex;refine enE func71 ntmps71 ?_;refine bxR ?_;intro w1 b o hb aa;refine Ja aa ?_;refine ldR ((hB3.ext o).at (i:=0) rfl) ?_;refine clR (Qjm (tb.ext o) (h.ext o) (Rd.ext hq o) hqc) ?_;rintro u w2 ⟨a4,_,a9⟩;obtain⟨kv,st,rfl,a5,a6⟩:=a9 hqf;have D:=(hBp.ext o).ext a4;have J:=(hBs.ext o).ext a4;refine ldR (D.at (i:=0) rfl) ?_;cases pb with
 | false=>
  refine ρ ?_;refine Vb D ?_ rfl;intro w3 a3 Z a8;have C:=J.grown Z (by simpa using hne.symm);refine ldR (C.at (i:=0) rfl) ?_;refine ρ ?_;refine Vb C ?_ rfl;intro w4 a1 O a7;have a2:=a3.grown O (by simpa using hne);refine ρ ?_;have hg:GrN (λk=>k=bp∨k=bs) w2 w4:=(GrN.by Z λj G=>.inl (by injection G with G;exact G.symm)).trans (GrN.by O λj G=>.inr (by injection G with G;exact G.symm));refine Jj ⟨((a5.off (λx e=>by cases e) D).or (a5.off (λx e=>by cases e) J)).gr hg,(GrN.ext (o.trans a4)).trans hg,a2,st,a6,?_⟩;rw[show((t+st:Nat):Int)=(t:Int)+(st:Int) by omega];exact a1
 | true=>
  refine ρ ?_;refine Vb D ?_ rfl;intro w3 a3 Z a8;have C:=J.grown Z (by simpa using hne.symm);refine ldR (C.at (i:=0) rfl) ?_;refine ρ ?_;refine Vb C ?_ rfl;intro w4 a1 O a7;have a2:=a3.grown O (by simpa using hne);refine ρ ?_;have hg:GrN (λk=>k=bp∨k=bs) w2 w4:=(GrN.by Z λj G=>.inl (by injection G with G;exact G.symm)).trans (GrN.by O λj G=>.inr (by injection G with G;exact G.symm));refine Jj ⟨((a5.off (λx e=>by cases e) D).or (a5.off (λx e=>by cases e) J)).gr hg,(GrN.ext (o.trans a4)).trans hg,a2,st,a6,?_⟩;rw[show((t+st:Nat):Int)=(t:Int)+(st:Int) by omega];exact a1
theorem Qgx{D:UD}{cs:List Value}(hV:UnV w D cs)(hq:RdR w QA q)(hqc:q.length<=qc):
  Ret prog 19 [.agg cs.toArray,.slice QA q.length qc] w λu w'=>Ext w w'/\(q.length≠D.f->u=.tuple #[.slice none 0 0,.bool false,.int .i64 0,.int .i64 6]) /\
   (q.length=D.f->∃(nv:Value) (st:Nat),u=.tuple #[nv,.bool (decide (q∈D.U)),.int .i64 (st:Int),.int .i64 0]/\NatV w' nv (Qc D.ds D.U q)/\st<=D.n*D.Hm):=by
 have n7:=hV.n7;obtain⟨DA,dc,MA,mc,SA,sl,sc,rfl,h2,h3,h4,h5,h6⟩:=id hV.ex;refine enE func19 ntmps19 ?_;refine bxR ?_;intro w1 b2 a1 b4 aa;refine bxR ?_;intro w2 b3 C b1 a3;refine ldR (a3.at (i:=0) rfl) ?_;refine ldR ((aa.ext C).at (i:=1) rfl) ?_;refine ciR (λh=>?_) (λh=>?_)
 .have ah:q.length≠D.f:=by have:=Yh h;omega
  refine ρ ?_;exact Ik ⟨a1.trans C,λ_=>rfl,λe=>absurd e ah⟩
 have a2:q.length=D.f:=by have:=Uv h;omega
 clear h;refine Jw Jpn ?_;intro w3 bp af am ap;refine ρ ?_;refine Vb ap ?_ rfl;intro w4 Z ay ae;refine Jw Jfk ?_;intro w5 bs ac ak ao;refine ρ ?_;refine Vb ao ?_ rfl;intro w6 O ax ab;have o:Ext w2 w4:=ae w2 af am;have j:Ext w4 w6:=ab w4 ac ak;have G:=(a1.trans C).trans (o.trans j);have a8:=Z.ext j;have lp:=Z.lt;have ls:=O.lt;have l3:=a3.lt;have av:=a1.size;have au:=C.size;have ar:=o.size;have aq:=j.size;refine ldR ((aa.ext (C.trans (o.trans j))).at (i:=3) rfl) ?_;refine ρ ?_;have a9:=a3.ext (o.trans j);have b5:D.n*D.Hm<=7*10000000:=Nat.mul_le_mul n7 hV.hl;refine cl (Jbk (S:=λk=>k=bp∨k=bs) (I:=λi W=>∃(t:Nat) (pb:Bool),t<=i*D.Hm/\(pb=true↔∃ s,1<=s/\s<=i/\0<(wiL (D.M s) q).length)/\Blk W bp 4 [.bool pb]/\Blk W bs 3 [.int .i64 (t:Int)]) (c:=λs=>Qc D.ds (D.M s) q)
  (cap:=[.pointer (some ⟨b3,0,none⟩),.pointer (some ⟨bp,0,none⟩),.pointer (some ⟨bs,0,none⟩)]) hV.x5 n7 (λk hk=>om)
  (Iu (h5.ext G) λh0 ad e he=>?_) (λi=>?_) ⟨0,false,Nat.zero_le _,⟨λh=>(by cases h),λ⟨s,h1,h2,_⟩=>(by omega)⟩,a8,O⟩ (λi W W' ⟨t,pb,h1,h2,h3,h4⟩ hx=>⟨t,pb,h1,h2,h3.ext hx,h4.ext hx⟩) (λi hi W hg ⟨t,pb,h1,h2,h3,h4⟩=>?_)) ?_
 .obtain⟨b6,e',aw⟩:=h5.2 h0;grind
 .have:=Jyb D.ds (D.M i) q;have:=hV.ml i;omega
 .have a4:Ext w W:=hg.old G λk hk=>by omega
  have hh:=hV.hm i hi;have ai:(i+1)*D.Hm<=D.n*D.Hm:=nO _ om;rw[Nat.succ_mul]at ai;refine(Qpm ((hV.ix i hi).ext a4) (Jy a9 hg om) h3 h4 om (Rd.ext hq a4) hqc a2 om).mono ?_;rintro u W' ⟨g1,g2,g3,st,g4,g5⟩;refine⟨g1,g2,t+st,_,by rw[Nat.succ_mul];omega,?_,g3,g5⟩;grind
 rintro u w7 ⟨hu,az,aj,t,pb,ht,ag,a7,a6⟩;have a5:Ext w w7:=aj.old G λk hk=>by omega
 have J:Ext w7 w7.drew:=(Ext.refl w7).drew;refine drR (scq 7 []) ?_;refine Jz ((a7.ext J).at (i:=0) rfl) ?_;refine Jz ((a6.ext J).at (i:=0) rfl) ?_;refine ρd ?_;refine ρ ?_;refine Ik ⟨a5.trans J,λe=>absurd a2 e,λ_=>⟨u,t,?_,?_,ht⟩⟩
 .have:pb=decide (q∈D.U):=by
   rw[Bool.eq_iff_iff,ag,decide_eq_true_eq,hV.up.has a2];have hn:D.n=2^D.k-1:=rfl;grind
  rw[this]
 have an:=hV.up.before q;have:sgP (λs=>Qc D.ds (D.M s) q) D.n-sgM (λs=>Qc D.ds (D.M s) q) D.n=Qc D.ds D.U q:=by
  rw[show D.n=2^D.k-1 from rfl,an];omega
 rw[this]at hu;exact hu.ext J
open Go.RowKit Pl Go.Wk _root_.Go.Proofs.Tryz
variable {cs:List Value}{w:World}
theorem EX5: ElT prog 43 55 5 120 (.agg #[.slice none 0 0,.slice none 0 0,.slice none 0 0,.slice none 0 0,.slice none 0 0]):=⟨underlying43,info_parts kr,rfl,by decide⟩
theorem EInp: ElT prog 24 33 5 88 (.agg #[.int .i64 0,.int .i64 0,.slice none 0 0,.slice none 0 0,.slice none 0 0]):=⟨underlying24,info_parts kr,rfl,by decide⟩
theorem Qbv(w:World): (Instr.buildSlice 43 0 #[]).run prog w=.ok (.slice (some ⟨w.heap.size,0,none⟩) 0 0) (w.alloc (.cells ([]:List Value).toArray 55)):=kr
theorem Xvq{A:Option Addr}{n c:Nat}(hr:Rd w 5 A n cs)(h1:∀ u∈cs,u.oneCell'=true)(hb:n<=1000):
  Ret prog 69 [.slice A n c] w λv w'=>(∃ A' c',v=.slice A' n c'/\n<=c'/\Rd w' 5 A' n cs/\∀ ad,A'=some ad->w.heap.size<=ad.block)/\Ext w w':=by
 refine enE func69 ntmps69 ?_;refine ρ ?_;refine Kr ?_;refine ciR (λh=>?_) (λh=>?_)
 .have O:A=none:=by simpa using h
  subst O;have hn:n=0:=by
   rcases Nat.eq_zero_or_pos n with h0|h0
   .exact h0
   obtain⟨ad,Z,_⟩:=hr.isome h0 om;cases Z
  subst hn;refine ρ ?_;exact Jj ⟨⟨none,0,rfl,Nat.le_refl _,hr,λad e=>by cases e⟩,Ext.refl w⟩
 refine Qb Qbv ?_;intro w1 b j G D;refine ρ ?_;refine apo j EX5 (D.own (n:=0) G rfl (Nat.zero_le _)) (hr.ext j) h1 (by unfold maxLen;omega) om ?_;intro v2 w2 i C _ _;obtain⟨A2,c2,rfl,o,J⟩:=Jb i;refine ρ ?_;rw[Nat.zero_add]at i o ⊢;exact Jj ⟨⟨A2,c2,rfl,o,Rd.own i,λad e=>by subst e;exact(J ad.block rfl).1⟩,C⟩
theorem Xyg(w:World): (Instr.buildSlice 24 0 #[]).run prog w=.ok (.slice (some ⟨w.heap.size,0,none⟩) 0 0) (w.alloc (.cells ([]:List Value).toArray 33)):=kr
theorem Qhg{D:UD}(hV:UnV w D cs): Ret prog 16 [.agg cs.toArray] w λu w'=>NatV w' u D.U.length/\Ext w w':=by
 obtain⟨DA,dc,MA,mc,SA,sl,sc,rfl,h2,h3,h4,h5,h6⟩:=id hV.ex;have C:D.U.length<=35000:=by
  have h7:=hV.up.total;have hs:=Jbn (c:=λs=>(D.M s).length) (B:=5000) hV.ml (2^D.k-1);have n7:2^D.k-1<=7:=hV.n7;grind
 obtain⟨A,c,e,e1,_,e2⟩:=id h6;injection e with e3 e4 e5
 subst e3;subst e4;subst e5;refine enE func16 ntmps16 ?_;refine bxR ?_;intro w1 b j hb Z;refine ldR (Z.at (i:=4) rfl) ?_;refine ρ ?_;have J:=Jzl (n:=D.U.length) om;refine cl (Qbb (e2.ext j) (Qdr _) om) ?_;rintro u w2 ⟨⟨A',c',rfl,O,G⟩,o⟩;refine ρ ?_;exact Jj ⟨⟨A',c',rfl,O,om,G⟩,j.trans o⟩
open Go.RowKit Pl Go.Wk
theorem Qhb{w:World}{D:UD}{cs:List Value}{QA:Option Addr}{qc:Nat}{q:Row}(hV:UnV w D cs)(hq:RdR w QA q)(hqc:q.length<=qc):
  Ret Tryz.prog 20 [.agg cs.toArray,.slice QA q.length qc] w λu w'=>Ext w w'/\u=.int .u32 (((if q.length=D.f then Vj (λi=>decide (q∈D.M (2^i))) D.k else 0):Nat):Int):=by
 have n7:=hV.n7;have am:=hV.up.k3;obtain⟨DA,dc,MA,mc,SA,sl,sc,rfl,h2,h3,h4,h5,h6⟩:=id hV.ex;refine enE Tryz.func20 Tryz.ntmps20 ?_;refine bxR ?_;intro w1 b2 a1 an a3;refine ldR (a3.at (i:=1) rfl) ?_;refine ciR (λh=>?_) (λh=>?_)
 .have ac:q.length≠D.f:=by have:=Yh h;omega
  refine ρ ?_;exact Jj ⟨a1,by rw[if_neg ac]⟩
 have a6:q.length=D.f:=by have:=Uv h;omega
 clear h;refine ldR (a3.at (i:=0) rfl) ?_;refine ρ ?_;refine Qs (fun (i:Nat)=>[(1,.slice QA q.length qc),(2,.pointer (some ⟨b2,0,none⟩)),(5,.int .u32 ((Vj (λi=>decide (q∈D.M (2^i))) i:Nat):Int)),(17,.int .i64 (D.k:Int)),(18,.int .i64 (i:Int))])
  (λi w'=>i<=D.k/\Ext w1 w') (λi=>D.k-i) 0 sB ⟨Nat.zero_le _,Ext.refl _⟩ ?_
 rintro i w2 ⟨hi,G⟩;refine ciR (λh=>?_) (λh=>?_)
 .have li:i<D.k:=by have:=oT h;omega
  clear h;refine ρ ?_;have a9:i=0∨i=1∨i=2:=om
  obtain⟨s,hs⟩:∃ s,s=2^i:=⟨_,rfl⟩;have aa:1<=s:=by grind
  have J:s-1<D.n:=by
   have:2^i<2^D.k:=Nat.pow_lt_pow_right om li;unfold UD.n;omega
  have ai:s<=4:=by grind
  refine dr (scq 18 [8]) kr ?_;have Z:Ext w2 w2.drew:=(Ext.refl w2).drew;have o:=(a1.trans G).trans Z;have af:=(a3.ext G).ext Z;obtain⟨A,B,C,D',E,a,b,c',d,e,a',b',c2,d',e',a4⟩:=hV.x5 (s-1) J;have a8:∀ i,i<D.n->(D.xc i).length=5:=λi hi=>by obtain⟨A,B,C,D',E,a,b,c',d,e,a',b',c2,d',e',h⟩:=hV.x5 i hi;rw[h];rfl
  have a2:=(hV.ix (s-1) J).ext o;rw[a4]at a2;obtain⟨B0,tb⟩:=a2.tb;refine Jz (af.at (i:=3) rfl) ?_;refine ρd ?_;refine dshl ?_ (h0:=by omega);refine dkv 25 (show Value.int .i64 (IntKind.i64.wrap (1*2^min ((i:Int)).toNat IntKind.i64.bits))=.int .i64 (s:Int) by rw[hs];rcases a9 with rfl|rfl|rfl<;>rfl) ?_;refine Zu 5 (s-1) (h5.ext o) J ?_;refine Qf (cs:=[.slice A a a',.slice B b b',.slice C c' c2,.slice D' d d',.slice E e e']) (λj u hu=>?_) ?_
  .rw[<-a4]at hu;have hj:j<5:=by grind
   rw[Xv];exact Rd.cell (h5.ext o) (by rw[Yk a8 J hj];exact hu)
  refine Qq (Qjm tb a2 (Rd.ext hq o) hqc) ?_;rintro u w3 ⟨a5,_,ab⟩;obtain⟨kv,st,rfl,ak,ah⟩:=ab a6;refine⟨a5,?_⟩;refine ρd ?_;refine ρ ?_;have e1:s-1+1=2^i:=(Nat.sub_add_cancel aa).trans hs;have ad:2^i<2^D.k:=Nat.pow_lt_pow_right om li;have a7:(0<(wiL (D.M (s-1+1)) q).length)↔q∈D.M (2^i):=by
   rw[e1];constructor
   .intro h3;obtain⟨x,hx⟩:=List.exists_mem_of_length_pos h3;unfold wiL at hx;rw[List.mem_filter,decide_eq_true_eq]at hx;have ag:=hV.up.len x (hV.up.sub Nat.one_le_two_pow ad hx.1);grind
   intro h3;refine List.length_pos_of_mem (a:=q) ?_;grind [wiL,List.take_length]
  have O:Ext w1 w3:=(G.trans Z).trans a5;have aj:=Xjk (λi=>decide (q∈D.M (2^i))) i;refine ci (λh=>?_) (λh=>?_)
  .have hm:=a7.1 (oT h);clear h;refine ρ ?_;refine Jxd rfl rfl om rfl ?_;refine Go.Wk.kv 38 (show Value.int .u32 (IntKind.u32.wrap (1*2^min ((i:Int)).toNat IntKind.u32.bits))=.int .u32 ((2^i:Nat):Int) by rcases a9 with rfl|rfl|rfl<;>rfl) ?_;refine ρ ?_;refine Qm (i+1) ?_ ⟨om,O⟩ om;rw[Jjp om om];rw[show Vj (λi=>decide (q∈D.M (2^i))) (i+1)=Vj (λi=>decide (q∈D.M (2^i))) i ||| 2^i by grind [Vj]];exact sO
  have hm:¬ q∈D.M (2^i):=by grind
  clear h;refine ρ ?_;refine Qm (i+1) ?_ ⟨om,O⟩ om;rw[show Vj (λi=>decide (q∈D.M (2^i))) (i+1)=Vj (λi=>decide (q∈D.M (2^i))) i by grind [Vj]];exact sO
 have ae:i=D.k:=by grind
 subst ae;refine ρ ?_;exact Jj ⟨a1.trans G,by rw[if_pos a6]⟩
end Go.Proofs.YtgobkbeokaaplaaGreatDoor
namespace Go.Proofs.YtgobkbeokaaplaaGreatDoor
open Pl Go.Wk
variable {m n v:Nat}{k r y:Row}
section
variable {f:Nat} {ds:List Bool} {kf:Nat->Nat} {pf:Nat->Int} {BB:Nat->List BkT} {tot:Nat} {L:List Row}
theorem IxP.ne_of(h:IxP f ds kf pf BB tot L)(hr:r∈L): tot≠0:=λe=>by
 rw[h.len]at e;grind
theorem IxP.val(h:IxP f ds kf pf BB tot L)(hr:r∈L)(hv:v<f): r.getD v V0∈(trK (BB v) (pmR (bk (kf v) 32) (r.take v))).toL.map (·.1):=by
 have j:=h.ne_of hr;rw[h.ans j]at hr;have o:r.length=f:=by grind [AX.ext_mem]
 have i:=AX.ext_gp hr (v+1) v (by grind);rw[Jdz,Pl.getD_take (Xp f kf pf BB).d0 om,List.take_take,Nat.min_eq_left om]at i;exact i
theorem IxP.srtT(h:IxP f ds kf pf BB tot L)(hv:v<f)(k:Row): Us (ds.getD v false) (trK (BB v) k).toL:=by
 by_cases e:tot=0
 .rw[h.nil e v];exact List.Pairwise.nil
 have:=(h.srt e).srt v hv k;grind [Jdz]
theorem IxP.fitR(h:IxP f ds kf pf BB tot L)(hr:r∈L): ∀ u∈r,Xs u/\u.bytes.length<=24:=by
 have j:=h.ne_of hr;rw[h.ans j]at hr;have o:r.length=f:=by grind [AX.ext_mem]
 have i:=AX.ext_gp hr f;rw[List.take_of_length_le om]at i;exact h.gp i
end
theorem Xkd(hy:∀ u∈y,Xs u/\u.bytes.length<=24)(s:Nat): FitR (pmR (bk s 32) y):=by
 refine⟨by grind [Xc,Yo],λv j=>?_⟩;obtain⟨i,_,rfl⟩:=List.mem_map.1 j;grind [List.getD,fit0,List.mem_of_getElem?]
theorem Xzd{bs:List BkT}{a:V}(h:a∈(trK bs k).toL.map (·.1)): (Zo bs k).isSome=true:=by
 cases e:Zo bs k with
 | some i=>rfl
 | none=>rw[Jmj e]at h;cases h
theorem Qzr(h0:0<n)(h:m<=n / 2): Js m+1<=Js n:=by
 have j:=Jvc (x:=n);have o:=Jll (x:=n) om;obtain⟨L,i⟩:∃ L,Js n=L+1:=⟨Js n-1,om⟩;rw[i]at j ⊢;have:=Gl (x:=m) (k:=L) (by grind);omega
open Go.RowKit Pl Go.Wk _root_.Go.Proofs.Tryz
attribute [local irreducible] WC WL QX WD WDB WP WN WG WH WM
variable {c k m n qc:Nat}{A QA:Option Addr}{q:Row}{a w:World}
theorem Qyz(ha:Ext a w)(hr:RdR w A q)(hb:q.length<=1000):
  Ret prog 131 [.slice A q.length c] w λv w'=>w'.ownsRow a.heap.size 147 3 v q.length (Jp q)/\Ext w w':=by
 refine enE func131 ntmps131 ?_;refine ρ ?_;refine Kr ?_;refine ciR (λh=>?_) (λh=>?_)
 .have O:A=none:=by simpa using h
  subst O;have hn:q.length=0:=by
   rcases Nat.eq_zero_or_pos q.length with h0|h0
   .exact h0
   obtain⟨ad,Z,_⟩:=hr.isome h0 om;cases Z
  obtain rfl:=List.eq_nil_of_length_eq_zero hn;refine ρ ?_;exact Jj ⟨Zd _ _ _ _,Ext.refl w⟩
 refine Qb Iy ?_;intro w1 b i G u;refine ρ ?_;refine apo (a:=a) (ha.trans i) EV (u.own (n:=0) (nL ha.size G) rfl (Nat.zero_le _)) (hr.ext i) (Jxp q) (by unfold maxLen;omega) om ?_;intro v2 J j _ C _;have o:Ext w J:=Qa i C λg eg=>by
  have:b=g:=by simpa [Value.ownBlock] using eg
  omega
 obtain⟨A2,c2,rfl,D,_⟩:=Jb j;refine ρ ?_;rw[Nat.zero_add]at j D ⊢;exact Jj ⟨j,o⟩
def SF.r1(y:V): SF:=⟨λv W=>∃ b:Nat,v=.slice (some ⟨b,0,none⟩) 1 1/\Blk W b 147 (Jp [y]),λ⟨b,e,h⟩ hx=>⟨b,e,h.ext hx⟩⟩
theorem Jtb{A a b C s e:Nat}(h1:b+1<=a)(h2:a<=A)(hs:s<=(A-a)*C)(he:e<=C): s+e<=(A-b)*C:=by
 have:(A-a+1)*C<=(A-b)*C:=nO _ om;grind
theorem Qzq(h:n<=m): Js n<=Js m:=Gl (Nat.lt_of_le_of_lt h Jvc)
theorem cmpN_le: Yn n m<=0↔n<=m:=by
 unfold Yn;grind
theorem Jkf(v:V)(w:World): (Instr.buildSlice 59 1 #[(0,v.val)]).run prog w=.ok (.slice (some ⟨w.heap.size,0,none⟩) 1 1) (w.alloc (.cells (Jp [v]).toArray 147)):=kr
theorem Qhh{D:UD}{cs:List Value}{kv p:Value}{d:Bool}{t:Tr}(hV:UnV w D cs)(hq:RdR w QA q)(hqc:q.length<=qc)(hk:NatV w kv k)(hkl:k<D.U.length)(hqf:q.length<D.f)(hq2:q=(D.U.getD k []).take q.length)(hT:TrV (λ_=>False) w t p)(hs:Us (D.ds.getD q.length false) t.toL)(hnb:Nb t.sum)(hsz:t.sz<=65536):
  Ret prog 119 [.agg cs.toArray,.agg #[.bool d,p],.slice QA q.length qc,kv] w λu w'=>∃(a:V) (fd:Bool) (st:Nat),u=.tuple #[a.val,.bool fd,.int .i64 (st:Int)]/\Ext w w' /\
   (fd=true->neg (D.ds.getD q.length false) (cmpV a ((D.U.getD k []).getD q.length V0))<=0)/\((D.U.getD k []).getD q.length V0∈t.toL.map (·.1)->fd=true/\a=(D.U.getD k []).getD q.length V0)/\st<=Js t.sz*(D.n*D.Hm):=by
 have n7:=hV.n7;have ch:D.U.getD k []∈D.U:=getD_mem' [] _ hkl;have d7:=hV.up.len _ ch;obtain⟨pp,rfl⟩:=hT.ptr;obtain⟨DA,dc,MA,mc,SA,sl,sc,rfl,h2,h3,h4,h5,h6⟩:=id hV.ex;have da:(D.f:Nat)<=32:=by
  have h0:0<D.n:=by
   have:=hV.up.k1;have:=Nat.pow_le_pow_right (show 0<2 by omega) this;unfold UD.n;omega
  exact(hV.ix 0 h0).ip.f32
 generalize hwant:(D.U.getD k []).getD q.length V0=want at *
 obtain⟨G,O⟩:∃ G:Nat->Prop,G=λi=>neg (D.ds.getD q.length false) (cmpV (eAt t i) want)<=0:=⟨_,rfl⟩;have aq:∀ i,Qc D.ds D.U (q++[eAt t i])<=k↔G i:=λi=>by
  have:=Xww (a:=eAt t i) hV.up.ul hkl (v:=q.length) om;rw[<-hq2,hwant]at this;rw[O];exact this
 have cv:t.toL.length=t.sz:=(Tr.sz_eq t).symm;have ab:∀ i j,i<=j->j<t.sz->G j->G i:=λi j c9 hj h=>by
  rw[O]at h ⊢;exact Qmp hs c9 om h
 have d0:Js t.sz<=17:=Gl om;have d9:D.n*D.Hm<=7*10000000:=Nat.mul_le_mul n7 hV.hl;refine enE func119 ntmps119 ?_;refine bxR ?_;intro w1 b4 ba d6 bz;refine bxR ?_;intro w2 b5 ay d5 b1;refine Jw (cs:=V0.cells) Yp ?_;intro w3 b8 a8 d4 bq;refine Jw (cs:=V0.cells) Yp ?_;intro w4 af a5 cp aw;have ao:=((ba.trans ay).trans a8).trans a5;refine Ja ((b1.ext a8).ext a5) ?_;refine clR (Jsm (hT.ext ao)) ?_;rintro u w5 ⟨rfl,a4⟩;have bd:=ao.trans a4;have bw:=(((bz.ext ay).ext a8).ext a5).ext a4;have bs:=((b1.ext a8).ext a5).ext a4;have bp:=(bq.ext a5).ext a4;have l4:=bz.lt;have l5:=b1.lt;have l8:=bq.lt;have cr:=aw.lt;have s1:=ba.size;have s2:=ay.size;have s3:=a8.size;have s4:=a5.size;have s5:=a4.size;refine ρ ?_;refine Zj (fun (lo hi:Nat) (z:Bool×Nat)=>[(2,.slice QA q.length qc),(3,kv),(4,.pointer (some ⟨b4,0,none⟩)),(5,.pointer (some ⟨b5,0,none⟩)),(8,.pointer (some ⟨b8,0,none⟩)),(11,.pointer (some ⟨af,0,none⟩)),(12,.bool z.1),(13,.int .i64 (z.2:Int)),(14,.int .i64 (lo:Int)),(15,.int .i64 (hi:Int))])
  (λlo hi z w'=>lo<=hi/\hi<=t.sz/\GrN (λk=>k=af) w5 w'/\(∃ a:V,Blk w' af 147 a.cells/\(0<lo->a=eAt t (lo-1)))/\(z.1=true↔0<lo)/\(∀ i,i<lo->G i)/\(∀ i,hi<=i->i<t.sz->¬ G i)/\z.2<=(Js t.sz-Js (hi-lo))*(D.n*D.Hm))
  (λlo hi _=>hi-lo) 0 t.sz (false,0) sB
  ⟨Nat.zero_le _,Nat.le_refl _,GrN.refl _ _,⟨V0,aw.ext a4,λh=>absurd h (Nat.lt_irrefl 0)⟩,⟨(λh=>by cases h),λh=>absurd h (Nat.lt_irrefl 0)⟩,λi hi=>absurd hi (Nat.not_lt_zero i),λi h1 h2=>absurd h2 om,Nat.zero_le _⟩ ?_
 rintro lo hi ⟨fd,st⟩ w6 ⟨cz,ca,ac,⟨a3,ae,Z⟩,ah,ax,bh,aa⟩;simp only at ah aa;have a9:Ext w w6:=ac.old bd λk hk=>by rw[hk];omega
 have co:st<=17*70000000:=by
  refine nL aa (Nat.mul_le_mul om om)
 refine ciR (λh=>?_) (λh=>?_)
 .have cy:lo<hi:=by have:=oT h;omega
  clear h;refine ρ ?_;refine qn (hi-lo) 2 ?_;refine ρ ?_;have ar:(lo:Int)+((hi-lo) / 2:Nat)=((lo+(hi-lo) / 2:Nat):Int):=om
  obtain⟨o,hm⟩:∃ o,o=lo+(hi-lo) / 2:=⟨_,rfl⟩;rw[<-hm]at ar;refine Go.Wk.kv 16 (congrArg (Value.int .i64) ar) ?_;have cx:lo<=o:=om
  have cw:o<hi:=om
  have br:=Jy bs ac om;refine Ja br ?_;refine clR (Qld (k:=o) (hT.ext a9) om hnb om) ?_;rintro u w7 ⟨TA,tn,tc,rfl,ag⟩;have bc:=a9.trans ag;refine Jw (cs:=V0.cells) Yp ?_;intro w8 ck c5 bm c1;refine Qh (cs':=(eAt t o).cells) c1 ?_ (V.one _);intro w9 b6 d2 c4;have ai:Ext w7 w9:=c4 w7 c5 bm;have ak:=ag.trans ai;have bb:=bc.trans ai;have a7:Ext w9 w9.drew:=(Ext.refl w9).drew;have an:=bb.trans a7;have av:=((Jy bw ac om).ext ak).ext a7;have a1:=b6.ext a7;have bf:=Rd.ext hq an;refine ρ ?_;have d8:∀ {k:Nat},k<w9.heap.size->¬ w9.drew.heap.size<=k:=λh h'=>by have:=a7.size;have:w9.drew.heap.size=w9.heap.size:=rfl;omega
  have cq:=av.lt;have cm:=a1.lt;refine drM (λk=>w9.drew.heap.size<=k) ?_;refine Un (fuel':=9) [(0,0),(0,1),(0,3)] #[true,true,false,true,false,false,false,false,false,false,false,false] kr kr rfl ?_;refine ρn ?_;refine Zh (cs:=[.int .i64 (D.k:Int),.int .i64 (D.f:Int),.slice DA D.f dc,.slice MA D.n mc,.slice SA sl sc]) (λw' hg j u hu=>(Jy av hg om).at hu) ?_;refine ρn ?_;refine Zh (cs:=(eAt t o).cells) (λw' hg j u hu=>(Jy a1 hg om).at hu) ?_;refine ρn ?_;refine Up ?_;refine mcut 7 (lst 12 5) (fun (y:Option Addr×Nat×Nat)=>[(45,.slice y.1 q.length y.2.1),(47,.slice (some ⟨y.2.2,0,none⟩) 1 1),(43,.agg #[.int .i64 (D.k:Int),.int .i64 (D.f:Int),.slice DA D.f dc,.slice MA D.n mc,.slice SA sl sc]),(2,.slice QA q.length qc),(3,kv),(4,.pointer (some ⟨b4,0,none⟩)),(5,.pointer (some ⟨b5,0,none⟩)),(8,.pointer (some ⟨b8,0,none⟩)),(11,.pointer (some ⟨af,0,none⟩)),(12,.bool fd),(13,.int .i64 (st:Int)),(14,.int .i64 (lo:Int)),(15,.int .i64 (hi:Int)),(16,.int .i64 (o:Int)),(17,.pointer (some ⟨ck,0,none⟩))])
   (λy W=>Ext w9.drew W/\W.ownsRow w9.drew.heap.size 147 3 (.slice y.1 q.length y.2.1) q.length (Jp q)/\Blk W y.2.2 147 (Jp [eAt t o])) ?_ ?_
  rotate_left
  .intro rest;refine Jql 2 4 kr rfl rfl rfl ?_ ?_
   .refine cl (Qyz (Ext.refl _) bf om) ?_;rintro u v1 ⟨ho,J⟩;obtain⟨CA,cc,rfl,cd,_⟩:=Jb ho;refine Jl (Xg (GrN.ext J) ?_);refine Vd 4 kr rfl rfl ?_;refine bsl (Jkf _) ?_;intro v2 b2 C cg a6;refine Jl (Xg (GrN.ext C) ?_);refine Gg (listed':=lst 12 5) kr ?_;exact rest (CA,cc,b2) _ _ ⟨J.trans C,Jk ho C,a6⟩ sB
   refine bsl (Jkf _) ?_;intro v1 b2 J cg a6;refine Jl (Xg (GrN.ext J) ?_);refine Vd 2 kr rfl rfl ?_;refine cl (Qyz J (Rd.ext bf J) om) ?_;rintro u v2 ⟨ho,C⟩;obtain⟨CA,cc,rfl,cd,_⟩:=Jb ho;refine Jl (Xg (GrN.ext C) ?_);refine Gg (listed':=lst 12 5) kr ?_;exact rest (CA,cc,b2) _ _ ⟨J.trans C,ho,a6.ext C⟩ sB
  rintro⟨CA,cc,b2⟩ v1 ⟨J,ho,a6⟩;simp only at ho a6;obtain⟨_,_,_,_,c6⟩:=Jb ho;refine Vd 5 kr rfl rfl ?_;refine apo (a:=w9.drew) J EV ho (a6.rd (n:=1) rfl) (V.one _) (by unfold maxLen;omega) om ?_;intro v' v2 bg C cb _;obtain⟨A3,c3,rfl,ce,_⟩:=Jb bg;have ap:=an.trans C;have cj:RdR v2 A3 (q++[eAt t o]):=by
   have h1:=Rd.own bg;rw[<-rowC_app']at h1;exact(by rw[List.length_append];exact h1:Rd _ 3 A3 (q++[eAt t o]).length (Jp (q++[eAt t o])))
  have az:(q++[eAt t o]).length=q.length+1:=by simp
  refine Jl (Xg (GrN.by cb λj hj=>(c6 j hj).1) ?_);refine Vd 6 kr rfl rfl ?_;have bl:=Qhn (hV.ext ap) cj (qc:=c3) (by rw[az];exact ce) (by rw[az];omega);rw[az]at bl;refine cl bl ?_;rintro u v3 ⟨nv,sn,rfl,c7,be,a2⟩;refine Jl (Xg (GrN.ext a2) ?_);refine Un (fuel':=0) [(0,7),(0,8),(0,9),(0,10),(0,11)] (lst 12 12) kr kr rfl ?_;refine ρn ?_;refine Up ?_;refine Jwv kr ?_;refine ρ ?_;have b9:Ext w v3:=ap.trans a2;refine cl (Jwt c7 (hk.ext b9)) ?_;rintro u v4 ⟨rfl,am⟩;have aj:Ext w6 v4:=(((ak.trans a7).trans C).trans a2).trans am;have b3:=((a1.ext C).ext a2).ext am;have ad:=ae.ext aj;have au:GrN (λk=>k=af) w5 v4:=ac.trans (GrN.ext aj);have bi:Js (hi-lo)<=Js t.sz:=Qzq om;refine ciR (λh=>?_) (λh=>?_)
  .have hy:G o:=(aq o).1 (cmpN_le.1 (oT h));clear h;refine Jh (cs:=(eAt t o).cells) (λj u hu=>b3.at hu) ?_;refine Qh (cs':=(eAt t o).cells) ad ?_ (V.one _);intro v5 b7 bj cn;refine ρ ?_;refine Qe (o+1) hi (true,st+sn) sO ⟨om,ca,au.trans (GrN.by bj λj hj=>by injection hj with hj;exact hj.symm),⟨_,b7,λ_=>by rw[Nat.add_sub_cancel]⟩,⟨λ_=>om,λ_=>rfl⟩,λi d1=>ab i o om om hy,bh,Jtb (Qzr om om) bi aa be⟩ om
  have hy:¬ G o:=λhy=>oF h (cmpN_le.2 ((aq o).2 hy));clear h;refine ρ ?_;refine Qe lo o (fd,st+sn) sO ⟨om,om,au,⟨a3,ad,Z⟩,ah,ax,λi h1 h2 c2=>hy (ab o i h1 h2 c2),Jtb (Qzr om om) bi aa be⟩ om
 have c8:lo=hi:=by have:=oF h;omega
 subst c8;have bo:=Jy bp ac om;refine Jh (cs:=a3.cells) (λj u hu=>ae.at hu) ?_;refine Qh (cs':=a3.cells) bo ?_ (V.one _);intro w7 bn d3 ag;refine ρ ?_;have hL:LastP (D.ds.getD q.length false) want t.toL lo:=⟨om,λi hi=>by have:=ax i hi;rw[O]at this;exact this,λi h1 h2=>by have:=bh i h1 om;rw[O]at this;exact this⟩;refine Jqs bn ⟨a3,fd,st,rfl,ag w a9 om,λh=>?_,λh=>?_,?_⟩
 .have h0:=ah.1 h;rw[Z h0];have:=ax (lo-1) om;rw[O]at this;exact this
 .obtain⟨h0,h1⟩:=hL.end hs h;exact⟨ah.2 h0,(Z h0).trans h1⟩
 refine nL aa (nO _ om)
open Go.RowKit Pl Go.Wk
variable {cs:List Value}{Sz c k qc v:Nat}{A QA:Option Addr}{q r:Row}{D:UD}{w:World}
def SF.rv(y:Row): SF:=⟨λv w=>RowV w v y,λh hx=>h.ext hx⟩
def SF.bu(w0:World)(t:Tr)(b:Bool): SF:=⟨λv _=>∃ d p,v=.tuple #[.agg #[.bool d,.pointer p],.bool b]/\TrV (λ_=>False) w0 t (.pointer p),λh _=>h⟩
def SF.bt(w0:World)(t:Tr): SF:=⟨λv _=>∃ d p,v=.agg #[.bool d,.pointer p]/\TrV (λ_=>False) w0 t (.pointer p),λh _=>h⟩
theorem Qpj{ds:List Bool}(h:RdB w A ds)(hv:v<ds.length)(hc:ds.length<=c): RdB w (if c=v then A else A.map (·.add (v*1))) [ds.getD v false]:=by
 have:=Rd.cut h v (v+1) c om om om;have e:((ds.map Value.bool).drop (v*1)).take ((v+1-v)*1)=[Value.bool (ds.getD v false)]:=by
  refine List.ext_getElem (by simp;omega) λi o j=>?_;grind
 grind
theorem Qhj(hV:UnV w D cs)(hv:v<D.f)(a b:V):
  Ret Tryz.prog 120 [.agg cs.toArray,.int .i64 (v:Int),a.val,b.val] w λu w'=>u=.bool (decide (0<neg (D.ds.getD v false) (cmpV a b)))/\Ext w w':=by
 obtain⟨DA,dc,MA,mc,SA,sl,sc,rfl,h2,h3,h4,h5,h6⟩:=id hV.ex;refine enE Tryz.func120 Tryz.ntmps120 ?_;refine bxR ?_;intro w1 b4 a7 aj af;refine bxR (cs:=a.cells) ?_;intro w2 b6 a2 ai ae;refine bxR (cs:=b.cells) ?_;intro w3 b7 O ah ad;have a3:=(a7.trans a2).trans O;have C:Ext w3 w3.drew:=(Ext.refl w3).drew;have G:=a3.trans C;have a6:=((af.ext a2).ext O).ext C;have a5:=(ae.ext O).ext C;have a4:=ad.ext C;have aa:(v:Int)+1=((v+1:Nat):Int):=om
 have ag:v<1000000:=by
  have h0:0<D.n:=by
   have:=hV.up.k1;grind [Nat.pow_le_pow_right,UD.n]
  have:=(hV.ix 0 h0).ip.f32;omega
 refine ρ ?_;refine drH (λi=>false) ?_;refine Zr (fuel':=5) 14 [(0,0),(0,2),(0,4),(0,5),(0,6),(0,7),(0,8),(0,9)] #[true,false,true,false,true,true,true,true,true,true,false,false,false] kr kr rfl ?_;refine Qf (cs:=a.cells) (λj u hu=>a5.at hu) ?_;refine Qf (cs:=b.cells) (λj u hu=>a4.at hu) ?_;refine Jz (a6.at (i:=2) rfl) ?_;refine ρd ?_;refine Xkv Il v (v+1) dc rfl rfl rfl rfl ⟨_,_,rfl,rfl⟩ ⟨_,_,rfl,aa⟩ rfl (.inl rfl) om om (nR _) rfl ?_;rw[show v+1-v=1 by omega];refine ρd ?_;refine Xa ?_;refine hmkS 14 3 _ #[true,true,true,true,true,true,true,true,true,true,false,false,false] [1,3] [10,12] [SF.r1 a,SF.r1 b] kr (by rfl) ?_ ?_
 .refine gsc (λvs v1 o hd=>?_) ?_
  .simp only[slM];refine bsl (Jkf _) ?_;intro v2 b2 J ab Z;exact Jl (Zf J ⟨b2,rfl,Z⟩)
  refine gsc (λvs v1 o hd=>?_) gse
  simp only[slM];refine bsl (Jkf _) ?_;intro v2 b2 J ab Z;exact Jl (Zf J ⟨b2,rfl,Z⟩)
 intro vs v1 o hd;obtain⟨ba,ea,a9⟩:=hd 0;obtain⟨bb,eb,a8⟩:=hd 1;simp only[slM,ea,eb];have ac:=Qpj (h4.ext (G.trans o)) (v:=v) (c:=dc) (by rw[h3];exact hv) om;refine Zr (fuel':=0) 14 [(1,10),(0,11),(0,12)] #[true,true,true,true,true,true,true,true,true,true,true,true,true] kr kr rfl ?_;refine dcl (Qvz (a:=[a]) (b:=[b]) (ds:=[D.ds.getD v false]) ⟨_,_,rfl,Nat.le_refl _,by simp,a9.rd rfl⟩ ⟨_,_,rfl,Nat.le_refl _,by simp,a8.rd rfl⟩ ⟨_,dc-v,rfl,by simp;omega,by simp,ac⟩) ?_;rintro u w4 ⟨rfl,a1⟩;refine⟨a1,?_⟩;refine ρd ?_;refine Xa ?_;refine Yx kr ?_;refine ρ ?_;refine Jj ⟨?_,(G.trans o).trans a1⟩;have:=Qyp (a:=a) (b:=b) (p:=[]) (ds:=[D.ds.getD v false]);grind
theorem UnV.row(hV:UnV w D cs)(hr:r∈D.U): ∃ i,i<D.k/\2^i-1<D.n/\2^i-1+1=2^i/\r∈D.M (2^i):=by
 obtain⟨i,hi,h⟩:=(hV.up.um r).1 hr;have j:2^i<2^D.k:=Nat.pow_lt_pow_right om hi;grind [Nat.one_le_two_pow,UD.n]
theorem UnV.fit(hV:UnV w D cs)(hr:r∈D.U): ∀ u∈r,Xs u/\u.bytes.length<=24:=by
 obtain⟨i,_,C,o,j⟩:=hV.row hr;have:=(hV.ix _ C).ip;rw[o]at this;exact this.fitR j
theorem Qhk{kv:Value}(hV:UnV w D cs)(hq:RdR w QA q)(hqc:q.length<=qc)(hk:NatV w kv k)(hkl:k<D.U.length)(hqf:q.length<D.f)(hq2:q=(D.U.getD k []).take q.length)(hS:∀ i,i<D.k->∀ v,v<D.f->∀ key,(trK (D.BB (2^i-1) v) key).sz<=Sz)(hS2:Sz<=65536):
  Ret Tryz.prog 70 [.agg cs.toArray,.int .i64 (q.length:Int),.slice QA q.length qc,kv] w λu w'=>∃ st:Nat,u=.tuple #[((D.U.getD k []).getD q.length V0).val,.bool true,.int .i64 (st:Int)]/\Ext w w'/\st<=D.k*(Js Sz*(D.n*D.Hm)):=by
 have n7:=hV.n7;have dq:=hV.up.k3;have bh:D.U.getD k []∈D.U:=getD_mem' [] _ hkl;have dw:=hV.up.len _ bh;have ca:=hV.fit bh;have ba:∀ u∈q,Xs u/\u.bytes.length<=24:=λu hu=>ca u (by rw[hq2]at hu;exact List.mem_of_mem_take hu);obtain⟨i0,d0,c6,dg,bb⟩:=hV.row bh;obtain⟨DA,dc,MA,mc,SA,sl,sc,rfl,h2,h3,h4,h5,h6⟩:=id hV.ex;have dz:(D.f:Nat)<=32:=(hV.ix _ c6).ip.f32;obtain⟨O,a4⟩:∃ O,O=(D.U.getD k []).getD q.length V0:=⟨_,rfl⟩;rw[<-a4];have cy:Js Sz<=17:=Gl om;have dx:D.n*D.Hm<=7*10000000:=Nat.mul_le_mul n7 hV.hl;obtain⟨C,hC⟩:∃ C,C=Js Sz*(D.n*D.Hm):=⟨_,rfl⟩;have d8:C<=17*70000000:=by rw[hC];exact Nat.mul_le_mul cy om
 rw[<-hC];refine enE Tryz.func70 Tryz.ntmps70 ?_;refine bxR ?_;intro w1 b4 bz dv cm;refine Jw (cs:=V0.cells) Yp ?_;intro w2 b8 b7 du ck;refine Jw (cs:=V0.cells) Yp ?_;intro w3 aj an di b2;have c1:=(bz.trans b7).trans an;have b1:=(cm.ext b7).ext an;have cj:=ck.ext an;have l4:=cm.lt;have l8:=ck.lt;have dl:=b2.lt;have s1:=bz.size;have s2:=b7.size;have s3:=an.size;refine ldR (b1.at (i:=0) rfl) ?_;refine ρ ?_;refine Jo (fun (i:Nat) (z:Bool×Nat)=>[(1,.int .i64 (q.length:Int)),(2,.slice QA q.length qc),(3,kv),(4,.pointer (some ⟨b4,0,none⟩)),(8,.pointer (some ⟨b8,0,none⟩)),(11,.pointer (some ⟨aj,0,none⟩)),(12,.bool z.1),(13,.int .i64 (z.2:Int)),(22,.int .i64 (D.k:Int)),(23,.int .i64 (i:Int))])
  (λi z w'=>i<=D.k/\GrN (λk=>k=aj) w3 w'/\(∃ a:V,Blk w' aj 147 a.cells/\BestP (D.ds.getD q.length false) O (λj=>D.U.getD k []∈D.M (2^j)) i z.1 a)/\z.2<=i*C)
  (λi _=>D.k-i) 0 (false,0) sB
  ⟨Nat.zero_le _,GrN.refl _ _,⟨V0,b2,BestP.start _ _ _ _⟩,Nat.zero_le _⟩ ?_
 rintro i ⟨fd,st⟩ w4 ⟨hi,ad,⟨a1,a3,a6⟩,ao⟩;simp only at a6 ao;have a9:Ext w w4:=ad.old c1 λk hk=>by rw[hk];omega
 have de:st<=3*(17*70000000):=nL ao (Nat.mul_le_mul om d8);have ai:=Jy b1 ad om;refine ciR (λh=>?_) (λh=>?_)
 .have li:i<D.k:=by have:=oT h;omega
  clear h;have c7:i=0∨i=1∨i=2:=om
  obtain⟨s,hs⟩:∃ s,s=2^i:=⟨_,rfl⟩;have dn:1<=s:=by rw[hs];exact Nat.one_le_two_pow
  have a5:s-1<D.n:=by
   have:2^i<2^D.k:=Nat.pow_lt_pow_right om li;unfold UD.n;omega
  have dm:s<=4:=by rw[hs];rcases c7 with rfl|rfl|rfl<;>decide
  obtain⟨A,B,C',D',E,a,b,c',d,e,a',b',c2,d',e',br⟩:=hV.x5 (s-1) a5;have az:∀ i,i<D.n->(D.xc i).length=5:=λi hi=>by obtain⟨A,B,C,D',E,a,b,c',d,e,a',b',c2,d',e',h⟩:=hV.x5 i hi;rw[h];rfl
  have a2:=hV.ix (s-1) a5;rw[br,show s-1+1=s by omega]at a2;have b5:Ext w4 w4.drew:=(Ext.refl w4).drew;have aw:=a9.trans b5;have d9:=ai.ext b5;refine drR (scq 9 [7,108]) ?_;refine Jz (d9.at (i:=3) rfl) ?_;refine ρd ?_;refine dshl ?_ (h0:=by omega);refine dkv 29 (show Value.int .i64 (IntKind.i64.wrap (1*2^min ((i:Int)).toNat IntKind.i64.bits))=.int .i64 (s:Int) by rw[hs];rcases c7 with rfl|rfl|rfl<;>rfl) ?_;refine Zu 5 (s-1) (h5.ext aw) a5 ?_;refine Qf (cs:=[.slice A a a',.slice B b b',.slice C' c' c2,.slice D' d d',.slice E e e']) (λj u hu=>?_) ?_
  .rw[<-br]at hu;have hj:j<5:=by
    rcases Nat.lt_or_ge j 5 with h'|h'
    .exact h'
    rw[List.getElem?_eq_none (by rw[az _ a5];omega)]at hu;cases hu
   rw[Xv];exact Rd.cell (h5.ext aw) (by rw[Yk az a5 hj];exact hu)
  refine ρd ?_;refine dalc' Jjq ?_;intro w5 e6 cr cd co;refine Qv ?_;refine stW co ?_;intro w6 bl dt cq;have bq:Ext w4.drew w6:=cq w4.drew cr cd;have au:=b5.trans bq;have ax:=a9.trans au;refine ρ ?_;have ak:Ext w6 w6.drew:=(Ext.refl w6).drew;have av:=ax.trans ak;have ce:=bl.ext ak;have bg:=a2.ext av;obtain⟨B0,tb⟩:=bg.tb;obtain⟨t,ht⟩:∃ t,t=trK (D.BB (s-1) q.length) (pmR (bk (D.kf (s-1) q.length) 32) q):=⟨_,rfl⟩;obtain⟨bo,cb⟩:∃ bo,bo=(Zo (D.BB (s-1) q.length) (pmR (bk (D.kf (s-1) q.length) 32) q)).isSome:=⟨_,rfl⟩;have cw:Us (D.ds.getD q.length false) t.toL:=by rw[ht];exact a2.ip.srtT hqf _
  have cx:Nb t.sum:=by rw[ht];exact Nb.pow (k:=1) (by rw[Nat.pow_one];exact a2.ip.big _ _) om
  have cv:t.sz<=Sz:=by rw[ht,hs];exact hS i li _ hqf _
  have b9:D.U.getD k []∈D.M (2^i)->O∈t.toL.map (·.1)/\bo=true:=λhm=>by
   have:=a2.ip.val (r:=D.U.getD k []) (by rw[hs];exact hm) hqf;rw[<-hq2,<-a4,<-ht]at this;exact⟨this,by rw[cb];exact Xzd (by rw[<-ht];exact this)⟩
  refine drH (λi=>Nat.ble 11 i) ?_;refine Zr (fuel':=8) 14 [(0,0),(0,1),(0,2),(0,3),(0,4)] (lst 13 5) kr kr rfl ?_;refine Qf (λj u hu=>ce.at hu) ?_;refine Qf (λj u hu=>ce.at hu) ?_;refine ρd ?_;refine Xa ?_;have c3:=a2.ip.kv q.length hqf;refine Jvl 2 (lst 13 11) (fun (y:Bool×Option Addr×Nat)=>[(41,.agg #[.bool y.1,.pointer y.2.1]),(42,.bool bo),(16,.pointer (some ⟨y.2.2,0,none⟩)),(1,.int .i64 (q.length:Int)),(2,.slice QA q.length qc),(3,kv),(4,.pointer (some ⟨b4,0,none⟩)),(8,.pointer (some ⟨b8,0,none⟩)),(11,.pointer (some ⟨aj,0,none⟩)),(12,.bool fd),(13,.int .i64 (st:Int)),(22,.int .i64 (D.k:Int)),(23,.int .i64 (i:Int))])
   (λy W=>Ext w6.drew W/\Blk W y.2.2 76 [.bool false,.pointer none]/\w6.drew.heap.size<=y.2.2/\TrV (λ_=>False) w6.drew t (.pointer y.2.1)) ?_ ?_
  rotate_left
  .intro rest;refine Qwf 17 9 2 _ (lst 13 11) [5,6,7,8,9,10] [39,40,33,41,42,16] [SF.rv (pmR (bk (D.kf (s-1) q.length) 32) q),SF.bu w6.drew t bo,SF.bu w6.drew t bo,SF.bt w6.drew t,SF.eq (.bool bo),SF.tbox w6.drew.heap.size] kr (by rfl) ?_ ?_ ?_
   .refine gsc (λvs w9 J hd=>?_) ?_
    .simp only[slM];refine cl (Qkj (bg.ix.ext J) hqf (Rd.ext hq (av.trans J)) hqc om c3) ?_;rintro uk W ⟨⟨KA,kc,rfl,c5,c4,bf,_⟩,hy⟩;exact Jl (Zf hy ⟨KA,kc,rfl,c5,c4,bf⟩)
    refine gsc (λvs w9 J hd=>?_) ?_
    .obtain⟨KA,kc,e0,c5,c4,bf⟩:=hd 0;simp only[slM,e0];refine cl (Qkl (tb.ext J) J bg.ix hqf bf (Xkd ba _)) ?_;rintro u W ⟨d,p,rfl,hT,_,hy⟩;rw[<-ht]at hT;rw[<-cb];exact Jl (Zf hy ⟨d,p,rfl,hT⟩)
    refine gsc (λvs w9 J hd=>?_) ?_
    .obtain⟨d,p,e1,hT⟩:=hd 1;simp only[slM,e1];refine ρ ?_;exact Zf (Ext.refl _) ⟨d,p,rfl,hT⟩
    refine gsc (λvs w9 J hd=>?_) ?_
    .obtain⟨d,p,e2,hT⟩:=hd 2;simp only[slM,e2];refine ρ ?_;exact Zf (Ext.refl _) ⟨d,p,rfl,hT⟩
    refine gsc (λvs w9 J hd=>?_) ?_
    .obtain⟨d,p,e2,hT⟩:=hd 2;simp only[slM,e2];refine ρ ?_;exact Zf (Ext.refl _) rfl
    refine gsc (λvs w9 J hd=>?_) gse
    simp only[slM];refine alc Kx ?_;intro W ae hy o G;exact Jl (Zf hy ⟨ae,rfl,Nat.le_trans J.size o,G⟩)
   .intro vs v1 ac hd;obtain⟨d,p,e3,hT⟩:=hd 3;have e4:vs 4=_:=hd 4;obtain⟨ae,e5,o,G⟩:=hd 5;simp only[slM,e3,e4,e5];exact rest (d,p,ae) _ _ ⟨ac,G,o,hT⟩ sB
   intro _ vs v1 ac hd;obtain⟨d,p,e3,hT⟩:=hd 3;obtain⟨d2,p2,e2,_⟩:=hd 2;obtain⟨ae,e5,o,G⟩:=hd 5;simp only[slM,e3,e2,e5];refine Gn (fuel':=2) 9 kr kr rfl rfl ?_;refine ρp ?_;refine ρd ?_;refine Xa ?_;refine hlist (listed':=lst 13 11) kr ?_;exact rest (d,p,ae) _ _ ⟨ac,G,o,hT⟩ sB
  rintro⟨d,p,ae⟩ v1 ⟨ac,G,o,hT⟩;simp only at G o hT;refine Zr (fuel':=0) 17 [(2,11),(2,12)] (lst 13 13) kr kr rfl ?_;refine Qv ?_;refine stW G ?_;intro w7 bj d1 am;refine Jl (Xz ?_);refine Qv ?_;refine ρ ?_;refine Xz ?_;refine Iw (Xa ?_);refine Yx kr ?_;have ar:Ext w6 w7:=am w6 (ak.trans ac) (nL ak.size o);have bp:Ext w6.drew w7:=am w6.drew ac o;have a7:=au.trans ar;have ag:=ax.trans ar;have c8:=ad.trans (GrN.ext a7);have bm:=a3.ext a7;refine ρ ?_;cases bo with
  | false=>
   refine ρ ?_;refine Jf (i+1) (fd,st) sO ⟨li,c8,⟨a1,bm,a6.skip λhm=>by have:=(b9 hm).2;cases this⟩,Nat.le_trans ao (nO _ om)⟩ om
  | true=>
   refine Ja (ai.ext a7) ?_;refine Ja bj ?_;refine clR (Qhh (hV.ext ag) (Rd.ext hq ag) hqc (hk.ext ag) hkl hqf hq2 (hT.ext bp) cw cx om) ?_;rintro u w8 ⟨val,fo,sn,rfl,cp,be,bd,a5⟩;rw[<-a4]at be bd;have df:sn<=C:=by
    rw[hC];exact nL a5 (nO _ (Qzq cv))
   refine Jw (cs:=V0.cells) Yp ?_;intro w9 da J cc cn;refine Qh (cs':=val.cells) cn ?_ (V.one _);intro bn aa dh bw;have b6:Ext w8 bn:=bw w8 J cc;have Z:=(a7.trans cp).trans b6;have d3:=ad.trans (GrN.ext Z);have aq:=a3.ext Z;have bi:=ai.ext Z;have ay:st+sn<=(i+1)*C:=by rw[Nat.succ_mul];omega
   have bc:D.U.getD k []∈D.M (2^i)->val=O:=λhm=>(bd (b9 hm).1).2;refine ρ ?_;have dd:(st:Int)+(sn:Int)=((st+sn:Nat):Int):=om
   refine Ve (fun (t:Bool)=>[(68,.bool t),(1,.int .i64 (q.length:Int)),(2,.slice QA q.length qc),(3,kv),(4,.pointer (some ⟨b4,0,none⟩)),(8,.pointer (some ⟨b8,0,none⟩)),(11,.pointer (some ⟨aj,0,none⟩)),(12,.bool fd),(13,.int .i64 ((st:Int)+(sn:Int))),(18,.pointer (some ⟨da,0,none⟩)),(22,.int .i64 (D.k:Int)),(23,.int .i64 (i:Int))])
    (λt b3=>Ext bn b3/\(t=true->BestP (D.ds.getD q.length false) O (λj=>D.U.getD k []∈D.M (2^j)) (i+1) true val)/\(t=false->BestP (D.ds.getD q.length false) O (λj=>D.U.getD k []∈D.M (2^j)) (i+1) fd a1)) ?_ ?_
   .cases fo with
    | false=>
     refine ρ ?_;exact Jc false sB ⟨Ext.refl _,λh=>(by cases h),λ_=>a6.skip λhm=>by have:=(bd (b9 hm).1).1;cases this⟩
    | true=>
     cases fd with
     | false=>
      refine ρ ?_;exact Jc true sB ⟨Ext.refl _,λ_=>a6.take (be rfl) bc (.inl rfl),λh=>(by cases h)⟩
     | true=>
      refine Ja bi ?_;refine Jh (cs:=val.cells) (λj u hu=>aa.at hu) ?_;refine Jh (cs:=a1.cells) (λj u hu=>aq.at hu) ?_;refine clR (Qhj (hV.ext (a9.trans Z)) hqf val a1) ?_;rintro u b3 ⟨rfl,bs⟩;refine ρ ?_;refine Jc _ sB ⟨bs,λh=>a6.take (be rfl) bc (.inr (oT h)),λh=>a6.keep bc (by have:=oF h;omega)⟩
   rintro dk b3 ⟨a8,d7,d6⟩;have af:=Z.trans a8;have ah:=ad.trans (GrN.ext af);have ab:=a3.ext af;refine ciR (λh=>?_) (λh=>?_)
   .refine Jh (cs:=val.cells) (λj u hu=>(aa.ext a8).at hu) ?_;refine Qh (cs':=val.cells) ab ?_ (V.one _);intro dj ap c9 db;refine ρ ?_;refine Jf (i+1) (true,st+sn) sO ⟨li,ah.trans (GrN.by c9 λj hj=>by injection hj with hj;exact hj.symm),⟨val,ap,d7 h⟩,ay⟩ om
   refine ρ ?_;refine Jf (i+1) (fd,st+sn) sO ⟨li,ah,⟨a1,ab,d6 h⟩,ay⟩ om
 have cz:i=D.k:=by have:=oF h;omega
 subst cz;obtain⟨d5,d4⟩:=a6.has ⟨i0,d0,bb⟩;subst d5;subst d4;have ch:=Jy cj ad om;refine Jh (cs:=a1.cells) (λj u hu=>a3.at hu) ?_;refine Qh (cs':=a1.cells) ch ?_ (V.one _);intro w7 cg d1 am;refine ρ ?_;exact Jqs cg ⟨st,rfl,am w a9 om,ao⟩
open Go.RowKit Pl Go.Wk
variable {cs:List Value}{Sz k m n:Nat}{D:UD}{w:World}
theorem cmpN_ge: 0<=Yn n m↔m<=n:=by
 unfold Yn;grind
theorem Qhp{kv:Value}(hV:UnV w D cs)(hk:NatV w kv k)(hS:∀ i,i<D.k->∀ v,v<D.f->∀ key,(trK (D.BB (2^i-1) v) key).sz<=Sz)(hS2:Sz<=65536)(hf:D.f<=32):
  Ret Tryz.prog 18 [.agg cs.toArray,kv] w λu w'=>Ext w w'/\(D.U.length<=k->u=.tuple #[.slice none 0 0,.int .i64 0,.int .i64 3]) /\
   (k<D.U.length->∃(A:Option Addr) (c st:Nat),u=.tuple #[.slice A (D.U.getD k []).length c,.int .i64 (st:Int),.int .i64 0]/\RdR w' A (D.U.getD k [])/\(D.U.getD k []).length<=c/\st<=D.f*(D.k*(Js Sz*(D.n*D.Hm)))):=by
 have n7:=hV.n7;have ar:=hV.up.k3;obtain⟨DA,dc,MA,mc,SA,sl,sc,rfl,h2,h3,h4,h5,h6⟩:=id hV.ex;have aq:Js Sz<=17:=Gl om;have bd:D.n*D.Hm<=7*10000000:=Nat.mul_le_mul n7 hV.hl;obtain⟨C,hC⟩:∃ C,C=D.k*(Js Sz*(D.n*D.Hm)):=⟨_,rfl⟩;have ay:C<=3*(17*70000000):=by rw[hC];exact Nat.mul_le_mul ar (Nat.mul_le_mul aq om)
 rw[<-hC];refine enE Tryz.func18 Tryz.ntmps18 ?_;refine bxR ?_;intro w1 b2 a2 bc ai;refine ldR (ai.at (i:=4) rfl) ?_;refine clR (Jwt (hk.ext a2) (h6.ext a2)) ?_;rintro u w2 ⟨rfl,a9⟩;have O:=a2.trans a9;refine ciR (λh=>?_) (λh=>?_)
 .have b7:D.U.length<=k:=cmpN_ge.1 (oT h);refine ρ ?_;exact Jvs ⟨O,λ_=>rfl,λh=>absurd h om⟩
 have ac:k<D.U.length:=by
  have:=oF h;rcases Nat.lt_or_ge k D.U.length with h1|h1
  .exact h1
  exact absurd (cmpN_ge.2 h1) this
 clear h;have ax:D.U.getD k []∈D.U:=getD_mem' [] _ ac;have af:=hV.up.len _ ax;obtain⟨r,hr⟩:∃ r,r=D.U.getD k []:=⟨_,rfl⟩;rw[<-hr]at af ⊢;have Z:=ai.ext a9;refine Qb Iy ?_;intro w3 b3 a8 aw b1;have ah:=Z.ext a8;refine ldR (ah.at (i:=1) rfl) ?_;refine ρ ?_;refine Zj (fun (v:Nat) (pv:Value) (st:Nat)=>[(1,kv),(2,.pointer (some ⟨b2,0,none⟩)),(7,pv),(8,.int .i64 (st:Int)),(20,.int .i64 (D.f:Int)),(21,.int .i64 (v:Int))])
  (λv pv st w'=>v<=D.f/\Ext w2 w'/\w'.ownsRow w2.heap.size 147 3 pv v (Jp (r.take v))/\st<=v*C) (λv _ _=>D.f-v) 0 (.slice (some ⟨b3,0,none⟩) 0 0) 0 sB
  ⟨Nat.zero_le _,a8,b1.own (n:=0) aw rfl (Nat.zero_le _),Nat.zero_le _⟩ ?_
 rintro v pv st w4 ⟨hv,o,a4,ab⟩;have J:=O.trans o;have ag:=Z.ext o;obtain⟨A3,c3,rfl,ba,av⟩:=Jb a4;have b4:st<=32*(3*(17*70000000)):=nL ab (Nat.mul_le_mul om ay);have a3:(r.take v).length=v:=by rw[List.length_take];omega
 have a5:RdR w4 A3 (r.take v):=by
  have:=Rd.own a4;exact(by rw[a3];exact this:Rd w4 3 A3 (r.take v).length (Jp (r.take v)))
 refine ciR (λh=>?_) (λh=>?_)
 .have lv:v<D.f:=by have:=oT h;omega
  clear h;refine Ja ag ?_;refine ρ ?_;have ad:=Qhk (q:=r.take v) (qc:=c3) (hV.ext J) a5 om (hk.ext J) ac om (by rw[a3,hr]) hS hS2;rw[a3,<-hC,<-hr]at ad;refine cl ad ?_;rintro u w5 ⟨sn,rfl,an,b5⟩;refine Jw (cs:=V0.cells) Yp ?_;intro w6 be am ae aj;refine Qh (cs':=(r.getD v V0).cells) aj ?_ (V.one _);intro w7 a6 b9 ak;have a7:Ext w5 w7:=ak w5 am ae;have G:=an.trans a7;refine Jh (cs:=(r.getD v V0).cells) (λj u hu=>a6.at hu) ?_;refine Qb (Jkf _) ?_;intro w8 b8 a1 bb az;refine ρ ?_;refine apb (m':=1) (news:=Jp [r.getD v V0]) EV (Jk a4 (G.trans a1)) (az.rd (n:=1) rfl) (Jxp _) (by unfold maxLen;omega) om ((o.trans G).trans a1).size ?_;intro v9 w9 ap au b6;have aa:st+sn<=(v+1)*C:=by rw[Nat.succ_mul];omega
  have e:r.take (v+1)=r.take v++[r.getD v V0]:=Qr V0 om;refine ρ ?_;refine Qe (v+1) v9 (st+sn) sO ⟨lv,Qa ((o.trans G).trans a1) au (λg eg=>(av g eg).1),?_,aa⟩ om;rw[e,rowC_app'];exact ap
 have ao:v=D.f:=by have:=oF h;omega
 clear h;subst ao;rw[show r.take D.f=r from List.take_of_length_le om]at a5;refine ρ ?_;refine Jvs ⟨J,λh=>absurd h om,λ_=>⟨A3,c3,st,?_,a5,om,ab⟩⟩;rw[af]
theorem UnV.sz(h:UnV w D cs): ∀ i,i<D.k->∀ v,v<D.f->∀ key,(trK (D.BB (2^i-1) v) key).sz<=65536:=λi hi v j key=>by
 have u:2^i<2^D.k:=Nat.pow_lt_pow_right om hi;have o:=Nat.one_le_two_pow (n:=i);exact(h.ix _ (by unfold UD.n;omega)).ip.siz v key
theorem UnV.f32{w:World}{D:UD}{cs:List Value}(h:UnV w D cs): D.f<=32:=by
 have j:=h.up.k1;have i:2^1<=2^D.k:=by grind
 exact(h.ix 0 (by unfold UD.n;omega)).ip.f32
end Go.Proofs.YtgobkbeokaaplaaGreatDoor
namespace Go.Wk
open Go.RowKit
theorem OwnM.other{α:Type}{E:TypeId}{sz base:Nat}{Φ:World->List Value->α->Prop}{N:Nat->Prop}{w w':World}{v vp vp':Value}{ls:List α}(h:OwnM E sz Φ (λk=>N k∨vp.ownBlock=some k) w base v ls)(hg:w.grownBy w' vp.ownBlock)(hn:∀ g,vp'.ownBlock=some g->vp.ownBlock=some g∨w.heap.size<=g)(hd:∀ g,v.ownBlock=some g->¬ vp.ownBlock=some g): OwnM E sz Φ (λk=>N k∨vp'.ownBlock=some k) w' base v ls:=by
 obtain⟨ps,G,D,o⟩:=h;have j:GrN (λk=>vp.ownBlock=some k) w w':=GrN.by hg λk i=>i
 refine⟨ps,G,Je D j hd,λp hp=>⟨(o p hp).1,λW u=>(o p hp).2 W ?_⟩⟩;have C:GrN (λk=>((N k∨vp.ownBlock=some k)∨v.ownBlock=some k)∨w.heap.size<=k) w W:=(j.mono λk _ i=>(.inl (.inl (.inr i)):((N k∨vp.ownBlock=some k)∨v.ownBlock=some k)∨w.heap.size<=k)).trans (u.mono λk _ i=>by grind);exact C.mono λk i h=>h.elim id λJ=>by omega
end Go.Wk
namespace Go.Proofs.YtgobkbeokaaplaaGreatDoor
open Go.RowKit Pl Go.Wk
attribute [local irreducible] WC WL QX WD WDB WP WN WG WH WM
variable {ats ats':List Atm}{ds:List Bool}{ps ps':List Nat}{Ms:List UMem}{cs:List Value}{b12 bR base c f n:Nat}{xc:Nat->List Value}{N:Nat->Prop}{A:Option Addr}{M:UMem}{dv va vp:Value}{W W1 w w' wC:World}
def um0: UMem:=⟨0,[],[]⟩
structure InsM(w:World)(A:Option Addr)(f:Nat)(ds:List Bool)(Ms:List UMem)(xc:Nat->List Value): Prop where
 rd:Rd w 5 A Ms.length (Qy Ms.length xc)
 el:∀ i,i<Ms.length->InC w (Vz f ds (Ms.getD i um0)) (xc i)
theorem InsM.ext{w w':World}{A:Option Addr}{f:Nat}{ds:List Bool}{Ms:List UMem}{xc:Nat->List Value}(h:InsM w A f ds Ms xc)(hx:Ext w w'): InsM w' A f ds Ms xc:=⟨h.rd.ext hx,λi hi=>(h.el i hi).ext hx⟩
structure InF(w:World)(f:Nat)(ds:List Bool)(M:UMem)(cs:List Value)(D Q T:Option Addr)(dc pc tc:Nat)(ts:List TA): Prop where
 e:cs=[.int .i64 (M.N:Int),.int .i64 (f:Int),.slice D ds.length dc,.slice Q M.perm.length pc,.slice T M.ats.length tc]
 d:RdB w D ds
 dl:ds.length<=dc/\ds.length<=1100000
 p:Rd w 1 Q M.perm.length (Jt (nz M.perm))
 a:M.ats.map toAtm=ts.map (·.2)
 tl:ts.length=M.ats.length
 t:Rd w 3 T M.ats.length (atC ts)
 at_:∀ p∈ts,AtV w p.1 p.2
theorem InC.inF(h:InC w (Vz f ds M) cs): ∃ D Q T dc pc tc ts,InF w f ds M cs D Q T dc pc tc ts:=by
 obtain⟨vd,vp,va,rfl,⟨D,dc,rfl,h1,O,J⟩,G,ts,T,tc,u,rfl,h6,h7,o,C⟩:=h;obtain⟨Q,pc,e,a1,Z,j⟩:=IntsV.n G;have i:ts.length=M.ats.length:=by have:=congrArg List.length u;grind [Vz]
 rw[i]at o;exact⟨D,Q,T,dc,pc,tc,ts,by rw[e,i];rfl,J,⟨h1,O⟩,j,u,i,o,C⟩
theorem InF.ext{w w':World}{f:Nat}{ds:List Bool}{M:UMem}{cs:List Value}{D Q T:Option Addr}{dc pc tc:Nat}{ts:List TA}(h:InF w f ds M cs D Q T dc pc tc ts)(hx:Ext w w'): InF w' f ds M cs D Q T dc pc tc ts :=
 ⟨h.e,Rd.ext h.d hx,h.dl,h.p.ext hx,h.a,h.tl,h.t.ext hx,λp hp=>(h.at_ p hp).ext hx⟩
def LeW(w w':World): Prop:=w.heap.size<=w'.heap.size/\∀ ad u,w.cell? ad=some u->w'.cell? ad=some u
theorem Jxq{sz:Nat}(h:Rd w sz A n cs)(hl:LeW w w'): Rd w' sz A n cs:=⟨h.1,λh0=>by
 obtain⟨D,e,C,o⟩:=h.2 h0;exact⟨D,e,Nat.lt_of_lt_of_le C hl.1,λj u i=>hl.2 _ _ (o j u i)⟩⟩
theorem AtV.le{t:V3}{a:Atm}(h:AtV w t a)(hl:LeW w w'): AtV w' t a:=by
 obtain⟨⟨A,c,e1,e2,e3,e4⟩,Z,ps,B,d,O,J,G,D,C,u⟩:=h;refine⟨⟨A,c,e1,e2,e3,Jxq e4 hl⟩,Z,ps,B,d,O,J,G,D,Jxq C hl,λp hp=>?_⟩;obtain⟨A,c,r1,o,j,i⟩:=u p hp;exact⟨A,c,r1,o,j,Jxq i hl⟩
theorem InF.le{w w':World}{f:Nat}{ds:List Bool}{M:UMem}{cs:List Value}{D Q T:Option Addr}{dc pc tc:Nat}{ts:List TA}(h:InF w f ds M cs D Q T dc pc tc ts)(hl:LeW w w'): InF w' f ds M cs D Q T dc pc tc ts :=
 ⟨h.e,Jxq h.d hl,h.dl,Jxq h.p hl,h.a,h.tl,Jxq h.t hl,λp hp=>(h.at_ p hp).le hl⟩
noncomputable def Ks(N:Nat->Prop)(w:World): World:={ w with heap:=w.heap.mapIdx λk o=>by classical exact if N k then .cells #[] 0 else o }
theorem Jtq(N:Nat->Prop)(w:World): GrN N w (Ks N w):=⟨rfl,rfl,rfl,by simp[Ks],λk i hn=>by simp[Ks,i,hn]⟩
theorem Qms(h:GrN N w W): LeW (Ks N w) W:=by
 refine⟨by have:=h.size;simpa [Ks] using this,λj u o=>?_⟩;have i:j.block<w.heap.size:=by
  rcases Nat.lt_or_ge j.block w.heap.size with h1|h1
  .exact h1
  have:(Ks N w).heap[j.block]?=none:=by simp[Ks,h1]
  simp[World.cell?,this]at o
 by_cases hN:N j.block
 .have:(Ks N w).heap[j.block]?=some (.cells #[] 0):=by simp[Ks,i,hN]
  simp[World.cell?,this]at o
 rw[World.cell?_of_block ((h.block _ i hN).trans ((Jtq N w).block _ i hN).symm)];exact o
theorem Qth(h:Off N w λW=>InC W (Vz f ds M) cs): ∃ D Q T dc pc tc ts,Off N w λW=>InF W f ds M cs D Q T dc pc tc ts:=by
 obtain⟨D,Q,T,dc,pc,tc,ts,j⟩:=(h _ (Jtq N w)).inF;exact⟨D,Q,T,dc,pc,tc,ts,λW i=>j.le (Qms i)⟩
structure UMt(f:Nat)(ds:List Bool)(M:UMem): Prop where
 n:M.N<=24
 m:M.ats.length<=32
 asc:∀ a∈M.ats,Qo a.1
 lt:∀ a∈M.ats,∀ v∈a.1,v<M.N
 pm:PermOk M.N f M.perm
 chk:Gk (Vz f ds M)
theorem Xqs(h:∀ M∈Ms,UOk f M)(hds:ds.length=f)(hne:Ms≠[])(h4:Ms.length<=4): UMt f ds (Xx f Ms):=by
 obtain⟨j,i⟩:=Qbd h hds hne h4;have o:=Jvf (s:=0) h;exact⟨j,by show(jAs f 0 Ms).length<=32;omega,Jlz h,Jct h,Jcp h,i⟩
theorem Xqx(h:f<=M.N): jN f 0 (Ms++[M])=jN f 0 Ms+(M.N-f):=by grind [Gm,Jcr,jN]
theorem Xqw: jPm f 0 (Ms++[M])=jPm f 0 Ms++M.perm.map (ren f (jN f 0 Ms-f)):=by
 rw[Jcq];simp[jPm]
theorem Xqz: jAs f 0 (Ms++[M])=jAs f 0 Ms++M.ats.map (Xj f (jN f 0 Ms-f)):=by
 rw[Jcv];simp[jAs]
structure MtS(N:Nat->Prop)(wC W:World)(base b12 bR n f:Nat)(dv vp va:Value)(ps:List Nat)(ats:List Atm): Prop where
 ex:Ext wC W
 hb:Blk W b12 33 [.int .i64 (n:Int),.int .i64 (f:Int),dv,vp,va]
 op:W.ownsRow base 3 1 vp ps.length (Jt (nz ps))
 oa:OwnM 134 3 AtG (λk=>((k=b12∨k=bR)∨N k)∨vp.ownBlock=some k) W base va ats
 dj:∀ g,va.ownBlock=some g->¬ vp.ownBlock=some g
 b1:wC.heap.size<=b12
 b0:bR<b12
 b2:b12<base
 b3:base<=W.heap.size
 bN:∀ k,N k->k<bR
theorem MtS.ext{N:Nat->Prop}{wC W W':World}{base b12 bR n f:Nat}{dv vp va:Value}{ps:List Nat}{ats:List Atm}(h:MtS N wC W base b12 bR n f dv vp va ps ats)(hx:Ext W W'): MtS N wC W' base b12 bR n f dv vp va ps ats :=
 ⟨h.ex.trans hx,h.hb.ext hx,Jk h.op hx,h.oa.ext hx,h.dj,h.b1,h.b0,h.b2,Nat.le_trans h.b3 hx.size,h.bN⟩
theorem MtS.pf(h:MtS N wC W base b12 bR n f dv vp va ps ats): ∃ A c,vp=.slice A ps.length c/\ps.length<=c/\∀ g,vp.ownBlock=some g->base<=g/\g<W.heap.size:=Jb h.op
theorem MtS.perm{vp':Value}(h:MtS N wC W base b12 bR n f dv vp va ps ats)(ho:W1.ownsRow base 3 1 vp' ps'.length (Jt (nz ps')))(hg:W.grownBy W1 vp.ownBlock)(hn:∀ g,vp'.ownBlock=some g->vp.ownBlock=some g∨W.heap.size<=g):
  MtS N wC (W1.setCell ((⟨b12,0,none⟩:Addr).add 3) vp') base b12 bR n f dv vp' va ps' ats:=by
 obtain⟨_,_,_,_,a3⟩:=Jb h.op;obtain⟨_,_,_,_,a2⟩:=Jb ho;obtain⟨_,_,_,_,G⟩:=h.oa.form;have D:=h.b2;have Z:=h.b1;have o:GrN (λk=>vp.ownBlock=some k) W W1:=GrN.by hg λk u=>u
 have a1:=Jy h.hb o λe=>by grind
 have j:GrN (λk=>k=b12) W1 (W1.setCell ((⟨b12,0,none⟩:Addr).add 3) vp'):=GrN.set _ rfl;have J:=h.oa.other hg hn h.dj;have C:∀ g,va.ownBlock=some g->¬ vp'.ownBlock=some g:=λg O e=>by
  rcases hn g e with i|i
  .exact h.dj g O i
  repeat grind
 refine⟨?_,a1.set 3 _,Je ho j λg e i=>by grind,J.gr (j.mono λk _ u=>.inl (.inl (.inl u))) λg e i=>?_,C,Z,h.b0,D,?_,h.bN⟩
 .exact j.old (o.old h.ex λk u=>by grind) λk u=>by omega
 .rcases i with((i|i)|i)|i
  .grind
  .have:=(G g e).1;have:=h.b0;omega
  .have:=(G g e).1;have:=h.b0;have:=h.bN g i;omega
  exact C g e i
 exact nL h.b3 (nL o.size j.size)
theorem MtS.atom{va':Value}(h:MtS N wC W base b12 bR n f dv vp va ps ats)(ho:OwnM 134 3 AtG (λk=>((k=b12∨k=bR)∨N k)∨vp.ownBlock=some k) W1 base va' ats')(hg:W.grownBy W1 va.ownBlock)(hn:∀ g,va'.ownBlock=some g->va.ownBlock=some g∨W.heap.size<=g):
  MtS N wC (W1.setCell ((⟨b12,0,none⟩:Addr).add 4) va') base b12 bR n f dv vp va' ps ats':=by
 obtain⟨_,_,_,_,a2⟩:=Jb h.op;obtain⟨_,_,_,_,a3⟩:=h.oa.form;obtain⟨_,_,_,_,u⟩:=ho.form;have G:=h.b2;have Z:=h.b1;have o:GrN (λk=>va.ownBlock=some k) W W1:=GrN.by hg λk C=>C
 have a1:=Jy h.hb o λe=>by grind
 have j:GrN (λk=>k=b12) W1 (W1.setCell ((⟨b12,0,none⟩:Addr).add 4) va'):=GrN.set _ rfl;have D:∀ g,va'.ownBlock=some g->¬ vp.ownBlock=some g:=λg O e=>by
  rcases hn g O with i|i
  .exact h.dj g i e
  repeat grind
 have J:=Je h.op o λg e i=>h.dj g i e;refine⟨?_,a1.set 4 _,Je J j λg e i=>by grind,ho.gr (j.mono λk _ C=>.inl (.inl (.inl C))) λg e i=>?_,D,Z,h.b0,G,?_,h.bN⟩
 .exact j.old (o.old h.ex λk C=>by grind) λk C=>by omega
 .rcases i with((i|i)|i)|i
  .grind
  .have:=(u g e).1;have:=h.b0;omega
  .have:=(u g e).1;have:=h.b0;have:=h.bN g i;omega
  exact D g e i
 exact nL h.b3 (nL o.size j.size)
theorem Xbc(n f:Int)(A:Option Addr)(a a':Nat)(w:World): (Instr.build 33 #[(0,.int .i64 n),(1,.int .i64 f),(2,.slice A a a')]).run Tryz.prog w=.ok (.agg #[.int .i64 n,.int .i64 f,.slice A a a',.slice none 0 0,.slice none 0 0]) w:=kr
theorem Qhf(hN:∀ k,N k->k<w.heap.size)(hO:∀ i,i<Ms.length->Off N w λW=>InC W (Vz f ds (Ms.getD i um0)) (xc i))(hI:InsM w A f ds Ms xc)(hU:∀ M∈Ms,UMt f ds M)(hne:Ms≠[])(h3:Ms.length<=3)(hn:jN f 0 Ms<=32)(hlP:(jPm f 0 Ms).length<=1000)(hlA:(jAs f 0 Ms).length<=1000):
  Ret Tryz.prog 14 [.slice A Ms.length c] w λu w'=>Ext w w'/\∃ cs,u=.tuple #[.agg cs.toArray,.int .i64 0]/\Off N w' λW=>InC W (Vz f ds (Xx f Ms)) cs:=by
 have bb:∀ {i},i<Ms.length->UMt f ds (Ms.getD i um0):=λhi=>hU _ (getD_mem' um0 Ms hi);have h0:0<Ms.length:=List.length_pos_iff.2 hne;have ca:∀ i,i<Ms.length->(xc i).length=5:=λi hi=>by
  obtain⟨D,Q,T,dc,pc,tc,ts,h⟩:=(hI.el i hi).inF;rw[h.e];rfl
 have C:∀ {W:World} (hx:Ext w W) {i:Nat} (hi:i<Ms.length) {j:Nat} {u:Value},(xc i)[j]?=some u->W.cell? ((adr A (i*5)).add j)=some u:=λhx i hi j u hu=>by
  have hj:j<5:=by grind
  rw[Xv];exact(hI.rd.ext hx).cell (by rw[Yk ca hi hj];exact hu)
 have fk:f<=32:=by grind [Gm]
 have br:∀ {i},i<Ms.length->(Ms.getD i um0).N<=24/\f<=(Ms.getD i um0).N:=λhi=>⟨(bb hi).n,(bb hi).pm.fn⟩;have cp:∀ {i},i<Ms.length->jN f 0 (Ms.take (i+1))=jN f 0 (Ms.take i)+((Ms.getD i um0).N-f):=λhi=>by grind [Qr,um0,Xqx]
 have em:∀ i,f<=jN f 0 (Ms.take i):=by grind [Gm]
 have g4:∀ i,Ms=Ms.take i++Ms.drop i:=by grind [List.take_append_drop]
 have de:∀ i,jN f 0 (Ms.take i)<=32:=λi=>by grind [Jcr,Gm,jN]
 have ej:∀ i,(jPm f 0 (Ms.take i)).length<=1000:=λi=>by grind [Jcq,List.length_append]
 have ek:∀ i,(jAs f 0 (Ms.take i)).length<=1000:=λi=>by grind [Jcv,List.length_append]
 obtain⟨ag,a9⟩:=id hI;generalize hm:Ms.length=m at ag a9 bb h0 ca C br cp h3 hO ⊢
 refine enE Tryz.func14 Tryz.ntmps14 ?_;refine Jw Vm ?_;intro w1 b2 bl dt e7;refine cfR ?_ ?_
 .grind
 refine cfR ?_ ?_
 .grind
 refine ρ ?_;refine Qs (fun (i:Nat)=>[(0,.slice A m c),(2,.pointer (some ⟨b2,0,none⟩)),(3,.int .i64 0),(26,.slice A m c),(27,.int .i64 (m:Int)),(28,.int .i64 (i:Int))])
  (λi w'=>i<=m/\Ext w1 w') (λi=>m-i) 0 sB ⟨Nat.zero_le _,Ext.refl _⟩ ?_
 rintro i w2 ⟨hi,a1⟩;refine ciR (λh=>?_) (λh=>?_)
 .have li:i<m:=by have:=oT h;omega
  clear h;have o:=bl.trans a1;obtain⟨D,Q,T,dc,pc,tc,ts,hF⟩:=(a9 i li).inF;have a3:=hF.e;refine Qp 5 i (ag.ext o) li ?_;refine Jh (cs:=[.int .i64 ((Ms.getD i um0).N:Int),.int .i64 (f:Int),.slice D ds.length dc,.slice Q (Ms.getD i um0).perm.length pc,.slice T (Ms.getD i um0).ats.length tc]) (λj u hu=>C o li (by rw[a3];exact hu)) ?_;refine Jw Vm ?_;intro w3 b5 cm er f5;refine Qg f5 ?_;intro w4 e3 eo ax;have a7:Ext w2 w4:=ax w2 cm er;refine Ja e3 ?_;refine ρ ?_;have dm:=a9 i li;rw[a3]at dm;have ao:=o.trans a7;have co:=br li;refine cl (Qkz (inp:=Vz f ds (Ms.getD i um0)) ⟨_,rfl,dm.ext ao⟩ (by show _<=((Ms.getD i um0).N:Int)/\((Ms.getD i um0).N:Int)<=_;omega) (by show _<=(f:Int)/\(f:Int)<=_;omega)) ?_;rintro u w5 ⟨au,e,rfl,he⟩;have e0:e=0:=he.2 (bb li).chk;subst e0;refine ρ ?_;exact Qm (i+1) sO ⟨li,(a1.trans a7).trans au⟩ om
 have bo:i=m:=by grind
 clear h bo;obtain⟨D0,Q0,T0,fb,g0,fx,fw,ai⟩:=(a9 0 h0).inF;have o:=bl.trans a1;have ab:Ext w2 w2.drew:=(Ext.refl w2).drew;have J:=o.trans ab;refine drR (scq 15 []) ?_;refine Zu 5 0 (ag.ext J) h0 ?_;refine Jz (C J h0 (j:=1) (by rw[ai.e];rfl)) ?_;refine Zu 5 0 (ag.ext J) h0 ?_;refine Jz (C J h0 (j:=2) (by rw[ai.e];rfl)) ?_;refine Zu 5 0 (ag.ext J) h0 ?_;refine Jz (C J h0 (j:=1) (by rw[ai.e];rfl)) ?_;refine ρd ?_;refine ρ ?_;refine Qs (fun (i:Nat)=>[(0,.slice A m c),(2,.pointer (some ⟨b2,0,none⟩)),(3,.int .i64 0),(7,.int .i64 (f:Int)),(8,.slice D0 ds.length fb),(9,.int .i64 (jN f 0 (Ms.take i):Int)),(51,.slice A m c),(52,.int .i64 (m:Int)),(53,.int .i64 (i:Int))])
  (λi w'=>i<=m/\Ext w1 w') (λi=>m-i) 0 sB ⟨Nat.zero_le _,a1.trans ab⟩ ?_
 clear o ab J a1 w2 hi i;rintro i w2 ⟨hi,a1⟩;refine ciR (λh=>?_) (λh=>?_)
 .have li:i<m:=by have:=oT h;omega
  clear h;have o:=bl.trans a1;obtain⟨D,Q,T,dc,pc,tc,ts,hF⟩:=(a9 i li).inF;have a3:=hF.e;have co:=br li;have ap:=cp li;have dd:=de i;refine Qp 5 i (ag.ext o) li ?_;refine Jh (cs:=[.int .i64 ((Ms.getD i um0).N:Int),.int .i64 (f:Int),.slice D ds.length dc,.slice Q (Ms.getD i um0).perm.length pc,.slice T (Ms.getD i um0).ats.length tc]) (λj u hu=>C o li (by rw[a3];exact hu)) ?_;refine Jw Vm ?_;intro w3 gg cm dv ed;refine Qg ed ?_;intro w4 aj eo ax;have a7:Ext w2 w4:=ax w2 cm dv;have ao:=o.trans a7;refine ldR (aj.at (i:=1) rfl) ?_;refine ρ ?_;refine Go.Wk.kf 61 ?_ ?_
  .simp
  refine ldR (aj.at (i:=2) rfl) ?_;refine clR (Jdk (Rd.ext hF.d ao) (Rd.ext ai.d ao) hF.dl.2) ?_;rintro u w5 ⟨rfl,au⟩;rw[decide_eq_true rfl];have cw:=aj.ext au;refine ldR (cw.at (i:=0) rfl) ?_;refine ρ ?_;have e9:(jN f 0 (Ms.take i):Int)+(((Ms.getD i um0).N:Int)-(f:Int))=(jN f 0 (Ms.take (i+1)):Int):=by rw[ap];omega
  rw[e9];exact Qm (i+1) sO ⟨li,(a1.trans a7).trans au⟩ om
 have bo:i=m:=by grind
 clear h;have bm:Ms.take i=Ms:=List.take_of_length_le om;have o:=bl.trans a1;refine ρ ?_;rw[bm];refine cf ?_ ?_
 .grind
 refine clR (Jnj (Rd.ext ai.d o) (λu hu=>by obtain⟨b,_,rfl⟩:=List.mem_map.1 hu;rfl) (by have:=ai.dl.2;omega)) ?_;rintro u wC ⟨⟨DC,dC,rfl,ep,ew,f2⟩,ck⟩;have e4:=(e7.ext a1).ext ck;have g1:=e7.lt;have fe:=a1.size;have fd:=ck.size;have b4:=o.trans ck;refine Xh (Xbc _ _ _ _ _ _) ?_;refine Jw Vm ?_;intro w4 Z ax ba ec;refine Qg ec ?_;intro w5 bf g8 au;have c2:Ext wC w5:=au wC ax ba;have eu:MtS N wC w5 w5.heap.size Z b2 (jN f 0 Ms) f (.slice DC ds.length dC) (.slice none 0 0) (.slice none 0 0) [] [] :=
  ⟨c2,bf,Zd _ _ _ _,OwnM.nil _ _,λg e=>by simp[Value.ownBlock]at e,ba,om,bf.lt,Nat.le_refl _,λk hk=>nM (hN k hk) dt⟩
 refine ρ ?_;refine Jxg (fun (i s:Nat) (vp va:Value)=>[(0,.slice A m c),(2,.pointer (some ⟨b2,0,none⟩)),(3,.int .i64 0),(7,.int .i64 (f:Int)),(12,.pointer (some ⟨Z,0,none⟩)),(13,.int .i64 (s:Int)),(84,.slice A m c),(85,.int .i64 (m:Int)),(86,.int .i64 (i:Int))])
  (λi s vp va w'=>i<=m/\s=jN f 0 (Ms.take i)-f/\MtS N wC w' w5.heap.size Z b2 (jN f 0 Ms) f (.slice DC ds.length dC) vp va (jPm f 0 (Ms.take i)) ((jAs f 0 (Ms.take i)).map toAtm)) (λi _ _ _=>m-i) 0 0 (.slice none 0 0) (.slice none 0 0) sB ⟨Nat.zero_le _,by show 0=f+0-f;omega,eu⟩ ?_
 clear a1 bo bm o hi i;rintro i s vp va w6 ⟨hi,hs,hS⟩;have an:Ext w w6:=b4.trans hS.ex;refine ciR (λh=>?_) (λh=>?_)
 .have li:i<m:=by have:=oT h;omega
  clear h;obtain⟨D,Q,T,dc,pc,tc,ts,cv⟩:=Qth (hO i li);have hF:=cv.here;have a3:=hF.e;have co:=br li;have ap:=cp li;have dd:=de i;have fi:=em i;obtain⟨M,hM⟩:∃ M,M=Ms.getD i um0:=⟨_,rfl⟩;rw[<-hM]at hF cv a3 co ap;have av:UMt f ds M:=by rw[hM];exact bb li
  have e1:Ms.take (i+1)=Ms.take i++[M]:=by grind [Qr,um0]
  refine Qp 5 i (ag.ext an) li ?_;refine Jh (cs:=[.int .i64 (M.N:Int),.int .i64 (f:Int),.slice D ds.length dc,.slice Q M.perm.length pc,.slice T M.ats.length tc]) (λj u hu=>C an li (by rw[a3];exact hu)) ?_;refine Jw Vm ?_;intro w7 aw bj b9 eb;refine Qg eb ?_;intro w8 be g7 eh;have c3:Ext w6 w8:=eh w6 bj b9;have dx:=hS.ext c3;have d5:=an.trans c3;have ab:Ext w8 w8.drew:=(Ext.refl w8).drew;have bq:=dx.ext ab;have e2:=be.ext ab;have J:=d5.trans ab;obtain⟨PA,d1,rfl,fh,bn⟩:=hS.pf;have g2:=be.lt;refine ρ ?_;refine drN (λk=>(Value.slice PA (jPm f 0 (Ms.take i)).length d1).ownBlock=some k) 10 (scq 10 [6,7,109]) kr ?_;have ba:=bq.b2;have d2:¬ (Value.slice PA (jPm f 0 (Ms.take i)).length d1).ownBlock=some Z:=λe=>by have:=(bn _ e).1;omega
  have ga:=hS.b3;have fz:=bj.size;refine ρn ?_;refine nld (Jr (bq.hb.at (i:=3) rfl) d2) ?_;refine ρn ?_;refine nld (Jr (e2.at (i:=3) rfl) (λe=>by grind [Ud])) ?_;refine ρn ?_;refine nop ?_;have g5:M.perm.length<=24:=by have:=av.pm.len;omega
  refine cl (Qjp (f:=f) (s:=s) (vs:=M.perm) (Rd.ext hF.p J) om (λv hv=>by have:=av.pm.rng v hv;omega) om om) ?_;rintro u w9 ⟨B,rfl,b6,bi⟩;have bc:=bq.ext bi;refine ρ ?_;refine Ju (GrN.ext bi) ?_;refine ρn ?_;refine nop ?_;have dz:=Rd.own b6;have d9:jPm f 0 (Ms.take (i+1))=jPm f 0 (Ms.take i)++M.perm.map (ren f s):=by rw[e1,Xqw,<-hs]
  have fg:=ej i;refine apb (m':=M.perm.length) (news:=Jt (nz (M.perm.map (ren f s)))) EI bc.op dz (λu hu=>by obtain⟨z,_,rfl⟩:=List.mem_map.1 hu;rfl) (by unfold maxLen;omega) om bc.b3 ?_;intro eg cj c6 a8 c8;have ah:cj.ownsRow w5.heap.size 3 1 eg (jPm f 0 (Ms.take (i+1))).length (Jt (nz (jPm f 0 (Ms.take (i+1))))):=by
   rw[d9,List.length_append,List.length_map,Qxh,Qkr];exact c6
  obtain⟨ef,d0,rfl,_,da⟩:=Jb ah;have ce:=bc.perm ah a8 c8;have bg:=Jy bc.hb (GrN.by a8 λk hk=>hk) d2;refine ρ ?_;refine Ju (GrN.by a8 λk hk=>hk) ?_;refine ρn ?_;refine Xu ?_;refine sto (bg.at (i:=3) rfl) (bg.frozen 3) ?_;generalize hw11:cj.setCell ((⟨Z,0,none⟩:Addr).add 3) _=w11 at ce ⊢
  have bp:GrN (λk=>k=Z) cj w11:=by rw[<-hw11];exact GrN.set _ rfl
  have fy:w6.heap.size<=aw:=b9;have a6:Blk w11 aw 33 [.int .i64 (M.N:Int),.int .i64 (f:Int),.slice D ds.length dc,.slice Q M.perm.length pc,.slice T M.ats.length tc] :=
   Jy (Jy (e2.ext bi) (GrN.by a8 λk hk=>hk) λe=>by have h1:=(bn _ e).2;omega) bp om
  refine Jl (Uu ?_);refine ρn ?_;refine ldR (a6.at (i:=4) rfl) ?_;have b8:∀ g,va.ownBlock=some g->g≠aw:=λg e=>by
   obtain⟨_,_,_,_,aa⟩:=hS.oa.form;have:=(aa g e).2;omega
  refine ρ ?_;refine Jo (fun (j:Nat) (va:Value)=>[(0,.slice A m c),(2,.pointer (some ⟨b2,0,none⟩)),(3,.int .i64 0),(7,.int .i64 (f:Int)),(12,.pointer (some ⟨Z,0,none⟩)),(13,.int .i64 (s:Int)),(15,.pointer (some ⟨aw,0,none⟩)),(84,.slice A m c),(85,.int .i64 (m:Int)),(86,.int .i64 (i:Int)),(100,.slice T M.ats.length tc),(101,.int .i64 (M.ats.length:Int)),(102,.int .i64 (j:Int))])
   (λj va w'=>j<=M.ats.length/\Blk w' aw 33 [.int .i64 (M.N:Int),.int .i64 (f:Int),.slice D ds.length dc,.slice Q M.perm.length pc,.slice T M.ats.length tc]/\(∀ g,va.ownBlock=some g->g≠aw) /\
    MtS N wC w' w5.heap.size Z b2 (jN f 0 Ms) f (.slice DC ds.length dC) (.slice ef (jPm f 0 (Ms.take (i+1))).length d0) va (jPm f 0 (Ms.take (i+1))) ((jAs f 0 (Ms.take i)++(M.ats.take j).map (Xj f s)).map toAtm)) (λj _=>M.ats.length-j) 0 va sB
   ⟨Nat.zero_le _,a6,b8,by grind⟩ ?_
  clear ce bp hw11 bg da c8 a8 ah c6 bc b6 dz bi a6 b8 va hS dx bq;rintro j va cy ⟨hj,a5,dn,O⟩;have af:=b4.trans O.ex;refine ciR (λh=>?_) (λh=>?_)
  .have lj:j<M.ats.length:=by have:=oT h;omega
   clear h;obtain⟨ta,d8⟩:∃ ta,ta=ts.getD j ta0:=⟨_,rfl⟩;have d7:ta∈ts:=by rw[d8];exact getD_mem' ta0 ts (by rw[hF.tl];exact lj)
   obtain⟨a,ha⟩:∃ a,a=M.ats.getD j pa0:=⟨_,rfl⟩;have cr:a∈M.ats:=by grind [getD_mem',pa0]
   have c4:ta.2=toAtm a:=by
    have h1:=congrArg (λl=>l[j]?) hF.a;grind
   have ee:=hF.at_ ta d7;rw[c4]at ee;obtain⟨⟨t1,t2,t3⟩,a2⟩:=ta;obtain⟨di,dh,df⟩:=ee;simp only at di dh df;obtain⟨VA,vd,rfl,_,g3,et⟩:=IntsV.n (l:=a.1) di;obtain⟨G,gl,gc,rfl⟩:∃ G gl gc,t3=.slice G gl gc:=by obtain⟨ps,G,gc,_,e,_⟩:=id df;exact⟨G,_,gc,e⟩
   have dg:t2=.int .i64 (a.1.length:Int):=dh;subst dg;have g6:=av.m;have gb:a.1.length<=24:=Jhz 24 ((av.asc a cr).imp λh=>Nat.ne_of_lt h) λv hv=>by have:=av.lt a cr v hv;omega
   refine Qp 3 j (hF.t.ext af) lj ?_;refine Jh (cs:=[.slice VA a.1.length vd,.int .i64 (a.1.length:Int),.slice G gl gc]) (λq u hu=>Jkg (hF.t.ext af) hF.tl lj (by rw[<-d8];exact hu)) ?_;refine Jw Yr ?_;intro fu fc d4 du ea;refine Qg ea ?_;intro bh bs fj d3;have am:Ext cy bh:=d3 cy d4 du;have a3:Ext bh bh.drew:=(Ext.refl bh).drew;have cd:=(O.ext am).ext a3;have bd:=bs.ext a3;have ae:=am.trans a3;have az:=af.trans ae;obtain⟨AA,ac,f8,ge,aa⟩:=O.oa.form;subst f8;have fl:=O.b3;have dq:=O.b2;have c1:∀ g,(Value.slice AA ((jAs f 0 (Ms.take i)++(M.ats.take j).map (Xj f s)).map toAtm).length ac).ownBlock=some g->g≠Z:=by grind
   have bz:∀ g,(Value.slice AA ((jAs f 0 (Ms.take i)++(M.ats.take j).map (Xj f s)).map toAtm).length ac).ownBlock=some g->g≠fc:=by grind
   refine ρ ?_;refine drN (λk=>(Value.slice AA ((jAs f 0 (Ms.take i)++(M.ats.take j).map (Xj f s)).map toAtm).length ac).ownBlock=some k) 10 [(0,0),(0,1),(0,2),(0,3),(0,4),(0,5),(0,7),(0,8),(1,6),(0,9),(1,10),(1,11),(0,12),(2,13)] kr ?_;refine ρn ?_;refine nld (Jr (cd.hb.at (i:=4) rfl) λe=>c1 _ e rfl) ?_;refine ρn ?_;refine nld (Jr (bd.at (i:=0) rfl) λe=>bz _ e rfl) ?_;refine ρn ?_;refine Zh (cs:=[.int .i64 (a.1.length:Int),.slice G gl gc]) (λw' hg q u hu=>Blk.at2 (i:=1) (Jy bd hg λe=>bz _ e rfl) (by rw[Nat.add_comm];exact hu)) ?_;refine ρn ?_;refine nop ?_;refine cl (Qjp (f:=f) (s:=s) (vs:=a.1) (et.ext az) om (λv hv=>by have:=av.lt a cr v hv;omega) om om) ?_;rintro u ft ⟨B,rfl,b6,ay⟩;refine ρ ?_;refine Ju (GrN.ext ay) ?_;refine ρn ?_;refine Jjb (λw=>Jdt _ _ _ _ _ _ _ w) ?_;refine ρn ?_;refine nop ?_;refine bsl (λw=>Jyd _ _ _ B G _ _ _ gc _ rfl rfl rfl w) ?_
   intro cx gf ak fq e8;refine ρ ?_;refine Ju (GrN.ext ak) ?_;refine nop ?_;have aq:=(cd.ext ay).ext ak;have a4:=ay.trans ak;have cn:=Jk b6 ak;obtain⟨_,_,eB,_,f4⟩:=Jb b6;obtain⟨_,_,_,_,c5⟩:=Jb O.op;have ff:=ae.size;have dw:toAtm (Xj f s a)=⟨nz (a.1.map (ren f s)),a.1.length,a.2⟩:=by simp[toAtm,Xj]
   have hΦ:Off (λk=>(((k=Z∨k=b2)∨N k)∨(Value.slice ef (jPm f 0 (Ms.take (i+1))).length d0).ownBlock=some k)∨(Value.slice AA ((jAs f 0 (Ms.take i)++(M.ats.take j).map (Xj f s)).map toAtm).length ac).ownBlock=some k) cx (λu=>AtG u [.slice B a.1.length a.1.length,.int .i64 (a.1.length:Int),.slice G gl gc] (toAtm (Xj f s a))):=by
    intro W hW;have h1:=Je cn hW λg e h=>by
     have:=(f4 g e).1;rcases h with(((h|h)|h)|h)|h
     .omega
     .omega
     .have:=hN g h;have:=az.size;omega
     .have:=(c5 g h).2;omega
     have:=(aa g h).2;omega
    have h2:GrN N w W:=((GrN.ext (az.trans a4)).trans hW).mono λk hk h=>by
     have:=b4.size;have:=c2.size;have:=O.b1;rcases h with(((h|h)|h)|h)|h
     .omega
     .omega
     .exact h
     .have:=(c5 k h).1;omega
     have:=(aa k h).1;omega
    rw[dw];refine⟨(.slice B a.1.length a.1.length,.int .i64 (a.1.length:Int),.slice G gl gc),rfl,⟨B,a.1.length,by rw[Qk,List.length_map],by rw[Qk,List.length_map];exact nR _,by rw[Qk,List.length_map];omega,by rw[Qk,List.length_map];exact Rd.own h1⟩,rfl,?_⟩;have h3:=(cv W h2).at_ _ d7;rw[c4]at h3;exact h3.2.2
   refine apM EA (Φ:=AtG) aq.oa e8 rfl (Ij rfl) hΦ ?_ om aq.b3 ?_
   .have h1:=ek i;rw[List.length_map,List.length_append,List.length_map,List.length_take];omega
   intro cz ch cg cb c7;have cc:=aq.atom cg cb c7;obtain⟨A9,c9,f9,g9,fr⟩:=cg.form;have b7:GrN (λk=>(Value.slice AA ((jAs f 0 (Ms.take i)++(M.ats.take j).map (Xj f s)).map toAtm).length ac).ownBlock=some k) cx ch:=GrN.by cb λk hk=>hk
   have ar:=Jy aq.hb b7 λe=>c1 _ e rfl;refine ρ ?_;refine Ju b7 ?_;refine ρn ?_;refine Xu ?_;refine sto (ar.at (i:=4) rfl) (ar.frozen 4) ?_ (hv:=by rw[f9];rfl);generalize hw19:ch.setCell ((⟨Z,0,none⟩:Addr).add 4) cz=w19 at cc ⊢
   have bp:GrN (λk=>k=Z) ch w19:=by rw[<-hw19];exact GrN.set _ rfl
   have bw:=Jy (Jy ((a5.ext ae).ext a4) b7 λe=>dn _ e rfl) bp om;refine Jl (Uu ?_);refine ρn ?_;refine ρ ?_;refine Jf (j+1) cz sO ⟨lj,bw,λg e=>?_,?_⟩ om
   .rcases c7 g e with h1|h1
    .exact dn g h1
    have:=a5.lt;have:=a4.size;omega
   have e:(jAs f 0 (Ms.take i)++(M.ats.take (j+1)).map (Xj f s)).map toAtm=(jAs f 0 (Ms.take i)++(M.ats.take j).map (Xj f s)).map toAtm++[toAtm (Xj f s a)]:=by
    rw[Qr pa0 lj,<-ha];simp
   rw[e];exact cc
  have db:j=M.ats.length:=by have:=oF h;omega
  clear h;have f6:(jAs f 0 (Ms.take i)++(M.ats.take j).map (Xj f s)).map toAtm=(jAs f 0 (Ms.take (i+1))).map toAtm:=by
   rw[e1,Xqz,<-hs,db,List.take_length]
  rw[f6]at O;refine ldR (a5.at (i:=0) rfl) ?_;refine ρ ?_;have fa:(s:Int)+((M.N:Int)-(f:Int))=((s+(M.N-f):Nat):Int):=om
  rw[fa];exact Ka (i+1) (s+(M.N-f)) _ va sO ⟨li,by rw[ap];omega,O⟩ om
 have bo:i=m:=by have:=oF h;omega
 clear h;have bm:Ms.take i=Ms:=List.take_of_length_le om;rw[bm]at hS;obtain⟨PA,pd,rfl,ei,bn⟩:=hS.pf;obtain⟨AA,ad,rfl,gd,aa⟩:=hS.oa.form;refine Ja hS.hb ?_;have e6:Blk w6 b2 33 [.int .i64 0,.int .i64 0,.slice none 0 0,.slice none 0 0,.slice none 0 0]:=e4.ext hS.ex;refine Qg e6 ?_;intro w7 e5 en bj;have d6:Ext w w7:=bj w an dt;have dk:GrN (λk=>k=b2) w6 w7:=GrN.by en λj hj=>by injection hj with hj;exact hj.symm
 have dq:=hS.b2;have fo:=hS.b1;have fp:=hS.b0;have ez:Off N w7 λW=>InC W (Vz f ds (Xx f Ms)) [.int .i64 (jN f 0 Ms:Int),.int .i64 (f:Int),.slice DC ds.length dC,.slice PA (jPm f 0 Ms).length pd,.slice AA ((jAs f 0 Ms).map toAtm).length ad]:=λW hW=>by
  have cq:GrN (λk=>k=b2∨N k) w6 W:=(dk.mono λk _ h=>.inl h).trans (hW.mono λk _ h=>.inr h);have f0:∀ {k},(k=b2∨N k)->k<Z:=λh=>h.elim (λh=>om) λh=>by have:=hS.bN _ h;omega
  have f3:Rd W 1 DC ds.length (ds.map Value.bool):=Iu (ew.ext hS.ex) (λh0 ad e he=>by
   have h1:=f2 ad e;rcases he with he|he
   .omega
   have:=hS.bN _ he;omega) W cq
  have ey:=Je hS.op cq λg e h=>by have:=(bn g e).1;have:=f0 h;omega
  have f7:=hS.oa.gr (cq.mono λk _ h=>.inl (h.elim (λh=>.inl (.inr h)) .inr)) λg e h=>by
   rcases h with((h|h)|h)|h
   .have:=(aa g e).1;omega
   .have:=(aa g e).1;omega
   .have:=(aa g e).1;have:=hS.bN _ h;omega
   exact hS.dj g e h
  refine⟨_,_,_,rfl,⟨DC,dC,rfl,ep,ai.dl.2,f3⟩,⟨PA,pd,?_,?_,?_,?_⟩,Jfb (f7.gv (by rw[List.length_map];omega))⟩
  .show _=Value.slice PA (nz (jPm f 0 Ms)).length pd;rw[Qk]
  .show(nz (jPm f 0 Ms)).length<=pd;rw[Qk];exact ei
  .show(nz (jPm f 0 Ms)).length<=1100000;rw[Qk];omega
  show Rd W 1 PA (nz (jPm f 0 Ms)).length (Jt (nz (jPm f 0 Ms)));rw[Qk];exact Rd.own ey
 refine ρ ?_;exact Zk e5 ⟨d6,_,rfl,ez⟩
theorem Qhc(hI:InsM w A f ds Ms xc)(hU:∀ M∈Ms,UMt f ds M)(hne:Ms≠[])(h3:Ms.length<=3)(hn:jN f 0 Ms<=32)(hlP:(jPm f 0 Ms).length<=1000)(hlA:(jAs f 0 Ms).length<=1000):
  Ret Tryz.prog 14 [.slice A Ms.length c] w λu w'=>Ext w w'/\∃ cs,u=.tuple #[.agg cs.toArray,.int .i64 0]/\InC w' (Vz f ds (Xx f Ms)) cs:=by
 refine(Qhf (N:=λ_=>False) (λk h=>h.elim) (λi hi W j=>(hI.el i hi).ext j.toExt) hI hU hne h3 hn hlP hlA).mono ?_;rintro u w' ⟨C,cs,rfl,o⟩;exact⟨C,cs,rfl,o.here⟩
open Go.RowKit Pl Go.Wk _root_.Go.Proofs.Tryz
variable {f mc:Nat}{MA:Option Addr}{D:UD}{w w':World}
theorem Kq: Qu prog 47=some (.agg #[.int .i64 0,.int .i64 0,.slice none 0 0,.slice none 0 0,.slice none 0 0]):=kr
theorem Xyn(k f:Int)(A B C:Option Addr)(a b c a' b' c':Nat)(w:World): (Instr.build 47 #[(0,.int .i64 k),(1,.int .i64 f),(2,.slice A a a'),(3,.slice B b b'),(4,.slice C c c')]).run prog w=.ok (.agg #[.int .i64 k,.int .i64 f,.slice A a a',.slice B b b',.slice C c c']) w:=kr
def SF.bv(ds:List Bool): SF:=⟨λv w=>BoolsV w v ds,λh hx=>h.ext hx⟩
theorem noN(h:Ext w w'): GrN (λ_=>False) w w':=GrN.ext h
structure PreU(w:World)(D:UD)(MA:Option Addr): Prop where
 rd:Rd w 5 MA D.n (Qy D.n D.xc)
 ix:∀ i,i<D.n->IxA w (.agg (D.xc i).toArray) D.f D.ds (D.kf i) (D.pf i) (D.BB i) (D.tot i) (D.M (i+1))
 up:UnP D.k D.f D.ds D.M D.U
 hm:∀ i,i<D.n->Ql D.f (λv=>hmB (D.BB i v))<=D.Hm
 hl:D.Hm<=10000000
 ml:∀ s,(D.M s).length<=5000
theorem PreU.ext{w w':World}{D:UD}{MA:Option Addr}(h:PreU w D MA)(hx:Ext w w'): PreU w' D MA:=⟨h.rd.ext hx,λi hi=>(h.ix i hi).ext hx,h.up,h.hm,h.hl,h.ml⟩
theorem PreU.x5(h:PreU w D MA): ∀ i,i<D.n->∃ A B C D' E a b c' d e a' b' c2 d' e',D.xc i=[.slice A a a',.slice B b b',.slice C c' c2,.slice D' d d',.slice E e e']:=λi hi=>by
 obtain⟨DA,Z,BA,cb,KA,ck,G,cp,J,u,o,e,_,_,_,_,_,_,j,_⟩:=(h.ix i hi).ix.ex;obtain⟨TA,O,rfl,_⟩:=j;grind
theorem Qws{xc:Nat->List Value}: ∀ n,(∀ i,i<n->∃ A B C D' E a b c' d e a' b' c2 d' e',xc i=[.slice A a a',.slice B b b',.slice C c' c2,.slice D' d d',.slice E e e'])->∀ u∈Qy n xc,u.oneCell'=true
 | 0,_,u,hu=>by cases hu
 | n+1,h,u,hu=>by
  rw[Ky,List.mem_append]at hu;rcases hu with hu|hu
  .exact Qws n (λi hi=>h i om) u hu
  obtain⟨A,B,C,D',E,a,b,c',d,e,a',b',c2,d',e',hx⟩:=h n om;rw[hx]at hu;simp only[List.mem_cons,List.not_mem_nil,or_false]at hu;rcases hu with rfl|rfl|rfl|rfl|rfl<;>rfl
theorem Qtj{x:Value}{ds:List Bool}{kf:Nat->Nat}{pf:Nat->Int}{BB:Nat->List BkT}{tot:Nat}{L:List Row}(h:IxA w x f ds kf pf BB tot L):
  Ret prog 68 [x] w λu w'=>NatV w' u L.length/\Ext w w':=by
 obtain⟨DA,dc,BA,cb,KA,ck,J,cp,tv,D,C,rfl,_⟩:=id h.ix.ex;refine enE func68 ntmps68 ?_;refine bxR ?_;intro Z b i hb G;refine Ja G ?_;refine clR (Jmb (h.ix.ext i) h.ip.nbT) ?_;rintro u O ⟨o,_,j⟩;refine ρ ?_;rw[h.ip.len]at o;exact Jj ⟨o,i.trans j⟩
theorem Jrx(hP:PreU w D MA):
  Ret prog 17 [.int .i64 (D.k:Int),.slice MA D.n mc] w λu w'=>Ext w w'/\∃ DA dc NA nc SA sl sc,u=.tuple #[.agg #[.int .i64 (D.k:Int),.int .i64 (D.f:Int),.slice DA D.f dc,.slice NA D.n nc,.slice SA sl sc],.int .i64 0]/\D.f<=dc/\D.ds.length=D.f /\
   Off (λk=>k<w.heap.size) w' λW=>RdB W DA D.ds/\Rd W 5 NA D.n (Qy D.n D.xc)/\NatV W (.slice SA sl sc) D.U.length:=by
 have b2:=hP.up.k1;have b1:=hP.up.k3;have a1:1<=D.n:=by
  have:=Nat.pow_le_pow_right (show 0<2 by omega) b2;unfold UD.n;omega
 have az:D.n<=7:=by
  have:=Nat.pow_le_pow_right (show 0<2 by omega) b1;unfold UD.n;omega
 have ac:∀ i,i<D.n->(D.xc i).length=5:=λi hi=>by obtain⟨A,B,C,D',E,a,b,c',d,e,a',b',c2,d',e',h⟩:=hP.x5 i hi;rw[h];rfl
 have a2:∀ {W:World} (hx:Ext w W) {i:Nat} (hi:i<D.n) {j:Nat} {u:Value},(D.xc i)[j]?=some u->W.cell? ((adr MA (i*5)).add j)=some u:=λhx i hi j u hu=>by
  have hj:j<5:=by
   rcases Nat.lt_or_ge j 5 with h'|h'
   .exact h'
   rw[List.getElem?_eq_none (by rw[ac i hi];omega)]at hu;cases hu
  rw[Xv];exact(hP.rd.ext hx).cell (by rw[Yk ac hi hj];exact hu)
 have b7:∀ {i},i<D.n->D.ds.length=D.f/\D.f<=32:=λhi=>⟨(hP.ix _ hi).ix.dl,(hP.ix _ hi).ip.f32⟩;have ap:IntKind.i64.wrap (1*2^min ((D.k:Int)).toNat IntKind.i64.bits)=((D.n+1:Nat):Int):=by
  have:D.k=1∨D.k=2∨D.k=3:=om
  unfold UD.n;rcases this with h|h|h<;>rw[h]<;>rfl
 refine enE func17 ntmps17 ?_;refine Jw Kq ?_;intro w1 b4 ah ba aw;refine ρ ?_;refine Go.Wk.kf 13 ?_ ?_
 .exact dF om
 refine cfR ?_ ?_
 .exact dF om
 refine ρ ?_;refine Jxd rfl rfl om rfl ?_;refine Go.Wk.kv 21 (congrArg (Value.int .i64) ap) ?_;refine cfR ?_ ?_
 .exact bne_eq_false_iff_eq.2 om
 obtain⟨A,B,C,D',E,a,b,c',d,e,a',b',c2,d',e',O⟩:=hP.x5 0 a1;have ak:Ext w1 w1.drew:=(Ext.refl w1).drew;have J:=ah.trans ak;have a4:=(hP.ix 0 a1).ext J;rw[O]at a4;obtain⟨ae,bl⟩:=b7 a1;refine ρ ?_;refine drH (λ_=>false) ?_;refine Zr (fuel':=4) 14 [(0,0),(0,1),(0,2),(0,4),(0,5),(0,6)] #[true,true,true,false,true,true,true,false,false,false] kr kr rfl ?_;refine Zu 5 0 (hP.rd.ext J) a1 ?_;refine Qf (cs:=[.slice A a a',.slice B b b',.slice C c' c2,.slice D' d d',.slice E e e']) (λj u hu=>a2 J a1 (by rw[O];exact hu)) ?_;refine Zu 5 0 (hP.rd.ext J) a1 ?_;refine Qf (cs:=[.slice A a a',.slice B b b',.slice C c' c2,.slice D' d d',.slice E e e']) (λj u hu=>a2 J a1 (by rw[O];exact hu)) ?_;refine ρd ?_;refine Xa ?_;refine hmkS 14 2 _ (lst 10 8) [3,7] [28,32] [SF.eq (.int .i64 (D.f:Int)),SF.bv D.ds] kr (by rfl) ?_ ?_
 .refine gsc (λvs v1 a7 hd=>?_) ?_
  .simp only[slM];refine cl (Jcw (a4.ext a7).ix) ?_;rintro u v2 ⟨rfl,ag⟩;exact Jl (Zf ag rfl)
  refine gsc (λvs v1 a7 hd=>?_) gse
  simp only[slM];refine cl (Qkk (a4.ext a7).ix) ?_;rintro u v2 ⟨hu,ag⟩;exact Jl (Zf ag hu)
 intro vs w2 a7 hd;have e0:vs 0=_:=hd 0;obtain⟨FA,fc,e1,c4,c3,au⟩:=hd 1;simp only[slM,e0,e1];refine Zr (fuel':=0) 14 [(0,8),(0,9)] (lst 10 10) kr kr rfl ?_;refine ρd ?_;refine Xa ?_;refine Yx kr ?_;have a3:=ak.trans a7;have an:=ah.trans a3;refine ρ ?_;refine Qs (fun (i:Nat)=>[(0,.int .i64 (D.k:Int)),(1,.slice MA D.n mc),(4,.pointer (some ⟨b4,0,none⟩)),(5,.int .i64 0),(6,.int .i64 (D.f:Int)),(7,.slice FA D.ds.length fc),(33,.slice MA D.n mc),(34,.int .i64 (D.n:Int)),(35,.int .i64 (i:Int))])
  (λi w'=>i<=D.n/\Ext w2 w') (λi=>D.n-i) 0 sB ⟨Nat.zero_le _,Ext.refl _⟩ ?_
 rintro i w3 ⟨hi,a6⟩;have o:=an.trans a6;refine ciR (λh=>?_) (λh=>?_)
 .have li:i<D.n:=by have:=oT h;omega
  clear h O a4;obtain⟨A,B,C,D',E,a,b,c',d,e,a',b',c2,d',e',O⟩:=hP.x5 i li;have aj:=hP.ix i li;rw[O]at aj;refine Qp 5 i (hP.rd.ext o) li ?_;refine Jh (cs:=[.slice A a a',.slice B b b',.slice C c' c2,.slice D' d d',.slice E e e']) (λj u hu=>a2 o li (by rw[O];exact hu)) ?_;refine Jw Jjq ?_;intro w4 b9 a5 b8 bh;refine Qg bh ?_;intro w5 af c1 Z;have a8:Ext w3 w5:=Z w3 a5 b8;have aa:=o.trans a8;refine Ja af ?_;refine clR (Jcw (aj.ext aa).ix) ?_;rintro u w6 ⟨rfl,G⟩;have av:=af.ext G;refine ρ ?_;refine Go.Wk.kf 43 ?_ ?_
  .simp
  refine Ja av ?_;refine clR (Qkk (aj.ext (aa.trans G)).ix) ?_;rintro u w7 ⟨⟨GA,gc,rfl,bz,b3,bf⟩,a9⟩;refine clR (Jdk bf (au.ext (((a6.trans a8).trans G).trans a9)) b3) ?_;rintro u w8 ⟨rfl,ax⟩;rw[decide_eq_true rfl];refine ρ ?_;exact Qm (i+1) sO ⟨li,(((a6.trans a8).trans G).trans a9).trans ax⟩ om
 clear h;refine ρ ?_;have ao:=hP.up.total;refine cl (Jbk (S:=λ_=>False) (I:=λ_ _=>True) (c:=λs=>(D.M s).length) (cap:=[]) hP.x5 az (λk hk=>hk.elim) (λW hW=>(hP.rd.ext o).ext hW.toExt) (λi=>by have:=hP.ml i;omega) trivial (λ_ _ _ _ _=>trivial) (λi hi W hW _=>?_)) ?_
 .refine(Qtj ((hP.ix i hi).ext (o.trans hW.toExt))).mono ?_;rintro u W' ⟨h1,h2⟩;exact⟨⟨h1,λ_ _ _ _ _ h=>h⟩,noN h2,trivial⟩
 rintro sv w4 ⟨ai,ay,b6,_⟩;have a5:=b6.toExt;have ab:=o.trans a5;rw[show sgP (λs=>(D.M s).length) D.n-sgM (λs=>(D.M s).length) D.n=D.U.length by rw[show D.n=2^D.k-1 from rfl,ao];omega]at ai;refine clR (Jnj (au.ext (a6.trans a5)) (λu hu=>by obtain⟨b,_,rfl⟩:=List.mem_map.1 hu;rfl) om) ?_;rintro u w5 ⟨⟨DC,dC,rfl,c5,bc,bg⟩,Z⟩;refine clR (Xvq (hP.rd.ext (ab.trans Z)) (Qws _ hP.x5) om) ?_;rintro u w6 ⟨⟨NA,nc,rfl,bw,bb,be⟩,G⟩;obtain⟨SA,sc,rfl,bs,c6,c7⟩:=id ai;refine Xh (Xyn _ _ _ _ _ _ _ _ _ _ _ _) ?_;refine Qg (((aw.ext a3).ext (a6.trans a5)).ext (Z.trans G)) ?_;intro w7 bi b5 a9;have br:=aw.lt;have bq:=a3.size;have bp:=a6.size;have bo:=a5.size;have bn:=Z.size;have aq:GrN (λk=>k=b4) w6 w7:=GrN.by b5 λj hj=>by injection hj with hj;exact hj.symm
 have am:Ext w w7:=a9 w ((ab.trans Z).trans G) ba;have ar:D.f<=dC:=om
 have bm:=ah.size;have bj:=a3.size;have bd:Off (λk=>k<w.heap.size∨k=b4) w6 λW=>RdB W DC D.ds/\Rd W 5 NA D.n (Qy D.n D.xc)/\NatV W (.slice SA (Jq D.U.length).length sc) D.U.length:=λW hW=>
  ⟨Iu (bc.ext G) (λh0 ad e he=>by have:=bg ad e;omega) W hW,Iu bb (λh0 ad e he=>by have:=be ad e;omega) W hW,
   (NatX.gr (N:=λk=>k<w.heap.size∨k=b4) ⟨(ai.ext Z).ext G,λ_ ad m c e he=>by have:=ay ad m c e;omega⟩ hW).1⟩
 refine ρ ?_;refine Zk bi ⟨am,DC,dC,NA,nc,SA,_,sc,by rw[ae],ar,ae,λW hW=>bd W ((aq.mono λk _ h=>.inr h).trans (hW.mono λk _ h=>.inl h))⟩
end Go.Proofs.YtgobkbeokaaplaaGreatDoor
