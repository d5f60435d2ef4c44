/- Part 22 of the proof: Run. -/
import Derived.Test.YtefpailelagbkaaGreatDoorJ21
set_option linter.unusedVariables false
set_option maxRecDepth 100000
set_option maxHeartbeats 40000000
namespace Go.Proofs.YtefpailelagbkaaGreatDoor
open Go.RowKit Pl Go.Wk
attribute [local irreducible] WC WL QX WD WDB WP WN
theorem EIt: ElT Tryz.prog 273 279 1 8 (.pointer none):=⟨Tryz.underlying273,info_parts (by kernel_rfl),rfl,by decide⟩
theorem EIts: ElT Tryz.prog 270 273 1 24 (.slice none 0 0):=⟨Tryz.underlying270,info_parts (by kernel_rfl),rfl,by decide⟩
theorem Xcp(p:Option Addr)(w:World): (Instr.buildSlice 273 1 #[(0,.pointer p)]).run Tryz.prog w=.ok (.slice (some ⟨w.heap.size,0,none⟩) 1 1) (w.alloc (.cells [.pointer p].toArray 279)):=by kernel_rfl
theorem Xkl(A B:Option Addr)(n:Nat)(fid:FuncId)(first cap:Array Value)(w:World): (Instr.build 272 #[(0,.slice A n n),(1,.slice B n n),(3,.func (.func fid) first cap)]).run Tryz.prog w=.ok (.agg #[.slice A n n,.slice B n n,.int .i64 0,.func (.func fid) first cap]) w:=by kernel_rfl
structure RK where
 n: Nat
 vars:Nat->List Nat
 rs:Nat->List Row
 base:Nat
 J:Nat
 Ra:Option Addr
 Ba:Option Addr
 yv:Value
structure RS where
 G: Nat->Nat
 A:Nat->Option Addr
 lo:Nat->Nat
 hi:Nat->Nat
 va:Value
 vat:Nat->Value
def OB(K:RK)(S:RS)(k:Nat): Prop:=k=K.J∨(Value.slice K.Ra K.n K.n).ownBlock=some k∨(Value.slice K.Ba K.n K.n).ownBlock=some k∨S.va.ownBlock=some k∨∃ v,v<K.n/\(S.vat v).ownBlock=some k
structure RB(K:RK)(q:Nat)(S:RS)(cont:Nat->List Value)(alls:List Value)(w:World): Prop where
 jb:Blk w K.J 272 [.slice K.Ra K.n K.n,.slice K.Ba K.n K.n,.int .i64 0,K.yv]
 row:Qjd w K.base (.slice K.Ra K.n K.n) (List.replicate K.n V0)
 at_:w.ownsRow K.base 273 1 (.slice K.Ba K.n K.n) K.n ((List.range K.n).map S.vat)
 lists:Fam w K.base 279 1 K.n S.vat (λv=>(cont v).length) cont
 all:w.ownsRow K.base 279 1 S.va alls.length alls
 alld:∀ v g,v<K.n->(S.vat v).ownBlock=some g->S.va.ownBlock≠some g
 its:∀ j,j<q->ItB w (S.G j) (S.A j) (K.vars j).length 0 0 0 (λ_=>0) (λ_=>0) 0
 tri:∀ j,j<q->Off (λk=>k<S.lo j∨S.hi j<=k) w (λu=>TriA u (S.A j) (K.vars j).length (K.rs j))
 iv:∀ j k,j<q->OB K S k->k<S.lo j∨S.hi j<=k
 gi:∀ i j,i<q->j<q->S.G i<S.lo j∨S.hi j<=S.G i
 ginj:∀ i j,i<j->j<q->S.G i<S.G j
 jlo:∀ j,j<q->K.J<S.lo j/\S.hi j<=w.heap.size
 jg:∀ j,j<q->K.J<S.G j
 bj:K.base<=K.J
section
variable {K:RK} {q:Nat} {S:RS} {cont:Nat->List Value} {alls:List Value} {w w':World}
theorem RB.ext(H:RB K q S cont alls w)(hx:Ext w w'): RB K q S cont alls w' :=
 ⟨H.jb.ext hx,Jjc H.row hx,Jjc H.at_ hx,H.lists.ext hx,Jjc H.all hx,H.alld,λj hj=>(H.its j hj).ext hx,λj hj=>(H.tri j hj).ext hx,H.iv,H.gi,H.ginj,λj hj=>⟨(H.jlo j hj).1,Nat.le_trans (H.jlo j hj).2 hx.size⟩,H.jg,H.bj⟩
theorem RB.oblt(H:RB K q S cont alls w){k:Nat}(h:OB K S k): k<w.heap.size:=by
 have own_lt:∀ {base e sz m:Nat} {v:Value} {xs:List Value},w.ownsRow base e sz v m xs->∀ g,v.ownBlock=some g->g<w.heap.size:=λho g eg=>by
  obtain ⟨_,_,_,_,hf⟩:=Jjd ho;exact (hf g eg).2
 rcases h with h|h|h|h|⟨v,hv,h⟩
 ·rw [h];exact H.jb.lt
 ·exact own_lt H.row k h
 ·exact own_lt H.at_ k h
 ·exact own_lt H.all k h
 ·exact own_lt (H.lists.own v hv) k h
theorem RB.iter(H:RB K q S cont alls w){w1 w2:World}{A:Option Addr}{g:Nat}(hx1:Ext w w1)(hT:Off (λk=>k<w.heap.size) w1 (λu=>TriA u A (K.vars q).length (K.rs q)))(hx2:Ext w1 w2)(hg:w1.heap.size<=g)(hI:ItB w2 g A (K.vars q).length 0 0 0 (λ_=>0) (λ_=>0) 0):
  RB K (q+1) { S with G:=upd S.G q g,A:=upd S.A q A,lo:=upd S.lo q w.heap.size,hi:=upd S.hi q w1.heap.size } cont alls w2:=by
 have H2:=H.ext (hx1.trans hx2);have hgl:=hI.lt;have ne:∀ {j},j<q->j≠q:=λh e=>by omega
 have cas:∀ {j},j<q+1->j<q∨j=q:=λh=>by omega
 have hs1:=hx1.size;have hs2:=hx2.size;refine ⟨H2.jb,H2.row,H2.at_,H2.lists,H2.all,H2.alld,λj hj=>?_,λj hj=>?_,λj k hj hk=>?_,λi j hi hj=>?_,λi j hij hj=>?_,λj hj=>?_,λj hj=>?_,H2.bj⟩
 ·rcases cas hj with hj|rfl
  ·simp only [Jjl _ _ (ne hj)];exact H2.its j hj
  ·simp only [Jjp];exact hI
 ·rcases cas hj with hj|rfl
  ·simp only [Jjl _ _ (ne hj)];exact H2.tri j hj
  ·simp only [Jjp];exact (hT.mono λk hk h=>by
    rcases h with h|h
    ·exact h
    ·omega).ext hx2
 ·have hk':OB K S k:=hk;rcases cas hj with hj|rfl
  ·simp only [Jjl _ _ (ne hj)];exact H.iv j k hj hk'
  ·simp only [Jjp];exact .inl (H.oblt hk')
 ·rcases cas hj with hj|rfl
  ·simp only [Jjl _ _ (ne hj)];have h5:=(H.jlo j hj).2;rcases cas hi with hi|rfl
   ·simp only [Jjl _ _ (ne hi)];exact H.gi i j hi hj
   ·simp only [Jjp];exact .inr (by omega)
  ·simp only [Jjp];rcases cas hi with hi|rfl
   ·simp only [Jjl _ _ (ne hi)];exact .inl (H.its i hi).lt
   ·simp only [Jjp];exact .inr hg
 ·rcases cas hj with hj|rfl
  ·simp only [Jjl _ _ (ne hj),Jjl _ _ (ne (show i<q by omega))];exact H.ginj i j hij hj
  ·simp only [Jjp,Jjl _ _ (ne hij)];have:=(H.its i hij).lt;omega
 ·rcases cas hj with hj|rfl
  ·simp only [Jjl _ _ (ne hj)];exact H2.jlo j hj
  ·simp only [Jjp];exact ⟨H.jb.lt,hs2⟩
 ·rcases cas hj with hj|rfl
  ·simp only [Jjl _ _ (ne hj)];exact H2.jg j hj
  ·simp only [Jjp];have:=H.jb.lt;omega
theorem RB.trig(H:RB K q S cont alls w){N:Nat->Prop}(hg:GrN N w w')(hN:∀ k,k<w.heap.size->N k->OB K S k){j:Nat}(hj:j<q): Off (λk=>k<S.lo j∨S.hi j<=k) w' (λu=>TriA u (S.A j) (K.vars j).length (K.rs j)) :=
 (H.tri j hj).gr (hg.mono λk hk h=>H.iv j k hj (hN k hk h))
theorem RB.pushAll(H:RB K q S cont alls w){va':Value}{p:Value}(ho:w'.ownsRow K.base 279 1 va' (alls.length+1) (alls++[p]))(hg:w.grownBy w' S.va.ownBlock)(hn:∀ g,va'.ownBlock=some g->S.va.ownBlock=some g∨w.heap.size<=g):
  RB K q { S with va:=va' } cont (alls++[p]) w':=by
 have hgN:GrN (λk=>S.va.ownBlock=some k) w w':=GrN.by hg λk ek=>ek
 have hne:∀ g,S.va.ownBlock=some g->g≠K.J:=λg eg e=>(H.jb.ne_own H.all rfl) (by rw [eg,e]);have obmap:∀ k,OB K { S with va:=va' } k->OB K S k∨w.heap.size<=k:=λk hk=>by
  rcases hk with h|h|h|h|h
  ·exact .inl (.inl h)
  ·exact .inl (.inr (.inl h))
  ·exact .inl (.inr (.inr (.inl h)))
  ·rcases hn k h with h'|h'
   ·exact .inl (.inr (.inr (.inr (.inl h'))))
   ·exact .inr h'
  ·exact .inl (.inr (.inr (.inr (.inr h))))
 refine ⟨Jqb H.jb hgN (λe=>hne _ e rfl),Jjs H.row H.all hg rfl,Jjs H.at_ H.all hg rfl,H.lists.gr hgN (λi g hi eg e=>H.alld i g hi eg e),by rw [List.length_append];exact ho,λv g hv eg e=>?_,λj hj=>?_,λj hj=>?_,λj k hj hk=>?_,H.gi,H.ginj,λj hj=>⟨(H.jlo j hj).1,Nat.le_trans (H.jlo j hj).2 hg.size⟩,H.jg,H.bj⟩
 ·rcases hn g e with h'|h'
  ·exact H.alld v g hv eg h'
  ·have:=(H.lists.lt hv eg).2;omega
 ·exact Jqb (H.its j hj) hgN (λe=>(H.its j hj).ne_own H.all rfl e.symm)
 ·exact H.trig hgN (λk _ ek=>.inr (.inr (.inr (.inl ek)))) hj
 ·rcases obmap k hk with h'|h'
  ·exact H.iv j k hj h'
  ·have:=(H.jlo j hj).2;exact .inr (by simp only;omega)
theorem RB.pushAt(H:RB K q S cont alls w){v:Nat}(hv:v<K.n){v4:Value}{p:Value}{w4:World}(ho:w4.ownsRow K.base 279 1 v4 ((cont v).length+1) (cont v++[p]))(hg:w.grownBy w4 (S.vat v).ownBlock)(hn:∀ g,v4.ownBlock=some g->(S.vat v).ownBlock=some g∨w.heap.size<=g):
  w4.cell? (adr K.Ba v)=some (S.vat v)/\w4.frozen? (adr K.Ba v)=false/\v4.oneCell'=true/\RB K q { S with vat:=upd S.vat v v4 } (upd cont v (cont v++[p])) alls (w4.setCell (adr K.Ba v) v4)/\GrN (λk=>(S.vat v).ownBlock=some k∨(Value.slice K.Ba K.n K.n).ownBlock=some k) w (w4.setCell (adr K.Ba v) v4):=by
 have hov:=H.lists.own v hv;have at4:w4.ownsRow K.base 273 1 (.slice K.Ba K.n K.n) K.n ((List.range K.n).map S.vat):=Jjs H.at_ hov hg rfl;have F4:=H.lists.upd hv ho hg hn;obtain ⟨s1,s2,s3,s4,s5⟩:=Jqq at4 (q:=v) (by omega) v4;have h1:v4.oneCell'=true:=by obtain ⟨B,c,e,_⟩:=Jjd ho;rw [e];rfl
 have hgN:GrN (λk=>(S.vat v).ownBlock=some k∨(Value.slice K.Ba K.n K.n).ownBlock=some k) w (w4.setCell (adr K.Ba v) v4):=(GrN.by hg λk ek=>.inl ek).trans (GrN.by s5 λk ek=>.inr ek);have inOB:∀ k,(S.vat v).ownBlock=some k∨(Value.slice K.Ba K.n K.n).ownBlock=some k->OB K S k:=λk hk=>by
  rcases hk with h|h
  ·exact .inr (.inr (.inr (.inr ⟨v,hv,h⟩)))
  ·exact .inr (.inr (.inl h))
 have obmap:∀ k,OB K { S with vat:=upd S.vat v v4 } k->OB K S k∨w.heap.size<=k:=λk hk=>by
  rcases hk with h|h|h|h|⟨u,hu,h⟩
  ·exact .inl (.inl h)
  ·exact .inl (.inr (.inl h))
  ·exact .inl (.inr (.inr (.inl h)))
  ·exact .inl (.inr (.inr (.inr (.inl h))))
  ·by_cases e:u=v
   ·subst e;simp only [Jjp]at h;rcases hn k h with h'|h'
    ·exact .inl (.inr (.inr (.inr (.inr ⟨u,hu,h'⟩))))
    ·exact .inr h'
   ·simp only [Jjl _ _ e]at h;exact .inl (.inr (.inr (.inr (.inr ⟨u,hu,h⟩))))
 have eset:((List.range K.n).map S.vat).set v v4=(List.range K.n).map (upd S.vat v v4):=by
  apply List.ext_getElem?
  intro i;rw [List.getElem?_set];by_cases e:v=i
  ·subst e;simp [hv,Jjp]
  ·rw [if_neg e];by_cases hi:i<K.n
   ·simp [hi,Jjl S.vat v4 (λe'=>e e'.symm)]
   ·simp [hi]
 rw [eset]at s3;have F5:=F4.other at4 s5 rfl;have nJ:¬ ((S.vat v).ownBlock=some K.J∨(Value.slice K.Ba K.n K.n).ownBlock=some K.J):=by
  rintro (h|h)
  ·exact H.jb.ne_own hov rfl h.symm
  ·exact H.jb.ne_own H.at_ rfl h.symm
 refine ⟨s1.trans (by simp [hv]),s2,h1,⟨Jqb H.jb hgN nJ,Jjs (Jjs H.row hov hg rfl) at4 s5 rfl,s3,⟨λi hi=>?_,F5.dis⟩,Jjr H.all hgN (λg eg=>?_),λu g hu eg e=>?_,λj hj=>?_,λj hj=>H.trig hgN (λk _ hk=>inOB k hk) hj,λj k hj hk=>?_,H.gi,H.ginj,λj hj=>⟨(H.jlo j hj).1,Nat.le_trans (H.jlo j hj).2 hgN.size⟩,H.jg,H.bj⟩,hgN⟩
 ·have:=F5.own i hi;by_cases e:i=v
  ·subst e;rw [Jjp,Jjp,Jjp]at this;simp only [Jjp,List.length_append,List.length_singleton];exact this
  ·rw [Jjl _ _ e,Jjl _ _ e,Jjl _ _ e]at this;simp only [Jjl _ _ e];exact this
 ·rintro (h|h)
  ·exact H.alld v g hv h eg
  ·exact Jpx H.at_ H.all rfl h eg
 ·by_cases e':u=v
  ·subst e';simp only [Jjp]at eg;rcases hn g eg with h'|h'
   ·exact H.alld u g hu h' e
   ·obtain ⟨_,_,_,_,hf⟩:=Jjd H.all;have:=(hf g e).2;omega
  ·simp only [Jjl _ _ e']at eg;exact H.alld u g hu eg e
 ·refine Jqb (H.its j hj) hgN ?_;rintro (h|h)
  ·exact (H.its j hj).ne_own hov rfl h.symm
  ·exact (H.its j hj).ne_own H.at_ rfl h.symm
 ·rcases obmap k hk with h'|h'
  ·exact H.iv j k hj h'
  ·have:=(H.jlo j hj).2;exact .inr (by simp only;omega)
end
end Go.Proofs.YtefpailelagbkaaGreatDoor
