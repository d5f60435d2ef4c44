/- Part 22. -/
import Derived.Test.YtebcagekopgdhaaGreatDoorB21
set_option linter.unusedVariables false
set_option maxRecDepth 100000
set_option maxHeartbeats 40000000
namespace Go.Proofs.YtebcagekopgdhaaGreatDoor
open Go.RowKit Pl Go.Wk
attribute [local irreducible] WC WL QX WD WDB WP WN
theorem EIt: ElT Tryz.prog 282 288 1 8 (.pointer none):=⟨Tryz.underlying282,info_parts kr,rfl,by decide⟩
theorem EIts: ElT Tryz.prog 279 282 1 24 (.slice none 0 0):=⟨Tryz.underlying279,info_parts kr,rfl,by decide⟩
theorem Qjz(p:Option Addr)(w:World): (Instr.buildSlice 282 1 #[(0,.pointer p)]).run Tryz.prog w=.ok (.slice (some ⟨w.heap.size,0,none⟩) 1 1) (w.alloc (.cells [.pointer p].toArray 288)):=kr
theorem Qnk(A B:Option Addr)(n:Nat)(fid:FuncId)(first cap:Array Value)(w:World): (Instr.build 281 #[(0,.slice A n n),(1,.slice B n n),(3,.func (.func fid) first cap)]).run Tryz.prog w=.ok (.agg #[.slice A n n,.slice B n n,.int .i64 0,.func (.func fid) first cap]) w:=kr
structure RK where
 n: Nat
 vars:Nat->List Nat
 rs:Nat->List Row
 base:Nat
 J:Nat
 Ra:Option Addr
 Ba:Option Addr
 yv:Value
structure RS where
 G: Nat->Nat
 A:Nat->Option Addr
 lo:Nat->Nat
 hi:Nat->Nat
 va:Value
 vat:Nat->Value
def OB(K:RK)(S:RS)(k:Nat): Prop:=k=K.J∨(Value.slice K.Ra K.n K.n).ownBlock=some k∨(Value.slice K.Ba K.n K.n).ownBlock=some k∨S.va.ownBlock=some k∨∃ v,v<K.n/\(S.vat v).ownBlock=some k
structure RB(K:RK)(q:Nat)(S:RS)(cont:Nat->List Value)(alls:List Value)(w:World): Prop where
 jb:Blk w K.J 281 [.slice K.Ra K.n K.n,.slice K.Ba K.n K.n,.int .i64 0,K.yv]
 row:Zm w K.base (.slice K.Ra K.n K.n) (List.replicate K.n V0)
 at_:w.ownsRow K.base 282 1 (.slice K.Ba K.n K.n) K.n ((List.range K.n).map S.vat)
 lists:Fam w K.base 288 1 K.n S.vat (λv=>(cont v).length) cont
 all:w.ownsRow K.base 288 1 S.va alls.length alls
 alld:∀ v g,v<K.n->(S.vat v).ownBlock=some g->S.va.ownBlock≠some g
 its:∀ j,j<q->ItB w (S.G j) (S.A j) (K.vars j).length 0 0 0 (λ_=>0) (λ_=>0) 0
 tri:∀ j,j<q->Off (λk=>k<S.lo j∨S.hi j<=k) w (λu=>TriA u (S.A j) (K.vars j).length (K.rs j))
 iv:∀ j k,j<q->OB K S k->k<S.lo j∨S.hi j<=k
 gi:∀ i j,i<q->j<q->S.G i<S.lo j∨S.hi j<=S.G i
 ginj:∀ i j,i<j->j<q->S.G i<S.G j
 jlo:∀ j,j<q->K.J<S.lo j/\S.hi j<=w.heap.size
 jg:∀ j,j<q->K.J<S.G j
 bj:K.base<=K.J
section
variable {K:RK} {q:Nat} {S:RS} {cont:Nat->List Value} {alls:List Value} {w w':World}
theorem RB.ext(H:RB K q S cont alls w)(hx:Ext w w'): RB K q S cont alls w' :=
 ⟨H.jb.ext hx,Jk H.row hx,Jk H.at_ hx,H.lists.ext hx,Jk H.all hx,H.alld,λj o=>(H.its j o).ext hx,λj o=>(H.tri j o).ext hx,H.iv,H.gi,H.ginj,λj o=>⟨(H.jlo j o).1,Nat.le_trans (H.jlo j o).2 hx.size⟩,H.jg,H.bj⟩
theorem RB.oblt(H:RB K q S cont alls w){k:Nat}(h:OB K S k): k<w.heap.size:=by
 have o:∀ {base e sz m:Nat} {v:Value} {xs:List Value},w.ownsRow base e sz v m xs->∀ g,v.ownBlock=some g->g<w.heap.size:=λu g G=>by
  obtain ⟨_,_,_,_,C⟩:=Jv u;exact (C g G).2
 rcases h with h|h|h|h|⟨v,hv,h⟩
 .rw [h];exact H.jb.lt
 .exact o H.row k h
 .exact o H.at_ k h
 .exact o H.all k h
 .exact o (H.lists.own v hv) k h
theorem RB.iter(H:RB K q S cont alls w){w1 w2:World}{A:Option Addr}{g:Nat}(hx1:Ext w w1)(hT:Off (λk=>k<w.heap.size) w1 (λu=>TriA u A (K.vars q).length (K.rs q)))(hx2:Ext w1 w2)(hg:w1.heap.size<=g)(hI:ItB w2 g A (K.vars q).length 0 0 0 (λ_=>0) (λ_=>0) 0):
  RB K (q+1) { S with G:=upd S.G q g,A:=upd S.A q A,lo:=upd S.lo q w.heap.size,hi:=upd S.hi q w1.heap.size } cont alls w2:=by
 have O:=H.ext (hx1.trans hx2);have a3:=hI.lt;have J:∀ {j},j<q->j≠q:=λh e=>by omega
 have C:∀ {j},j<q+1->j<q∨j=q:=λh=>by omega
 have a2:=hx1.size;have a1:=hx2.size;refine ⟨O.jb,O.row,O.at_,O.lists,O.all,O.alld,λj o=>?_,λj o=>?_,λj k o hk=>?_,λi j hi o=>?_,λi j U o=>?_,λj o=>?_,λj o=>?_,O.bj⟩
 .rcases C o with o|rfl
  .simp only [Jy _ _ (J o)];exact O.its j o
  .simp only [Jf];exact hI
 .rcases C o with o|rfl
  .simp only [Jy _ _ (J o)];exact O.tri j o
  .simp only [Jf];exact (hT.mono λk hk h=>by
    rcases h with h|h
    .exact h
    .omega).ext hx2
 .have Z:OB K S k:=hk;rcases C o with o|rfl
  .simp only [Jy _ _ (J o)];exact H.iv j k o Z
  .simp only [Jf];exact .inl (H.oblt Z)
 .rcases C o with o|rfl
  .simp only [Jy _ _ (J o)];have h5:=(H.jlo j o).2;rcases C hi with hi|rfl
   .simp only [Jy _ _ (J hi)];exact H.gi i j hi o
   .simp only [Jf];exact .inr om
  .simp only [Jf];rcases C hi with hi|rfl
   .simp only [Jy _ _ (J hi)];exact .inl (H.its i hi).lt
   .simp only [Jf];exact .inr hg
 .rcases C o with o|rfl
  .simp only [Jy _ _ (J o),Jy _ _ (J (show i<q by omega))];exact H.ginj i j U o
  .simp only [Jf,Jy _ _ (J U)];have:=(H.its i U).lt;omega
 .rcases C o with o|rfl
  .simp only [Jy _ _ (J o)];exact O.jlo j o
  .simp only [Jf];exact ⟨H.jb.lt,a1⟩
 .rcases C o with o|rfl
  .simp only [Jy _ _ (J o)];exact O.jg j o
  .simp only [Jf];have:=H.jb.lt;omega
theorem RB.trig(H:RB K q S cont alls w){N:Nat->Prop}(hg:GrN N w w')(hN:∀ k,k<w.heap.size->N k->OB K S k){j:Nat}(hj:j<q): Off (λk=>k<S.lo j∨S.hi j<=k) w' (λu=>TriA u (S.A j) (K.vars j).length (K.rs j)) :=
 (H.tri j hj).gr (hg.mono λk o h=>H.iv j k hj (hN k o h))
theorem RB.pushAll(H:RB K q S cont alls w){va':Value}{p:Value}(ho:w'.ownsRow K.base 288 1 va' (alls.length+1) (alls++[p]))(hg:w.grownBy w' S.va.ownBlock)(hn:∀ g,va'.ownBlock=some g->S.va.ownBlock=some g∨w.heap.size<=g):
  RB K q { S with va:=va' } cont (alls++[p]) w':=by
 have u:GrN (λk=>S.va.ownBlock=some k) w w':=GrN.by hg λk Z=>Z
 have O:∀ g,S.va.ownBlock=some g->g≠K.J:=λg G e=>(H.jb.ne_own H.all rfl) (by rw [G,e]);have C:∀ k,OB K { S with va:=va' } k->OB K S k∨w.heap.size<=k:=λk U=>by
  rcases U with h|h|h|h|h
  .exact .inl (.inl h)
  .exact .inl (.inr (.inl h))
  .exact .inl (.inr (.inr (.inl h)))
  .rcases hn k h with h'|h'
   .exact .inl (.inr (.inr (.inr (.inl h'))))
   .exact .inr h'
  .exact .inl (.inr (.inr (.inr (.inr h))))
 refine ⟨Jd H.jb u (λe=>O _ e rfl),Xe H.row H.all hg rfl,Xe H.at_ H.all hg rfl,H.lists.gr u (λi g hi G e=>H.alld i g hi G e),by rw [List.length_append];exact ho,λv g hv G e=>?_,λj o=>?_,λj o=>?_,λj k o U=>?_,H.gi,H.ginj,λj o=>⟨(H.jlo j o).1,Nat.le_trans (H.jlo j o).2 hg.size⟩,H.jg,H.bj⟩
 .rcases hn g e with h'|h'
  .exact H.alld v g hv G h'
  .have:=(H.lists.lt hv G).2;omega
 .exact Jd (H.its j o) u (λe=>(H.its j o).ne_own H.all rfl e.symm)
 .exact H.trig u (λk _ Z=>.inr (.inr (.inr (.inl Z)))) o
 .rcases C k U with h'|h'
  .exact H.iv j k o h'
  .have:=(H.jlo j o).2;exact .inr (by simp only;omega)
theorem RB.pushAt(H:RB K q S cont alls w){v:Nat}(hv:v<K.n){v4:Value}{p:Value}{w4:World}(ho:w4.ownsRow K.base 288 1 v4 ((cont v).length+1) (cont v++[p]))(hg:w.grownBy w4 (S.vat v).ownBlock)(hn:∀ g,v4.ownBlock=some g->(S.vat v).ownBlock=some g∨w.heap.size<=g):
  w4.cell? (adr K.Ba v)=some (S.vat v)/\w4.frozen? (adr K.Ba v)=false/\v4.oneCell'=true/\RB K q { S with vat:=upd S.vat v v4 } (upd cont v (cont v++[p])) alls (w4.setCell (adr K.Ba v) v4)/\GrN (λk=>(S.vat v).ownBlock=some k∨(Value.slice K.Ba K.n K.n).ownBlock=some k) w (w4.setCell (adr K.Ba v) v4):=by
 have G:=H.lists.own v hv;have a1:w4.ownsRow K.base 282 1 (.slice K.Ba K.n K.n) K.n ((List.range K.n).map S.vat):=Xe H.at_ G hg rfl;have F4:=H.lists.upd hv ho hg hn;obtain ⟨s1,s2,s3,s4,s5⟩:=Zd a1 (q:=v) om v4;have h1:v4.oneCell'=true:=by obtain ⟨B,c,e,_⟩:=Jv ho;rw [e];rfl
 have o:GrN (λk=>(S.vat v).ownBlock=some k∨(Value.slice K.Ba K.n K.n).ownBlock=some k) w (w4.setCell (adr K.Ba v) v4):=(GrN.by hg λk ek=>.inl ek).trans (GrN.by s5 λk ek=>.inr ek);have a2:∀ k,(S.vat v).ownBlock=some k∨(Value.slice K.Ba K.n K.n).ownBlock=some k->OB K S k:=λk U=>by
  rcases U with h|h
  .exact .inr (.inr (.inr (.inr ⟨v,hv,h⟩)))
  .exact .inr (.inr (.inl h))
 have O:∀ k,OB K { S with vat:=upd S.vat v v4 } k->OB K S k∨w.heap.size<=k:=λk U=>by
  rcases U with h|h|h|h|⟨u,hu,h⟩
  .exact .inl (.inl h)
  .exact .inl (.inr (.inl h))
  .exact .inl (.inr (.inr (.inl h)))
  .exact .inl (.inr (.inr (.inr (.inl h))))
  .by_cases e:u=v
   .subst e;simp only [Jf]at h;rcases hn k h with h'|h'
    .exact .inl (.inr (.inr (.inr (.inr ⟨u,hu,h'⟩))))
    .exact .inr h'
   .simp only [Jy _ _ e]at h;exact .inl (.inr (.inr (.inr (.inr ⟨u,hu,h⟩))))
 have a3:((List.range K.n).map S.vat).set v v4=(List.range K.n).map (upd S.vat v v4):=by
  apply List.ext_getElem?
  intro i;rw [List.getElem?_set];by_cases e:v=i
  .subst e;simp [hv,Jf]
  .rw [if_neg e];by_cases hi:i<K.n
   .simp [hi,Jy S.vat v4 (λe'=>e e'.symm)]
   .simp [hi]
 rw [a3]at s3;have F5:=F4.other a1 s5 rfl;have nJ:¬ ((S.vat v).ownBlock=some K.J∨(Value.slice K.Ba K.n K.n).ownBlock=some K.J):=by
  rintro (h|h)
  .exact H.jb.ne_own G rfl h.symm
  .exact H.jb.ne_own H.at_ rfl h.symm
 refine ⟨s1.trans (by simp [hv]),s2,h1,⟨Jd H.jb o nJ,Xe (Xe H.row G hg rfl) a1 s5 rfl,s3,⟨λi hi=>?_,F5.dis⟩,Jr H.all o (λg Z=>?_),λu g hu Z e=>?_,λj C=>?_,λj C=>H.trig o (λk _ U=>a2 k U) C,λj k C U=>?_,H.gi,H.ginj,λj C=>⟨(H.jlo j C).1,Nat.le_trans (H.jlo j C).2 o.size⟩,H.jg,H.bj⟩,o⟩
 .have:=F5.own i hi;by_cases e:i=v
  .subst e;rw [Jf,Jf,Jf]at this;simp only [Jf,List.length_append,List.length_singleton];exact this
  .rw [Jy _ _ e,Jy _ _ e,Jy _ _ e]at this;simp only [Jy _ _ e];exact this
 .rintro (h|h)
  .exact H.alld v g hv h Z
  .exact Jjz H.at_ H.all rfl h Z
 .by_cases e':u=v
  .subst e';simp only [Jf]at Z;rcases hn g Z with h'|h'
   .exact H.alld u g hu h' e
   .obtain ⟨_,_,_,_,hf⟩:=Jv H.all;have:=(hf g e).2;omega
  .simp only [Jy _ _ e']at Z;exact H.alld u g hu Z e
 .refine Jd (H.its j C) o ?_;rintro (h|h)
  .exact (H.its j C).ne_own G rfl h.symm
  .exact (H.its j C).ne_own H.at_ rfl h.symm
 .rcases O k U with h'|h'
  .exact H.iv j k C h'
  .have:=(H.jlo j C).2;exact .inr (by simp only;omega)
end
end Go.Proofs.YtebcagekopgdhaaGreatDoor
