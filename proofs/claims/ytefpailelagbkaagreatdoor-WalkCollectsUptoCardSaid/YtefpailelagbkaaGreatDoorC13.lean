/- Part 13 of the proof: Tri, Fam. -/
import Derived.Test.YtefpailelagbkaaGreatDoorC12
set_option linter.unusedVariables false
set_option maxRecDepth 100000
set_option maxHeartbeats 40000000
namespace Go.Proofs.YtefpailelagbkaaGreatDoor
open Pl
def pfx(rs:List Row)(l:Nat): List Row:=ddF (rs.map (List.take l))
theorem Qvj(rs:List Row)(x:Row)(l:Nat): pfx (rs++[x]) l=ddS (pfx rs l) (x.take l):=by
 unfold pfx;rw [List.map_append,List.map_cons,List.map_nil,Jsz]
theorem Qxb: ∀ (a b:Row) (l:Nat),Jxg a b []<=0->Jxg (a.take l) (b.take l) []<=0
 | _,_,0,_=>by simp [Jxg]
 | [],[],_+1,_=>by simp [Jxg]
 | [],_::_,_+1,_=>by simp [Jxg]
 | _::_,[],_+1,h=>by simp [Jxg]at h
 | x::a,y::b,l+1,h=>by
  simp only [List.take_succ_cons,Jxg,List.drop_nil]at h ⊢;by_cases e:cmpV x y=0
  .rw [if_pos e]at h ⊢;exact Qxb a b l h
  .rw [if_neg e]at h ⊢;exact h
theorem Qpd{rs:List Row}(h:Srt [] rs)(l:Nat): Srt [] (rs.map (List.take l)):=by
 unfold Srt at h ⊢;rw [List.pairwise_map];exact h.imp λi=>Qxb _ _ l i
theorem Jcc{rs:List Row}(h:Lt [] rs): Srt [] rs:=h.imp λi=>by omega
theorem Jlr{rs:List Row}(h:Srt [] rs)(l:Nat): IsSet [] (rs.map (List.take l)) (pfx rs l):=Qmg (Qpd h l)
theorem Jfh{rs:List Row}(h:Srt [] rs){l:Nat}{q:Row}: q∈pfx rs l↔∃ r∈rs,r.take l=q:=by
 rw [(Jlr h l).2,List.mem_map]
theorem Qpq{rs:List Row}{d:Nat}(h:Lt [] rs)(hl:∀ r∈rs,r.length=d): pfx rs d=rs:=by
 have e:rs.map (List.take d)=rs:=by
  conv=>rhs;rw [<-List.map_id rs]
  exact List.map_congr_left λr j=>by rw [List.take_of_length_le (by rw [hl r j];exact Nat.le_refl _)];rfl
 have i:=Jlr (Jcc h) d;rw [e]at i;exact Jyz i.1 h i.2
theorem Qvk{rs:List Row}{x:Row}{l:Nat}: (pfx (rs++[x]) l).getLast?=some (x.take l):=by rw [Qvj];exact Qyl _ _
def shr: Row->Row->Nat
 | a::x,b::y=>if a=b then shr x y+1 else 0
 | _,_=>0
theorem Qzf(y:Row): shr [] y=0:=by cases y<;>rfl
theorem Qtj: ∀ x y:Row,shr x y<=x.length/\shr x y<=y.length
 | [],y=>by rw [Qzf];simp
 | _::_,[]=>by simp [shr]
 | a::x,b::y=>by
  have:=Qtj x y;simp only [shr,List.length_cons];split<;>omega
theorem Jrt: ∀ (x y:Row) (l:Nat),x.length=y.length->(x.take l=y.take l↔l<=shr x y∨x=y)
 | [],[],l,_=>by simp
 | [],_::_,_,h=>by simp at h
 | _::_,[],_,h=>by simp at h
 | a::x,b::y,0,_=>by simp
 | a::x,b::y,l+1,h=>by
  have ih:=Jrt x y l (by simpa using h);simp only [List.take_succ_cons,List.cons.injEq,shr];by_cases e:a=b
  .rw [if_pos e,ih];constructor
   .rintro ⟨_,h'|h'⟩
    .exact .inl om
    .exact .inr ⟨e,h'⟩
   .rintro (h'|h')
    .exact ⟨e,.inl om⟩
    .exact ⟨e,.inr h'.2⟩
  .rw [if_neg e];constructor
   .rintro ⟨h',_⟩;exact absurd h' e
   .rintro (h'|h')
    .omega
    .exact absurd h'.1 e
def lvl(rs:List Row)(l:Nat): Row:=(pfx rs (l+1)).map λq=>q.getD l V0
theorem Jfm(rs:List Row)(l:Nat): (lvl rs l).length=(pfx rs (l+1)).length:=by simp [lvl]
theorem Xxq{rs:List Row}{l i:Nat}(h:i<(pfx rs (l+1)).length): (lvl rs l).getD i V0=((pfx rs (l+1)).getD i []).getD l V0:=by
 rw [Jjh V0 _ (by rw [Jfm];exact h),Jjh [] _ h];simp [lvl]
def Fst(rs:List Row)(l:Nat)(f:List Nat): Prop:=f.length=(pfx rs (l+1)).length/\(∀ j,j<f.length->f.getD j 0<=(pfx rs (l+2)).length) /\
 ∀ j i,j<f.length->i<(pfx rs (l+2)).length->(((pfx rs (l+2)).getD i []).take (l+1)=(pfx rs (l+1)).getD j []↔f.getD j 0<=i/\(j+1<f.length->i<f.getD (j+1) 0))
def stp(rs:List Row)(x:Row): Nat:=match rs.getLast? with
 | some y=>shr y x
 | none=>0
theorem Jvv{rs:List Row}{x:Row}{d:Nat}(h:Lt [] (rs++[x]))(hl:∀ r∈rs++[x],r.length=d){l:Nat}(h0:0<l): pfx (rs++[x]) l=if l<=stp rs x then pfx rs l else pfx rs l++[x.take l]:=by
 rw [Qvj];rcases List.eq_nil_or_concat rs with rfl|⟨r,y,rfl⟩
 .rw [if_neg (by simp [stp];omega)];rfl
 .rw [List.concat_eq_append]at *;have J:(r++[y]).getLast?=some y:=by simp
  have j:Jxg y x []<0:=(List.pairwise_append.1 h).2.2 y (by simp) x (by simp);have u:y≠x:=λe=>by rw [e,Jxp]at j;omega
  have i:y.length=x.length:=by rw [hl y (by simp),hl x (by simp)]
  have o:stp (r++[y]) x=shr y x:=by simp [stp]
  rw [o,ddS,Qvk];by_cases e:y.take l=x.take l
  .rw [if_pos (by rw [e]),if_pos (((Jrt y x l i).1 e).elim id λC=>absurd C u)]
  .rw [if_neg (λG=>e (by injection G)),if_neg (λC=>e ((Jrt y x l i).2 (.inl C)))]
theorem Xxc{rs:List Row}{x:Row}{d:Nat}(h:Lt [] (rs++[x]))(hl:∀ r∈rs++[x],r.length=d){l:Nat}(h0:0<l)(hs:stp rs x<l): x.take l ∉ pfx rs l:=by
 have e:=Jvv h hl h0;rw [if_neg om]at e;have i:=(Jlr (Jcc h) l).1;rw [e]at i;intro j;have:=(List.pairwise_append.1 i).2.2 _ j (x.take l) (by simp);rw [Jxp]at this;omega
theorem Qrd{l:List Row}(h:Lt [] l){i j:Nat}(hi:i<l.length)(hj:j<l.length)(e:l.getD i []=l.getD j []): i=j:=by
 rcases Nat.lt_trichotomy i j with h'|h'|h'
 .have:=h.at h' hj;rw [e,Jxp]at this;omega
 .exact h'
 .have:=h.at h' hi;rw [e,Jxp]at this;omega
theorem Jwc{α:Type}(z:α)(l:List α)(x:α)(k:Nat): (l++[x]).getD k z=if k<l.length then l.getD k z else if k=l.length then x else z:=by
 simp only [List.getD];by_cases h:k<l.length
 .rw [if_pos h,List.getElem?_append_left h]
 .rw [if_neg h,List.getElem?_append_right om];by_cases e:k=l.length
  .rw [if_pos e,e,Nat.sub_self];rfl
  .rw [if_neg e,List.getElem?_eq_none (by simp;omega)];rfl
theorem take_take'(q:Row)(l:Nat): (q.take (l+2)).take (l+1)=q.take (l+1):=by rw [List.take_take,Nat.min_eq_left om]
theorem Xvf{rs:List Row}(h:Srt [] rs){l i:Nat}(hi:i<(pfx rs (l+2)).length): ((pfx rs (l+2)).getD i []).take (l+1)∈pfx rs (l+1):=by
 obtain ⟨r,j,e⟩:=(Jfh h).1 (getD_mem' [] _ hi);rw [<-e,take_take'];exact (Jfh h).2 ⟨r,j,rfl⟩
theorem Fst.keep{rs:List Row}{x:Row}{d l:Nat}{f:List Nat}(hF:Fst rs l f)(h:Lt [] (rs++[x]))(hl:∀ r∈rs++[x],r.length=d)(hs:l+1<=stp rs x): Fst (rs++[x]) l f:=by
 obtain ⟨h1,G,h3⟩:=hF;have Z:pfx (rs++[x]) (l+1)=pfx rs (l+1):=by rw [Jvv h hl om,if_pos hs]
 have u:Lt [] rs:=(List.pairwise_append.1 h).1;have o:0<(pfx rs (l+1)).length/\(pfx rs (l+1)).getD ((pfx rs (l+1)).length-1) []=x.take (l+1):=by
  have h5:=Qvk (rs:=rs) (x:=x) (l:=l+1);rw [Z,List.getLast?_eq_getElem?]at h5;have h6:=(List.getElem?_eq_some_iff.1 h5);obtain ⟨h7,h8⟩:=h6;exact ⟨om,by rw [Jjh [] _ h7,h8]⟩
 have J:Lt [] (pfx rs (l+1)):=(Jlr (Jcc u) _).1;by_cases hs2:l+2<=stp rs x
 .have U:pfx (rs++[x]) (l+2)=pfx rs (l+2):=by rw [Jvv h hl om,if_pos hs2]
  unfold Fst;rw [Z,U];exact ⟨h1,G,h3⟩
 .have U:pfx (rs++[x]) (l+2)=pfx rs (l+2)++[x.take (l+2)]:=by rw [Jvv h hl om,if_neg hs2]
  unfold Fst;rw [Z,U];refine ⟨h1,λj C=>?_,λj i C hi=>?_⟩
  .have:=G j C;rw [List.length_append];omega
  .rw [List.length_append,List.length_singleton]at hi;rw [Jwc];by_cases hi2:i<(pfx rs (l+2)).length
   .rw [if_pos hi2];exact h3 j i C hi2
   .rw [if_neg hi2,if_pos om,take_take',<-o.2];have ei:i=(pfx rs (l+2)).length:=om
    constructor
    .intro e;have O:=Qrd J om om e;exact ⟨by rw [ei];exact G j C,λh'=>om⟩
    .rintro ⟨_,h'⟩;by_cases O:j+1<f.length
     .have:=h' O;have:=G (j+1) O;omega
     .congr 1;omega
theorem Fst.more{rs:List Row}{x:Row}{d l:Nat}{f:List Nat}(hF:Fst rs l f)(h:Lt [] (rs++[x]))(hl:∀ r∈rs++[x],r.length=d)(hs:stp rs x<=l): Fst (rs++[x]) l (f++[(pfx rs (l+2)).length]):=by
 obtain ⟨U,J,O⟩:=hF;have u:Lt [] rs:=(List.pairwise_append.1 h).1;have e1:pfx (rs++[x]) (l+1)=pfx rs (l+1)++[x.take (l+1)]:=by rw [Jvv h hl om,if_neg om]
 have Z:pfx (rs++[x]) (l+2)=pfx rs (l+2)++[x.take (l+2)]:=by rw [Jvv h hl om,if_neg om]
 have hn:=Xxc h hl (l:=l+1) om om;unfold Fst;rw [e1,Z];refine ⟨by simp [U],λj C=>?_,λj i C hi=>?_⟩
 .rw [List.length_append,List.length_singleton]at C;rw [Jwc,List.length_append,List.length_singleton];by_cases hj2:j<f.length
  .rw [if_pos hj2];have:=J j hj2;omega
  .rw [if_neg hj2,if_pos om];omega
 .rw [List.length_append,List.length_singleton]at hi C;rw [Jwc [],Jwc [],Jwc 0,Jwc 0,List.length_append,List.length_singleton];by_cases hj2:j<f.length<;>by_cases hi2:i<(pfx rs (l+2)).length
  .rw [if_pos hi2,if_pos (show j<(pfx rs (l+1)).length by omega),if_pos hj2,O j i hj2 hi2];by_cases ej:j+1<f.length
   .rw [if_pos ej];exact ⟨λo=>⟨o.1,λ_=>o.2 ej⟩,λo=>⟨o.1,λ_=>o.2 om⟩⟩
   .rw [if_neg ej,if_pos om];exact ⟨λo=>⟨o.1,λ_=>hi2⟩,λo=>⟨o.1,λe=>absurd e ej⟩⟩
  .rw [if_neg hi2,if_pos (show i=(pfx rs (l+2)).length by omega),if_pos (show j<(pfx rs (l+1)).length by omega),if_pos hj2,take_take'];constructor
   .intro e;exact absurd (e ▸ getD_mem' [] _ om) hn
   .rintro ⟨_,o⟩;have G:=o om;by_cases ej:j+1<f.length
    .rw [if_pos ej]at G;have:=J (j+1) ej;omega
    .rw [if_neg ej,if_pos om]at G;omega
  .rw [if_pos hi2,if_neg (show ¬ j<(pfx rs (l+1)).length by omega),if_pos (show j=(pfx rs (l+1)).length by omega),if_neg hj2,if_pos (show j=f.length by omega)];constructor
   .intro e;exact absurd (e ▸ Xvf (Jcc u) hi2) hn
   .rintro ⟨o,_⟩;omega
  .rw [if_neg hi2,if_pos (show i=(pfx rs (l+2)).length by omega),if_neg (show ¬ j<(pfx rs (l+1)).length by omega),if_pos (show j=(pfx rs (l+1)).length by omega),if_neg hj2,if_pos (show j=f.length by omega),take_take'];exact ⟨λ_=>⟨om,λe=>om⟩,λ_=>rfl⟩
def Chl(rs:List Row)(l:Nat)(f:List Nat): Prop:=f.length=(pfx rs (l+1)).length+1/\(∀ j,j<f.length->f.getD j 0<=(pfx rs (l+2)).length) /\
 ∀ j i,j+1<f.length->i<(pfx rs (l+2)).length->(((pfx rs (l+2)).getD i []).take (l+1)=(pfx rs (l+1)).getD j []↔f.getD j 0<=i/\i<f.getD (j+1) 0)
theorem Fst.close{rs:List Row}{l:Nat}{f:List Nat}(hF:Fst rs l f): Chl rs l (f++[(pfx rs (l+2)).length]):=by
 obtain ⟨J,G,C⟩:=hF;refine ⟨by simp [J],λj u=>?_,λj i u hi=>?_⟩
 .rw [List.length_append,List.length_singleton]at u;rw [Jwc];by_cases hj2:j<f.length
  .rw [if_pos hj2];exact G j hj2
  .rw [if_neg hj2,if_pos om];exact Nat.le_refl _
 .rw [List.length_append,List.length_singleton]at u;rw [Jwc 0,Jwc 0,if_pos om,C j i om hi];by_cases ej:j+1<f.length
  .rw [if_pos ej];exact ⟨λo=>⟨o.1,o.2 ej⟩,λo=>⟨o.1,λ_=>o.2⟩⟩
  .rw [if_neg ej,if_pos om];exact ⟨λo=>⟨o.1,hi⟩,λo=>⟨o.1,λe=>absurd e ej⟩⟩
theorem Fst.nil(l:Nat): Fst [] l []:=⟨rfl,λj o=>by simp at o,λj i o=>by simp at o⟩
theorem Qvv{rs:List Row}{x:Row}{d l:Nat}(h:Lt [] (rs++[x]))(hl:∀ r∈rs++[x],r.length=d)(hd:l<d): lvl (rs++[x]) l=if l+1<=stp rs x then lvl rs l else lvl rs l++[x.getD l V0]:=by
 unfold lvl;rw [Jvv h hl om];split
 .rfl
 .rw [List.map_append];have:x.length=d:=hl x (by simp);simp [List.getD]
end Go.Proofs.YtefpailelagbkaaGreatDoor
namespace Go.Wk
open Go.RowKit
def upd{α:Type}(f:Nat->α)(i:Nat)(x:α): Nat->α:=λk=>if k=i then x else f k
theorem Jjp{α:Type}(f:Nat->α)(i:Nat)(x:α): upd f i x i=x:=by simp [upd]
theorem Jjl{α:Type}(f:Nat->α){i k:Nat}(x:α)(h:k≠i): upd f i x k=f k:=by simp [upd,h]
structure Fam(w:World)(base e sz n:Nat)(v:Nat->Value)(m:Nat->Nat)(c:Nat->List Value): Prop where
 own:∀ i,i<n->w.ownsRow base e sz (v i) (m i) (c i)
 dis:∀ i j g,i<n->j<n->i≠j->(v i).ownBlock=some g->(v j).ownBlock≠some g
section
variable {w w':World} {base e sz n:Nat} {v:Nat->Value} {m:Nat->Nat} {c:Nat->List Value}
theorem Fam.ext(h:Fam w base e sz n v m c)(hx:Ext w w'): Fam w' base e sz n v m c:=⟨λi hi=>Jjb (h.own i hi) hx,h.dis⟩
theorem Fam.gr{N:Nat->Prop}(h:Fam w base e sz n v m c)(hg:GrN N w w')(hN:∀ i g,i<n->(v i).ownBlock=some g->¬ N g): Fam w' base e sz n v m c:=⟨λi hi=>Jjr (h.own i hi) hg (hN i · hi),h.dis⟩
theorem Fam.other{base' e' sz' m':Nat}{v':Value}{xs:List Value}(h:Fam w base e sz n v m c)(h':w.ownsRow base' e' sz' v' m' xs)(hg:w.grownBy w' v'.ownBlock)(hne:Nat.beq e e'=false): Fam w' base e sz n v m c :=
 ⟨λi hi=>Jjs (h.own i hi) h' hg hne,h.dis⟩
theorem Fam.lt(h:Fam w base e sz n v m c){i g:Nat}(hi:i<n)(hg:(v i).ownBlock=some g): base<=g/\g<w.heap.size:=by
 obtain ⟨_,_,_,_,j⟩:=Jjd (h.own i hi);exact j g hg
theorem Fam.upd{i m':Nat}{v':Value}{c':List Value}(h:Fam w base e sz n v m c)(hi:i<n)(ho:w'.ownsRow base e sz v' m' c')(hg:w.grownBy w' (v i).ownBlock)(hb:∀ g,v'.ownBlock=some g->(v i).ownBlock=some g∨w.heap.size<=g):
  Fam w' base e sz n (upd v i v') (upd m i m') (upd c i c'):=by
 refine ⟨λk u=>?_,λk j g u J o G C=>?_⟩
 .by_cases e:k=i
  .subst e;rw [Jjp,Jjp,Jjp];exact ho
  .rw [Jjl _ _ e,Jjl _ _ e,Jjl _ _ e];refine (h.own k u).kept hg ?_;cases hb2:(v k).ownBlock with
   | none=>exact .inl rfl
   | some g=>exact .inr (λO=>h.dis k i g u hi e hb2 O.symm)
 .by_cases ek:k=i<;>by_cases ej:j=i
  .omega
  .subst ek;rw [Jjp]at G;rw [Jjl _ _ ej]at C;rcases hb g G with h'|h'
   .exact h.dis k j g u J o h' C
   .have:=(h.lt J C).2;omega
  .subst ej;rw [Jjp]at C;rw [Jjl _ _ ek]at G;rcases hb g C with h'|h'
   .exact h.dis k j g u J o G h'
   .have:=(h.lt u G).2;omega
  .rw [Jjl _ _ ek]at G;rw [Jjl _ _ ej]at C;exact h.dis k j g u J o G C
end
def Jvl(d:Nat)(f g:Nat->Value): List Value:=(List.range d).flatMap λl=>[f l,g l]
theorem Jzl(d:Nat)(f g:Nat->Value): Jvl (d+1) f g=Jvl d f g++[f d,g d]:=by simp [Jvl,List.range_succ,List.flatMap_append]
theorem Jqg(d:Nat)(f g:Nat->Value): (Jvl d f g).length=d*2:=by
 induction d with
 | zero=>rfl
 | succ d ih=>rw [Jzl,List.length_append,ih];simp;omega
theorem Jzv(d:Nat)(f g:Nat->Value){l:Nat}(h:l<d): (Jvl d f g)[l*2]?=some (f l)/\(Jvl d f g)[l*2+1]?=some (g l):=by
 induction d with
 | zero=>omega
 | succ d ih=>
  rw [Jzl];by_cases e:l=d
  .subst e;rw [List.getElem?_append_right (by rw [Jqg];omega),List.getElem?_append_right (by rw [Jqg];omega),Jqg];rw [Nat.sub_self,Nat.add_sub_cancel_left];exact ⟨rfl,rfl⟩
  .rw [List.getElem?_append_left (by rw [Jqg];omega),List.getElem?_append_left (by rw [Jqg];omega)];exact ih om
theorem Jmn{d:Nat}{f g f' g':Nat->Value}(h1:∀ l,l<d->f l=f' l)(h2:∀ l,l<d->g l=g' l): Jvl d f g=Jvl d f' g':=by
 induction d with
 | zero=>rfl
 | succ d ih=>rw [Jzl,Jzl,ih (λl i=>h1 l om) (λl i=>h2 l om),h1 d om,h2 d om]
theorem Jpz(d:Nat)(f g:Nat->Value){l:Nat}(h:l<d)(u:Value): (Jvl d f g).set (l*2) u=Jvl d (upd f l u) g:=by
 induction d with
 | zero=>omega
 | succ d ih=>
  rw [Jzl,Jzl];by_cases e:l=d
  .subst e;rw [List.set_append_right _ _ (by rw [Jqg];omega),Jqg,Nat.sub_self,List.set_cons_zero,Jjp];congr 1
   exact Jmn (λk i=>(Jjl _ _ om).symm) (λk i=>rfl)
  .rw [List.set_append_left _ _ (by rw [Jqg];omega),ih om,Jjl _ _ om]
theorem Jpx(d:Nat)(f g:Nat->Value){l:Nat}(h:l<d)(u:Value): (Jvl d f g).set (l*2+1) u=Jvl d f (upd g l u):=by
 induction d with
 | zero=>omega
 | succ d ih=>
  rw [Jzl,Jzl];by_cases e:l=d
  .subst e;rw [List.set_append_right _ _ (by rw [Jqg];omega),Jqg,Nat.add_sub_cancel_left,List.set_cons_succ,List.set_cons_zero,Jjp];congr 1
   exact Jmn (λk i=>rfl) (λk i=>(Jjl _ _ om).symm)
  .rw [List.set_append_left _ _ (by rw [Jqg];omega),ih om,Jjl _ _ om]
theorem apb{P:Program}{n:Nat}{al:AL}{w:World}{Q:Exit->Act->World->Prop}{ops:Array Oper}{rest:List Oper}{d ty:Nat}{pos:String}{aft:Array Edge}{t e sz bytes base:Nat}{z:Value}(hE:ElT P t e sz bytes z){x y:Operand}{v:Value}{m:Nat}{xs:List Value}{A':Option Addr}{m' c':Nat}{news:List Value}(ha:w.ownsRow base e sz v m xs)(hr:Rd w sz A' m' news)(h1:∀ u∈news,u.oneCell'=true)(h63:m+m'<=maxLen)(hby:(m+m')*bytes<=140737488355328)(hbase:base<=w.heap.size)(kk:∀ v' w',w'.ownsRow base e sz v' (m+m') (xs++news)->w.grownBy w' v.ownBlock->(∀ g,v'.ownBlock=some g->v.ownBlock=some g∨w.heap.size<=g)->WL P n ops Q rest ((d,v')::al) w')(hx:ev al x=some v:=by rfl)(hy:ev al y=some (.slice A' m' c'):=by rfl)(hd:Nat.blt d n=true:=by rfl):
  WL P n ops Q (⟨some d,.call { callee:=.builtin .append,args:=#[x,y],argTypes:=#[t,t] },ty,pos,aft,none⟩::rest) al w:=by
 obtain ⟨v',w',i,O,J,G,C,o⟩:=Jbv hE base ty (.inl ha) (c':=c') hr h1 h63 hby hbase;refine wop hd (λa j=>?_) (kk v' w' (G ha) (C.elim (·.2) (λh=>Jqh h _)) o)
 simp [execOp,resolve,invoke,builtin,j.ev hx,j.ev hy,i]
end Go.Wk
