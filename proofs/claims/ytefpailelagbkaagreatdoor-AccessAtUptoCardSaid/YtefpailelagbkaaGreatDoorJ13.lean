/- Part 13 of the proof: Tri, Fam. -/
import Derived.Test.YtefpailelagbkaaGreatDoorJ12
set_option linter.unusedVariables false
set_option maxRecDepth 100000
set_option maxHeartbeats 40000000
namespace Go.Proofs.YtefpailelagbkaaGreatDoor
open Pl
def pfx(rs:List Row)(l:Nat): List Row:=ddF (rs.map (List.take l))
theorem pfx_snoc(rs:List Row)(x:Row)(l:Nat): pfx (rs++[x]) l=ddS (pfx rs l) (x.take l):=by
 unfold pfx;rw [List.map_append,List.map_cons,List.map_nil,ddF_snoc]
theorem cmpR_take: ∀ (a b:Row) (l:Nat),Jxh a b []<=0->Jxh (a.take l) (b.take l) []<=0
 | _,_,0,_=>by simp [Jxh]
 | [],[],_+1,_=>by simp [Jxh]
 | [],_::_,_+1,_=>by simp [Jxh]
 | _::_,[],_+1,h=>by simp [Jxh]at h
 | x::a,y::b,l+1,h=>by
  simp only [List.take_succ_cons,Jxh,List.drop_nil]at h ⊢;by_cases e:Jqh x y=0
  ·rw [if_pos e]at h ⊢;exact cmpR_take a b l h
  ·rw [if_neg e]at h ⊢;exact h
theorem srt_take{rs:List Row}(h:Srt [] rs)(l:Nat): Srt [] (rs.map (List.take l)):=by
 unfold Srt at h ⊢;rw [List.pairwise_map];exact h.imp λhab=>cmpR_take _ _ l hab
theorem Qqn{rs:List Row}(h:Lt [] rs): Srt [] rs:=h.imp λhab=>by omega
theorem pfx_set{rs:List Row}(h:Srt [] rs)(l:Nat): Jvm [] (rs.map (List.take l)) (pfx rs l):=ddF_set (srt_take h l)
theorem pfx_mem{rs:List Row}(h:Srt [] rs){l:Nat}{q:Row}: q∈pfx rs l↔∃ r∈rs,r.take l=q:=by
 rw [(pfx_set h l).2,List.mem_map]
theorem pfx_full{rs:List Row}{d:Nat}(h:Lt [] rs)(hl:∀ r∈rs,r.length=d): pfx rs d=rs:=by
 have e:rs.map (List.take d)=rs:=by
  conv=>rhs;rw [<-List.map_id rs]
  exact List.map_congr_left λr hr=>by rw [List.take_of_length_le (by rw [hl r hr];exact Nat.le_refl _)];rfl
 have h1:=pfx_set (Qqn h) d;rw [e]at h1;exact Qjl h1.1 h h1.2
theorem pfx_last{rs:List Row}{x:Row}{l:Nat}: (pfx (rs++[x]) l).getLast?=some (x.take l):=by rw [pfx_snoc];exact ddS_last _ _
def shr: Row->Row->Nat
 | a::x,b::y=>if a=b then shr x y+1 else 0
 | _,_=>0
theorem shr_nil(y:Row): shr [] y=0:=by cases y<;>rfl
theorem shr_le: ∀ x y:Row,shr x y<=x.length/\shr x y<=y.length
 | [],y=>by rw [shr_nil];simp
 | _::_,[]=>by simp [shr]
 | a::x,b::y=>by
  have:=shr_le x y;simp only [shr,List.length_cons];split<;>omega
theorem shr_take: ∀ (x y:Row) (l:Nat),x.length=y.length->(x.take l=y.take l↔l<=shr x y∨x=y)
 | [],[],l,_=>by simp
 | [],_::_,_,h=>by simp at h
 | _::_,[],_,h=>by simp at h
 | a::x,b::y,0,_=>by simp
 | a::x,b::y,l+1,h=>by
  have ih:=shr_take x y l (by simpa using h);simp only [List.take_succ_cons,List.cons.injEq,shr];by_cases e:a=b
  ·rw [if_pos e,ih];constructor
   ·rintro ⟨_,h'|h'⟩
    ·exact .inl (by omega)
    ·exact .inr ⟨e,h'⟩
   ·rintro (h'|h')
    ·exact ⟨e,.inl (by omega)⟩
    ·exact ⟨e,.inr h'.2⟩
  ·rw [if_neg e];constructor
   ·rintro ⟨h',_⟩;exact absurd h' e
   ·rintro (h'|h')
    ·omega
    ·exact absurd h'.1 e
def lvl(rs:List Row)(l:Nat): Row:=(pfx rs (l+1)).map λq=>q.getD l V0
theorem lvl_len(rs:List Row)(l:Nat): (lvl rs l).length=(pfx rs (l+1)).length:=by simp [lvl]
theorem lvl_get{rs:List Row}{l i:Nat}(h:i<(pfx rs (l+1)).length): (lvl rs l).getD i V0=((pfx rs (l+1)).getD i []).getD l V0:=by
 rw [Jjh V0 _ (by rw [lvl_len];exact h),Jjh [] _ h];simp [lvl]
def Fst(rs:List Row)(l:Nat)(f:List Nat): Prop:=f.length=(pfx rs (l+1)).length/\(∀ j,j<f.length->f.getD j 0<=(pfx rs (l+2)).length) /\
 ∀ j i,j<f.length->i<(pfx rs (l+2)).length->(((pfx rs (l+2)).getD i []).take (l+1)=(pfx rs (l+1)).getD j []↔f.getD j 0<=i/\(j+1<f.length->i<f.getD (j+1) 0))
def stp(rs:List Row)(x:Row): Nat:=match rs.getLast? with
 | some y=>shr y x
 | none=>0
theorem Jyf{rs:List Row}{x:Row}{d:Nat}(h:Lt [] (rs++[x]))(hl:∀ r∈rs++[x],r.length=d){l:Nat}(h0:0<l): pfx (rs++[x]) l=if l<=stp rs x then pfx rs l else pfx rs l++[x.take l]:=by
 rw [pfx_snoc];rcases List.eq_nil_or_concat rs with rfl|⟨r,y,rfl⟩
 ·rw [if_neg (by simp [stp];omega)];rfl
 ·rw [List.concat_eq_append]at *;have hy:(r++[y]).getLast?=some y:=by simp
  have hyx:Jxh y x []<0:=(List.pairwise_append.1 h).2.2 y (by simp) x (by simp);have hne:y≠x:=λe=>by rw [e,Jxr]at hyx;omega
  have hlen:y.length=x.length:=by rw [hl y (by simp),hl x (by simp)]
  have hst:stp (r++[y]) x=shr y x:=by simp [stp]
  rw [hst,ddS,pfx_last];by_cases e:y.take l=x.take l
  ·rw [if_pos (by rw [e]),if_pos (((shr_take y x l hlen).1 e).elim id λh'=>absurd h' hne)]
  ·rw [if_neg (λe'=>e (by injection e')),if_neg (λh'=>e ((shr_take y x l hlen).2 (.inl h')))]
theorem pfx_new{rs:List Row}{x:Row}{d:Nat}(h:Lt [] (rs++[x]))(hl:∀ r∈rs++[x],r.length=d){l:Nat}(h0:0<l)(hs:stp rs x<l): x.take l ∉ pfx rs l:=by
 have e:=Jyf h hl h0;rw [if_neg (by omega)]at e;have h1:=(pfx_set (Qqn h) l).1;rw [e]at h1;intro hm;have:=(List.pairwise_append.1 h1).2.2 _ hm (x.take l) (by simp);rw [Jxr]at this;omega
theorem lt_nodup{l:List Row}(h:Lt [] l){i j:Nat}(hi:i<l.length)(hj:j<l.length)(e:l.getD i []=l.getD j []): i=j:=by
 rcases Nat.lt_trichotomy i j with h'|h'|h'
 ·have:=h.at h' hj;rw [e,Jxr]at this;omega
 ·exact h'
 ·have:=h.at h' hi;rw [e,Jxr]at this;omega
theorem Jwk{α:Type}(z:α)(l:List α)(x:α)(k:Nat): (l++[x]).getD k z=if k<l.length then l.getD k z else if k=l.length then x else z:=by
 simp only [List.getD];by_cases h:k<l.length
 ·rw [if_pos h,List.getElem?_append_left h]
 ·rw [if_neg h,List.getElem?_append_right (by omega)];by_cases e:k=l.length
  ·rw [if_pos e,e,Nat.sub_self];rfl
  ·rw [if_neg e,List.getElem?_eq_none (by simp;omega)];rfl
theorem take_take'(q:Row)(l:Nat): (q.take (l+2)).take (l+1)=q.take (l+1):=by rw [List.take_take,Nat.min_eq_left (by omega)]
theorem pfx_up{rs:List Row}(h:Srt [] rs){l i:Nat}(hi:i<(pfx rs (l+2)).length): ((pfx rs (l+2)).getD i []).take (l+1)∈pfx rs (l+1):=by
 obtain ⟨r,hr,e⟩:=(pfx_mem h).1 (getD_mem' [] _ hi);rw [<-e,take_take'];exact (pfx_mem h).2 ⟨r,hr,rfl⟩
theorem Fst.keep{rs:List Row}{x:Row}{d l:Nat}{f:List Nat}(hF:Fst rs l f)(h:Lt [] (rs++[x]))(hl:∀ r∈rs++[x],r.length=d)(hs:l+1<=stp rs x): Fst (rs++[x]) l f:=by
 obtain ⟨h1,h2,h3⟩:=hF;have e1:pfx (rs++[x]) (l+1)=pfx rs (l+1):=by rw [Jyf h hl (by omega),if_pos hs]
 have hsub:Lt [] rs:=(List.pairwise_append.1 h).1;have hlast:0<(pfx rs (l+1)).length/\(pfx rs (l+1)).getD ((pfx rs (l+1)).length-1) []=x.take (l+1):=by
  have h5:=pfx_last (rs:=rs) (x:=x) (l:=l+1);rw [e1,List.getLast?_eq_getElem?]at h5;have h6:=(List.getElem?_eq_some_iff.1 h5);obtain ⟨h7,h8⟩:=h6;exact ⟨by omega,by rw [Jjh [] _ h7,h8]⟩
 have lt1:Lt [] (pfx rs (l+1)):=(pfx_set (Qqn hsub) _).1;by_cases hs2:l+2<=stp rs x
 ·have e2:pfx (rs++[x]) (l+2)=pfx rs (l+2):=by rw [Jyf h hl (by omega),if_pos hs2]
  unfold Fst;rw [e1,e2];exact ⟨h1,h2,h3⟩
 ·have e2:pfx (rs++[x]) (l+2)=pfx rs (l+2)++[x.take (l+2)]:=by rw [Jyf h hl (by omega),if_neg hs2]
  unfold Fst;rw [e1,e2];refine ⟨h1,λj hj=>?_,λj i hj hi=>?_⟩
  ·have:=h2 j hj;rw [List.length_append];omega
  ·rw [List.length_append,List.length_singleton]at hi;rw [Jwk];by_cases hi2:i<(pfx rs (l+2)).length
   ·rw [if_pos hi2];exact h3 j i hj hi2
   ·rw [if_neg hi2,if_pos (by omega),take_take',<-hlast.2];have ei:i=(pfx rs (l+2)).length:=by omega
    constructor
    ·intro e;have ej:=lt_nodup lt1 (by omega) (by omega) e;exact ⟨by rw [ei];exact h2 j hj,λh'=>by omega⟩
    ·rintro ⟨_,h'⟩;by_cases ej:j+1<f.length
     ·have:=h' ej;have:=h2 (j+1) ej;omega
     ·congr 1;omega
theorem Fst.more{rs:List Row}{x:Row}{d l:Nat}{f:List Nat}(hF:Fst rs l f)(h:Lt [] (rs++[x]))(hl:∀ r∈rs++[x],r.length=d)(hs:stp rs x<=l): Fst (rs++[x]) l (f++[(pfx rs (l+2)).length]):=by
 obtain ⟨h1,h2,h3⟩:=hF;have hsub:Lt [] rs:=(List.pairwise_append.1 h).1;have e1:pfx (rs++[x]) (l+1)=pfx rs (l+1)++[x.take (l+1)]:=by rw [Jyf h hl (by omega),if_neg (by omega)]
 have e2:pfx (rs++[x]) (l+2)=pfx rs (l+2)++[x.take (l+2)]:=by rw [Jyf h hl (by omega),if_neg (by omega)]
 have hn:=pfx_new h hl (l:=l+1) (by omega) (by omega);unfold Fst;rw [e1,e2];refine ⟨by simp [h1],λj hj=>?_,λj i hj hi=>?_⟩
 ·rw [List.length_append,List.length_singleton]at hj;rw [Jwk,List.length_append,List.length_singleton];by_cases hj2:j<f.length
  ·rw [if_pos hj2];have:=h2 j hj2;omega
  ·rw [if_neg hj2,if_pos (by omega)];omega
 ·rw [List.length_append,List.length_singleton]at hi hj;rw [Jwk [],Jwk [],Jwk 0,Jwk 0,List.length_append,List.length_singleton];by_cases hj2:j<f.length<;>by_cases hi2:i<(pfx rs (l+2)).length
  ·rw [if_pos hi2,if_pos (show j<(pfx rs (l+1)).length by omega),if_pos hj2,h3 j i hj2 hi2];by_cases ej:j+1<f.length
   ·rw [if_pos ej];exact ⟨λh'=>⟨h'.1,λ_=>h'.2 ej⟩,λh'=>⟨h'.1,λ_=>h'.2 (by omega)⟩⟩
   ·rw [if_neg ej,if_pos (by omega)];exact ⟨λh'=>⟨h'.1,λ_=>hi2⟩,λh'=>⟨h'.1,λe=>absurd e ej⟩⟩
  ·rw [if_neg hi2,if_pos (show i=(pfx rs (l+2)).length by omega),if_pos (show j<(pfx rs (l+1)).length by omega),if_pos hj2,take_take'];constructor
   ·intro e;exact absurd (e ▸ getD_mem' [] _ (by omega)) hn
   ·rintro ⟨_,h'⟩;have h4:=h' (by omega);by_cases ej:j+1<f.length
    ·rw [if_pos ej]at h4;have:=h2 (j+1) ej;omega
    ·rw [if_neg ej,if_pos (by omega)]at h4;omega
  ·rw [if_pos hi2,if_neg (show ¬ j<(pfx rs (l+1)).length by omega),if_pos (show j=(pfx rs (l+1)).length by omega),if_neg hj2,if_pos (show j=f.length by omega)];constructor
   ·intro e;exact absurd (e ▸ pfx_up (Qqn hsub) hi2) hn
   ·rintro ⟨h',_⟩;omega
  ·rw [if_neg hi2,if_pos (show i=(pfx rs (l+2)).length by omega),if_neg (show ¬ j<(pfx rs (l+1)).length by omega),if_pos (show j=(pfx rs (l+1)).length by omega),if_neg hj2,if_pos (show j=f.length by omega),take_take'];exact ⟨λ_=>⟨by omega,λe=>by omega⟩,λ_=>rfl⟩
def Chl(rs:List Row)(l:Nat)(f:List Nat): Prop:=f.length=(pfx rs (l+1)).length+1/\(∀ j,j<f.length->f.getD j 0<=(pfx rs (l+2)).length) /\
 ∀ j i,j+1<f.length->i<(pfx rs (l+2)).length->(((pfx rs (l+2)).getD i []).take (l+1)=(pfx rs (l+1)).getD j []↔f.getD j 0<=i/\i<f.getD (j+1) 0)
theorem Fst.close{rs:List Row}{l:Nat}{f:List Nat}(hF:Fst rs l f): Chl rs l (f++[(pfx rs (l+2)).length]):=by
 obtain ⟨h1,h2,h3⟩:=hF;refine ⟨by simp [h1],λj hj=>?_,λj i hj hi=>?_⟩
 ·rw [List.length_append,List.length_singleton]at hj;rw [Jwk];by_cases hj2:j<f.length
  ·rw [if_pos hj2];exact h2 j hj2
  ·rw [if_neg hj2,if_pos (by omega)];exact Nat.le_refl _
 ·rw [List.length_append,List.length_singleton]at hj;rw [Jwk 0,Jwk 0,if_pos (by omega),h3 j i (by omega) hi];by_cases ej:j+1<f.length
  ·rw [if_pos ej];exact ⟨λh'=>⟨h'.1,h'.2 ej⟩,λh'=>⟨h'.1,λ_=>h'.2⟩⟩
  ·rw [if_neg ej,if_pos (by omega)];exact ⟨λh'=>⟨h'.1,hi⟩,λh'=>⟨h'.1,λe=>absurd e ej⟩⟩
theorem Fst.nil(l:Nat): Fst [] l []:=⟨rfl,λj hj=>by simp at hj,λj i hj=>by simp at hj⟩
theorem lvl_step{rs:List Row}{x:Row}{d l:Nat}(h:Lt [] (rs++[x]))(hl:∀ r∈rs++[x],r.length=d)(hd:l<d): lvl (rs++[x]) l=if l+1<=stp rs x then lvl rs l else lvl rs l++[x.getD l V0]:=by
 unfold lvl;rw [Jyf h hl (by omega)];split
 ·rfl
 ·rw [List.map_append];have:x.length=d:=hl x (by simp);simp [List.getD]
end Go.Proofs.YtefpailelagbkaaGreatDoor
namespace Go.Wk
open Go.RowKit
def upd{α:Type}(f:Nat->α)(i:Nat)(x:α): Nat->α:=λk=>if k=i then x else f k
theorem Jjp{α:Type}(f:Nat->α)(i:Nat)(x:α): upd f i x i=x:=by simp [upd]
theorem Jjl{α:Type}(f:Nat->α){i k:Nat}(x:α)(h:k≠i): upd f i x k=f k:=by simp [upd,h]
structure Fam(w:World)(base e sz n:Nat)(v:Nat->Value)(m:Nat->Nat)(c:Nat->List Value): Prop where
 own:∀ i,i<n->w.ownsRow base e sz (v i) (m i) (c i)
 dis:∀ i j g,i<n->j<n->i≠j->(v i).ownBlock=some g->(v j).ownBlock≠some g
section
variable {w w':World} {base e sz n:Nat} {v:Nat->Value} {m:Nat->Nat} {c:Nat->List Value}
theorem Fam.ext(h:Fam w base e sz n v m c)(hx:Ext w w'): Fam w' base e sz n v m c:=⟨λi hi=>Jjc (h.own i hi) hx,h.dis⟩
theorem Fam.gr{N:Nat->Prop}(h:Fam w base e sz n v m c)(hg:GrN N w w')(hN:∀ i g,i<n->(v i).ownBlock=some g->¬ N g): Fam w' base e sz n v m c:=⟨λi hi=>Jjr (h.own i hi) hg (hN i · hi),h.dis⟩
theorem Fam.other{base' e' sz' m':Nat}{v':Value}{xs:List Value}(h:Fam w base e sz n v m c)(h':w.ownsRow base' e' sz' v' m' xs)(hg:w.grownBy w' v'.ownBlock)(hne:Nat.beq e e'=false): Fam w' base e sz n v m c :=
 ⟨λi hi=>Jjt (h.own i hi) h' hg hne,h.dis⟩
theorem Fam.lt(h:Fam w base e sz n v m c){i g:Nat}(hi:i<n)(hg:(v i).ownBlock=some g): base<=g/\g<w.heap.size:=by
 obtain ⟨_,_,_,_,hf⟩:=Jjd (h.own i hi);exact hf g hg
theorem Fam.upd{i m':Nat}{v':Value}{c':List Value}(h:Fam w base e sz n v m c)(hi:i<n)(ho:w'.ownsRow base e sz v' m' c')(hg:w.grownBy w' (v i).ownBlock)(hb:∀ g,v'.ownBlock=some g->(v i).ownBlock=some g∨w.heap.size<=g):
  Fam w' base e sz n (upd v i v') (upd m i m') (upd c i c'):=by
 refine ⟨λk hk=>?_,λk j g hk hj hkj e1 e2=>?_⟩
 ·by_cases e:k=i
  ·subst e;rw [Jjp,Jjp,Jjp];exact ho
  ·rw [Jjl _ _ e,Jjl _ _ e,Jjl _ _ e];refine (h.own k hk).kept hg ?_;cases hb2:(v k).ownBlock with
   | none=>exact .inl rfl
   | some g=>exact .inr (λe'=>h.dis k i g hk hi e hb2 e'.symm)
 ·by_cases ek:k=i<;>by_cases ej:j=i
  ·omega
  ·subst ek;rw [Jjp]at e1;rw [Jjl _ _ ej]at e2;rcases hb g e1 with h'|h'
   ·exact h.dis k j g hk hj hkj h' e2
   ·have:=(h.lt hj e2).2;omega
  ·subst ej;rw [Jjp]at e2;rw [Jjl _ _ ek]at e1;rcases hb g e2 with h'|h'
   ·exact h.dis k j g hk hj hkj e1 h'
   ·have:=(h.lt hk e1).2;omega
  ·rw [Jjl _ _ ek]at e1;rw [Jjl _ _ ej]at e2;exact h.dis k j g hk hj hkj e1 e2
end
def Jvv(d:Nat)(f g:Nat->Value): List Value:=(List.range d).flatMap λl=>[f l,g l]
theorem Jzr(d:Nat)(f g:Nat->Value): Jvv (d+1) f g=Jvv d f g++[f d,g d]:=by simp [Jvv,List.range_succ,List.flatMap_append]
theorem Jqg(d:Nat)(f g:Nat->Value): (Jvv d f g).length=d*2:=by
 induction d with
 | zero=>rfl
 | succ d ih=>rw [Jzr,List.length_append,ih];simp;omega
theorem Jkc(d:Nat)(f g:Nat->Value){l:Nat}(h:l<d): (Jvv d f g)[l*2]?=some (f l)/\(Jvv d f g)[l*2+1]?=some (g l):=by
 induction d with
 | zero=>omega
 | succ d ih=>
  rw [Jzr];by_cases e:l=d
  ·subst e;rw [List.getElem?_append_right (by rw [Jqg];omega),List.getElem?_append_right (by rw [Jqg];omega),Jqg];rw [Nat.sub_self,Nat.add_sub_cancel_left];exact ⟨rfl,rfl⟩
  ·rw [List.getElem?_append_left (by rw [Jqg];omega),List.getElem?_append_left (by rw [Jqg];omega)];exact ih (by omega)
theorem flat2_congr{d:Nat}{f g f' g':Nat->Value}(h1:∀ l,l<d->f l=f' l)(h2:∀ l,l<d->g l=g' l): Jvv d f g=Jvv d f' g':=by
 induction d with
 | zero=>rfl
 | succ d ih=>rw [Jzr,Jzr,ih (λl hl=>h1 l (by omega)) (λl hl=>h2 l (by omega)),h1 d (by omega),h2 d (by omega)]
theorem flat2_set1(d:Nat)(f g:Nat->Value){l:Nat}(h:l<d)(u:Value): (Jvv d f g).set (l*2) u=Jvv d (upd f l u) g:=by
 induction d with
 | zero=>omega
 | succ d ih=>
  rw [Jzr,Jzr];by_cases e:l=d
  ·subst e;rw [List.set_append_right _ _ (by rw [Jqg];omega),Jqg,Nat.sub_self,List.set_cons_zero,Jjp];congr 1
   exact flat2_congr (λk hk=>(Jjl _ _ (by omega)).symm) (λk hk=>rfl)
  ·rw [List.set_append_left _ _ (by rw [Jqg];omega),ih (by omega),Jjl _ _ (by omega)]
theorem flat2_set2(d:Nat)(f g:Nat->Value){l:Nat}(h:l<d)(u:Value): (Jvv d f g).set (l*2+1) u=Jvv d f (upd g l u):=by
 induction d with
 | zero=>omega
 | succ d ih=>
  rw [Jzr,Jzr];by_cases e:l=d
  ·subst e;rw [List.set_append_right _ _ (by rw [Jqg];omega),Jqg,Nat.add_sub_cancel_left,List.set_cons_succ,List.set_cons_zero,Jjp];congr 1
   exact flat2_congr (λk hk=>rfl) (λk hk=>(Jjl _ _ (by omega)).symm)
  ·rw [List.set_append_left _ _ (by rw [Jqg];omega),ih (by omega),Jjl _ _ (by omega)]
theorem apb{P:Program}{n:Nat}{al:AL}{w:World}{Q:Exit->Act->World->Prop}{ops:Array Oper}{rest:List Oper}{d ty:Nat}{pos:String}{aft:Array Edge}{t e sz bytes base:Nat}{z:Value}(hE:ElT P t e sz bytes z){x y:Operand}{v:Value}{m:Nat}{xs:List Value}{A':Option Addr}{m' c':Nat}{news:List Value}(ha:w.ownsRow base e sz v m xs)(hr:Rd w sz A' m' news)(h1:∀ u∈news,u.oneCell'=true)(h63:m+m'<=maxLen)(hby:(m+m')*bytes<=140737488355328)(hbase:base<=w.heap.size)(kk:∀ v' w',w'.ownsRow base e sz v' (m+m') (xs++news)->w.grownBy w' v.ownBlock->(∀ g,v'.ownBlock=some g->v.ownBlock=some g∨w.heap.size<=g)->WL P n ops Q rest ((d,v')::al) w')(hx:ev al x=some v:=by rfl)(hy:ev al y=some (.slice A' m' c'):=by rfl)(hd:Nat.blt d n=true:=by rfl):
  WL P n ops Q (⟨some d,.call { callee:=.builtin .append,args:=#[x,y],argTypes:=#[t,t] },ty,pos,aft,none⟩::rest) al w:=by
 obtain ⟨v',w',hrun,k1,k2,k3,k4,k5⟩:=Qqg hE base ty (.inl ha) (c':=c') hr h1 h63 hby hbase;refine wop hd (λa ha'=>?_) (kk v' w' (k3 ha) (k4.elim (·.2) (λh=>Jqm h _)) k5)
 simp [execOp,resolve,invoke,builtin,ha'.ev hx,ha'.ev hy,hrun]
end Go.Wk
