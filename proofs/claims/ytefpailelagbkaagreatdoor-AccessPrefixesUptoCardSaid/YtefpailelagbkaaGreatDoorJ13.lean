/- Part 13 of the proof: Chk2, Tri, Fam. -/
import Derived.Test.YtefpailelagbkaaGreatDoorJ12
set_option linter.unusedVariables false
set_option maxRecDepth 100000
set_option maxHeartbeats 40000000
namespace Go.Proofs.YtefpailelagbkaaGreatDoor
open Go.RowKit Pl Go.Wk
attribute [local irreducible] WC WL QX WD WDB WP
structure Inp where
 n: Int
 free:Int
 desc:List Bool
 perm:List Int
 ats:List Atm
def InC(w:World)(i:Inp)(cs:List Value): Prop:=∃ vd vp va,cs=[.int .i64 i.n,.int .i64 i.free,vd,vp,va]/\BoolsV w vd i.desc/\IntsV w vp i.perm/\AtsV w va i.ats
theorem InC.ext{w w':World}{i:Inp}{cs:List Value}(h:InC w i cs)(hx:Ext w w'): InC w' i cs:=by
 obtain ⟨vd,vp,va,e,h1,h2,h3⟩:=h;exact ⟨vd,vp,va,e,h1.ext hx,h2.ext hx,h3.ext hx⟩
def InV(w:World)(v:Value)(i:Inp): Prop:=∃ cs,v=.agg cs.toArray/\InC w i cs
theorem InV.ext{w w':World}{v:Value}{i:Inp}(h:InV w v i)(hx:Ext w w'): InV w' v i:=by
 obtain ⟨cs,e,h⟩:=h;exact ⟨cs,e,h.ext hx⟩
def Xwn(i:Inp): Prop:=0<=i.n/\i.n<=32/\0<=i.free/\i.free<=i.n/\(i.desc.length:Int)=i.free/\(i.perm.length:Int)=i.n-i.free/\(∀ v∈i.perm,i.free<=v/\v<i.n)/\i.perm.Nodup/\Xch i.n i.ats
theorem Jgx{w:World}{v:Value}{inp:Inp}(h:InV w v inp)(hn64:-9223372036854775808<=inp.n/\inp.n<=9223372036854775807)(hf64:-9223372036854775808<=inp.free/\inp.free<=9223372036854775807): Ret Tryz.prog 73 [v] w λu w'=>Ext w w'/\∃ e,u=.int .i64 e/\(e=0↔Xwn inp):=by
 obtain ⟨_,rfl,vd,vp,va,rfl,hvd,hvp,hva⟩:=h;obtain ⟨n,free,desc,perm,ats⟩:=inp;simp only at hvd hvp hva hn64 hf64 ⊢;obtain ⟨D,dc,rfl,hdc,hdm,hdr⟩:=id hvd;obtain ⟨G,gc,rfl,hgc,hgm,hgr⟩:=id hvp;obtain ⟨ts,A,c,_,rfl,_⟩:=id hva;refine Jjb Tryz.func73 Tryz.ntmps73 rfl (by kernel_rfl) rfl ?_;refine ρ ?_;refine bx (cs:=[.int .i64 n,.int .i64 free,.slice D desc.length dc,.slice G perm.length gc,.slice A ts.length c]) ?_;intro w1 b hx1 hb hB;refine ρ ?_;refine Jzm (fun (t:Bool)=>[(1,.pointer (some ⟨b,0,none⟩)),(25,.bool t)]) (λt w'=>w'=w1/\(t=true↔¬ (0<=n/\n<=32/\0<=free/\free<=n))) ?_ ?_
 ·refine ld (hB.at (i:=0) rfl) ?_;refine ρ ?_;refine ki 9 (λh=>?_) (λh=>?_)
  ·have:=of_decide_eq_true h;refine ρ ?_;exact Jjn true sB ⟨rfl,by simp;omega⟩
  have h1:=of_decide_eq_false h;refine ρ ?_;refine ld (hB.at (i:=0) rfl) ?_;refine ρ ?_;refine ki 14 (λh=>?_) (λh=>?_)
  ·have:=of_decide_eq_true h;refine ρ ?_;exact Jjn true sB ⟨rfl,by simp;omega⟩
  have h2:=of_decide_eq_false h;refine ρ ?_;refine ld (hB.at (i:=1) rfl) ?_;refine ρ ?_;refine ki 19 (λh=>?_) (λh=>?_)
  ·have:=of_decide_eq_true h;refine ρ ?_;exact Jjn true sB ⟨rfl,by simp;omega⟩
  have h3:=of_decide_eq_false h;refine ρ ?_;refine ld (hB.at (i:=1) rfl) ?_;refine ρ ?_;refine ld (hB.at (i:=0) rfl) ?_;refine ρ ?_;refine Jjn _ sB ⟨rfl,?_⟩;rw [decide_eq_true_iff];omega
 rintro t w' ⟨rfl,ht⟩;refine ci (λh=>?_) (λh=>?_)
 ·refine ρ ?_;exact Jjq ⟨hx1,3,rfl,⟨λe=>(by cases e),λe=>absurd ⟨e.1,e.2.1,e.2.2.1,e.2.2.2.1⟩ (ht.1 h)⟩⟩
 have hn:0<=n/\n<=32/\0<=free/\free<=n:=by
  by_cases hz:0<=n/\n<=32/\0<=free/\free<=n
  ·exact hz
  ·rw [ht.2 hz]at h;cases h
 obtain ⟨hn0,hn1,hf0,hf1⟩:=hn;obtain ⟨N,rfl⟩:=Int.eq_ofNat_of_zero_le hn0;obtain ⟨F,rfl⟩:=Int.eq_ofNat_of_zero_le hf0;clear h ht;refine ρ ?_;refine ld (hB.at (i:=2) rfl) ?_;refine ρ ?_;refine ld (hB.at (i:=1) rfl) ?_;refine ρ ?_;refine Jzm (fun (t:Bool)=>[(1,.pointer (some ⟨b,0,none⟩)),(42,.bool t)]) (λt w2=>w2=w'/\(t=true↔¬ (desc.length=F/\perm.length+F=N))) ?_ ?_
 ·refine ki 32 (λh=>?_) (λh=>?_)
  ·have:=Jkp h;refine ρ ?_;exact Jjn true sB ⟨rfl,by simp;omega⟩
  have h1:=Jkq h;refine ρ ?_;refine ld (hB.at (i:=3) rfl) ?_;refine ρ ?_;refine ld (hB.at (i:=0) rfl) ?_;refine ρ ?_;refine ld (hB.at (i:=1) rfl) ?_;refine ρ ?_;refine Jjn _ sB ⟨rfl,?_⟩;rw [bne_iff_ne];omega
 rintro t2 w2 ⟨rfl,ht⟩;refine ci (λh=>?_) (λh=>?_)
 ·refine ρ ?_;refine Jjq ⟨hx1,1,rfl,⟨λe=>(by cases e),λe=>absurd ?_ (ht.1 h)⟩⟩;have h5:=e.2.2.2.2.1;have h6:=e.2.2.2.2.2.1;simp only at h5 h6;omega
 have hdp:desc.length=F/\perm.length+F=N:=by
  by_cases hz:desc.length=F/\perm.length+F=N
  ·exact hz
  ·rw [ht.2 hz]at h;cases h
 obtain ⟨hdF,hpN⟩:=hdp;clear h ht;refine ρ ?_;refine ld (hB.at (i:=0) rfl) ?_;refine ρ ?_;refine mkn EB N (by omega) (by unfold maxLen;omega) ?_;intro w3 O hx3 ho3 hO;have ho3':Jhm w3 w2.heap.size (.slice O N N) (List.replicate N false):=by
  rw [Jhm,List.length_replicate,List.map_replicate];have e:(madeCells (Value.bool false).cells (N*1)).toList=List.replicate N (Value.bool false):=by rw [Nat.mul_one];exact Jmm _ _
  rw [e]at ho3;exact ho3
 refine ρ ?_;refine ld ((hB.ext hx3).at (i:=3) rfl) ?_;refine ρ ?_;refine Jjv (fun (i:Nat) (us:List Bool)=>[(1,.pointer (some ⟨b,0,none⟩)),(3,.slice O N N),(47,.slice G perm.length gc),(48,.int .i64 (perm.length:Int)),(49,.int .i64 (i:Int))])
  (λi us w4=>i<=perm.length/\Ext w2 w4/\us.length=N/\Jhm w4 w2.heap.size (.slice O N N) us/\(∀ v∈perm.take i,(F:Int)<=v/\v<N)/\(perm.take i).Nodup/\∀ v:Nat,v<N->(us.getD v false=true↔(v:Int)∈perm.take i)) (λi _=>perm.length-i) 0 (List.replicate N false) sB
  ⟨Nat.zero_le _,hx3,by simp,ho3',λv hv=>by simp at hv,by simp,λv hv=>⟨λe=>by simp [List.getD,hv]at e,λe=>by simp at e⟩⟩ ?_
 rintro i us w4 ⟨hi,hx4,hus,ho4,hin,hnd,huse⟩;have hB4:=hB.ext hx4;have hxw4:=hx1.trans hx4;refine ρ ?_;refine ci (λh=>?_) (λh=>?_)
 ·have li:i<perm.length:=by have:=of_decide_eq_true h;omega
  have hgr4:=hgr.ext hxw4;clear h;have hzm:perm.getD i 0∈perm:=getD_mem' 0 perm li;have htk:perm.take (i+1)=perm.take i++[perm.getD i 0]:=Jjm 0 li;have hnodup:perm.Nodup->perm.getD i 0 ∉ perm.take i:=λhnd hm=>by
   have h1:(perm.take (i+1)).Nodup:=hnd.sublist (List.take_sublist _ _);rw [htk,List.nodup_append]at h1;exact h1.2.2 _ hm _ (List.mem_singleton.2 rfl) rfl
  refine ρ ?_;refine ix i hgr4 li ?_;refine ρ ?_;refine ld (hgr4.cell (Jdr li)) ?_;refine ρ ?_;refine ld (hB4.at (i:=1) rfl) ?_;refine ρ ?_;generalize hz:perm.getD i 0=z at *
  refine Jzm (fun (t:Bool)=>[(1,.pointer (some ⟨b,0,none⟩)),(3,.slice O N N),(47,.slice G perm.length gc),(48,.int .i64 (perm.length:Int)),(49,.int .i64 (i:Int)),(5,.int .i64 z),(68,.bool t)]) (λt w5=>w5=w4/\(t=true↔¬ ((F:Int)<=z/\z<N/\z ∉ perm.take i))) ?_ ?_
  ·refine ki 57 (λh=>?_) (λh=>?_)
   ·have:=of_decide_eq_true h;refine ρ ?_;exact Jjn true sB ⟨rfl,by simp;omega⟩
   have h1:=of_decide_eq_false h;refine ρ ?_;refine ld (hB4.at (i:=0) rfl) ?_;refine ρ ?_;refine ki 63 (λh=>?_) (λh=>?_)
   ·have:=of_decide_eq_true h;refine ρ ?_;exact Jjn true sB ⟨rfl,by simp;omega⟩
   have h2:=of_decide_eq_false h;have hz0:0<=z:=by omega
   obtain ⟨x,rfl⟩:=Int.eq_ofNat_of_zero_le hz0;have lx:x<N:=by omega
   have hRB:Rd w4 1 O N (us.map Value.bool):=by rw [Jhm,hus]at ho4;exact Rd.own ho4
   refine ρ ?_;refine ix x hRB lx ?_;refine ρ ?_;have hxl:x<us.length:=by omega
   refine ld (hRB.cell (Qnh hxl)) ?_;refine ρ ?_;refine Jjn _ sB ⟨rfl,?_⟩;rw [huse x lx];constructor
   ·intro h' h'';exact h''.2.2 h'
   ·intro h';by_cases hm:(x:Int)∈perm.take i
    ·exact hm
    ·exact absurd ⟨by omega,by omega,hm⟩ h'
  rintro t5 w5 ⟨rfl,ht⟩;refine ci (λh=>?_) (λh=>?_)
  ·refine ρ ?_;refine Jjq ⟨hxw4,1,rfl,⟨λe=>(by cases e),λe=>absurd ?_ (ht.1 h)⟩⟩;have h7:=e.2.2.2.2.2.2.1 z hzm;have h8:=hnodup e.2.2.2.2.2.2.2.1;exact ⟨h7.1,h7.2,h8⟩
  have hzr:(F:Int)<=z/\z<N/\z ∉ perm.take i:=by
   by_cases hz:(F:Int)<=z/\z<N/\z ∉ perm.take i
   ·exact hz
   ·rw [ht.2 hz]at h;cases h
  obtain ⟨x,rfl⟩:=Int.eq_ofNat_of_zero_le (show 0<=z by omega);have lx:x<N:=by omega
  rw [Jhm,hus]at ho4;obtain ⟨s1,s2,s3,s4,s5⟩:=Jqq ho4 (q:=x) (by omega) (.bool true);refine ρ ?_;refine ix x (Rd.own ho4) lx ?_;refine ρ ?_;refine sto (s1.trans (Qnh (by omega))) s2 ?_;refine ρ ?_;refine Jjj (i+1) (us.set x true) sO ⟨by omega,Jjk hx4 s5 (λk hk=>by
    obtain ⟨_,_,_,_,hf⟩:=Jjd ho4;exact (hf k hk).1),by simpa using hus,?_,λv hv=>?_,?_,λv hv=>?_⟩ (by omega)
  ·rw [Jhm,List.length_set,hus,List.map_set];exact s3
  ·rw [htk,List.mem_append,List.mem_singleton]at hv;rcases hv with h'|h'
   ·exact hin v h'
   ·rw [h'];exact ⟨hzr.1,hzr.2.1⟩
  ·rw [htk,List.nodup_append];refine ⟨hnd,by simp,λp hp q hq e=>?_⟩;rw [List.mem_singleton]at hq;subst hq;subst e;exact hzr.2.2 hp
  ·rw [Qxn _ _ _ _ (by omega),htk,List.mem_append,List.mem_singleton];by_cases ev:v=x
   ·subst ev;rw [if_pos rfl];exact ⟨λ_=>.inr rfl,λ_=>rfl⟩
   ·rw [if_neg ev,huse v hv];exact ⟨λh'=>.inl h',λh'=>h'.elim id λe=>by omega⟩
 ·have ei:i=perm.length:=by have:=of_decide_eq_false h;omega
  clear h;rw [ei,List.take_of_length_le (Nat.le_refl _)]at hin hnd;refine ρ ?_;refine ld (hB4.at (i:=0) rfl) ?_;refine ρ ?_;refine ld (hB4.at (i:=4) rfl) ?_;refine ρ ?_;refine cl (Jcz (hva.ext hxw4)) ?_;rintro u w5 ⟨hx5,e,rfl,he⟩;refine ρ ?_;refine Jjq ⟨hxw4.trans hx5,e,rfl,he.trans ⟨λh'=>⟨by simp only;omega,by simp only;omega,by simp only;omega,by simp only;omega,by simp only;omega,by simp only;omega,hin,hnd,h'⟩,λh'=>h'.2.2.2.2.2.2.2.2⟩⟩
end Go.Proofs.YtefpailelagbkaaGreatDoor
namespace Go.Proofs.YtefpailelagbkaaGreatDoor
open Pl
def pfx(rs:List Row)(l:Nat): List Row:=ddF (rs.map (List.take l))
theorem Qyf(rs:List Row)(x:Row)(l:Nat): pfx (rs++[x]) l=ddS (pfx rs l) (x.take l):=by
 unfold pfx;rw [List.map_append,List.map_cons,List.map_nil,Jtn]
theorem Qxw: ∀ (a b:Row) (l:Nat),Jxg a b []<=0->Jxg (a.take l) (b.take l) []<=0
 | _,_,0,_=>by simp [Jxg]
 | [],[],_+1,_=>by simp [Jxg]
 | [],_::_,_+1,_=>by simp [Jxg]
 | _::_,[],_+1,h=>by simp [Jxg]at h
 | x::a,y::b,l+1,h=>by
  simp only [List.take_succ_cons,Jxg,List.drop_nil]at h ⊢;by_cases e:cmpV x y=0
  ·rw [if_pos e]at h ⊢;exact Qxw a b l h
  ·rw [if_neg e]at h ⊢;exact h
theorem Qpz{rs:List Row}(h:Srt [] rs)(l:Nat): Srt [] (rs.map (List.take l)):=by
 unfold Srt at h ⊢;rw [List.pairwise_map];exact h.imp λhab=>Qxw _ _ l hab
theorem Jcj{rs:List Row}(h:Lt [] rs): Srt [] rs:=h.imp λhab=>by omega
theorem Jmg{rs:List Row}(h:Srt [] rs)(l:Nat): Jvh [] (rs.map (List.take l)) (pfx rs l):=Qmv (Qpz h l)
theorem Jft{rs:List Row}(h:Srt [] rs){l:Nat}{q:Row}: q∈pfx rs l↔∃ r∈rs,r.take l=q:=by
 rw [(Jmg h l).2,List.mem_map]
theorem Qrl{rs:List Row}{d:Nat}(h:Lt [] rs)(hl:∀ r∈rs,r.length=d): pfx rs d=rs:=by
 have e:rs.map (List.take d)=rs:=by
  conv=>rhs;rw [<-List.map_id rs]
  exact List.map_congr_left λr hr=>by rw [List.take_of_length_le (by rw [hl r hr];exact Nat.le_refl _)];rfl
 have h1:=Jmg (Jcj h) d;rw [e]at h1;exact Jbg h1.1 h h1.2
theorem Qyg{rs:List Row}{x:Row}{l:Nat}: (pfx (rs++[x]) l).getLast?=some (x.take l):=by rw [Qyf];exact Qbf _ _
def shr: Row->Row->Nat
 | a::x,b::y=>if a=b then shr x y+1 else 0
 | _,_=>0
theorem Qkc(y:Row): shr [] y=0:=by cases y<;>rfl
theorem Xjg: ∀ x y:Row,shr x y<=x.length/\shr x y<=y.length
 | [],y=>by rw [Qkc];simp
 | _::_,[]=>by simp [shr]
 | a::x,b::y=>by
  have:=Xjg x y;simp only [shr,List.length_cons];split<;>omega
theorem Jsg: ∀ (x y:Row) (l:Nat),x.length=y.length->(x.take l=y.take l↔l<=shr x y∨x=y)
 | [],[],l,_=>by simp
 | [],_::_,_,h=>by simp at h
 | _::_,[],_,h=>by simp at h
 | a::x,b::y,0,_=>by simp
 | a::x,b::y,l+1,h=>by
  have ih:=Jsg x y l (by simpa using h);simp only [List.take_succ_cons,List.cons.injEq,shr];by_cases e:a=b
  ·rw [if_pos e,ih];constructor
   ·rintro ⟨_,h'|h'⟩
    ·exact .inl (by omega)
    ·exact .inr ⟨e,h'⟩
   ·rintro (h'|h')
    ·exact ⟨e,.inl (by omega)⟩
    ·exact ⟨e,.inr h'.2⟩
  ·rw [if_neg e];constructor
   ·rintro ⟨h',_⟩;exact absurd h' e
   ·rintro (h'|h')
    ·omega
    ·exact absurd h'.1 e
def lvl(rs:List Row)(l:Nat): Row:=(pfx rs (l+1)).map λq=>q.getD l V0
theorem Jfz(rs:List Row)(l:Nat): (lvl rs l).length=(pfx rs (l+1)).length:=by simp [lvl]
theorem Xzn{rs:List Row}{l i:Nat}(h:i<(pfx rs (l+1)).length): (lvl rs l).getD i V0=((pfx rs (l+1)).getD i []).getD l V0:=by
 rw [Jjh V0 _ (by rw [Jfz];exact h),Jjh [] _ h];simp [lvl]
def Fst(rs:List Row)(l:Nat)(f:List Nat): Prop:=f.length=(pfx rs (l+1)).length/\(∀ j,j<f.length->f.getD j 0<=(pfx rs (l+2)).length) /\
 ∀ j i,j<f.length->i<(pfx rs (l+2)).length->(((pfx rs (l+2)).getD i []).take (l+1)=(pfx rs (l+1)).getD j []↔f.getD j 0<=i/\(j+1<f.length->i<f.getD (j+1) 0))
def stp(rs:List Row)(x:Row): Nat:=match rs.getLast? with
 | some y=>shr y x
 | none=>0
theorem Jvz{rs:List Row}{x:Row}{d:Nat}(h:Lt [] (rs++[x]))(hl:∀ r∈rs++[x],r.length=d){l:Nat}(h0:0<l): pfx (rs++[x]) l=if l<=stp rs x then pfx rs l else pfx rs l++[x.take l]:=by
 rw [Qyf];rcases List.eq_nil_or_concat rs with rfl|⟨r,y,rfl⟩
 ·rw [if_neg (by simp [stp];omega)];rfl
 ·rw [List.concat_eq_append]at *;have hy:(r++[y]).getLast?=some y:=by simp
  have hyx:Jxg y x []<0:=(List.pairwise_append.1 h).2.2 y (by simp) x (by simp);have hne:y≠x:=λe=>by rw [e,Jxq]at hyx;omega
  have hlen:y.length=x.length:=by rw [hl y (by simp),hl x (by simp)]
  have hst:stp (r++[y]) x=shr y x:=by simp [stp]
  rw [hst,ddS,Qyg];by_cases e:y.take l=x.take l
  ·rw [if_pos (by rw [e]),if_pos (((Jsg y x l hlen).1 e).elim id λh'=>absurd h' hne)]
  ·rw [if_neg (λe'=>e (by injection e')),if_neg (λh'=>e ((Jsg y x l hlen).2 (.inl h')))]
theorem Xxx{rs:List Row}{x:Row}{d:Nat}(h:Lt [] (rs++[x]))(hl:∀ r∈rs++[x],r.length=d){l:Nat}(h0:0<l)(hs:stp rs x<l): x.take l ∉ pfx rs l:=by
 have e:=Jvz h hl h0;rw [if_neg (by omega)]at e;have h1:=(Jmg (Jcj h) l).1;rw [e]at h1;intro hm;have:=(List.pairwise_append.1 h1).2.2 _ hm (x.take l) (by simp);rw [Jxq]at this;omega
theorem Qrw{l:List Row}(h:Lt [] l){i j:Nat}(hi:i<l.length)(hj:j<l.length)(e:l.getD i []=l.getD j []): i=j:=by
 rcases Nat.lt_trichotomy i j with h'|h'|h'
 ·have:=h.at h' hj;rw [e,Jxq]at this;omega
 ·exact h'
 ·have:=h.at h' hi;rw [e,Jxq]at this;omega
theorem Jwg{α:Type}(z:α)(l:List α)(x:α)(k:Nat): (l++[x]).getD k z=if k<l.length then l.getD k z else if k=l.length then x else z:=by
 simp only [List.getD];by_cases h:k<l.length
 ·rw [if_pos h,List.getElem?_append_left h]
 ·rw [if_neg h,List.getElem?_append_right (by omega)];by_cases e:k=l.length
  ·rw [if_pos e,e,Nat.sub_self];rfl
  ·rw [if_neg e,List.getElem?_eq_none (by simp;omega)];rfl
theorem take_take'(q:Row)(l:Nat): (q.take (l+2)).take (l+1)=q.take (l+1):=by rw [List.take_take,Nat.min_eq_left (by omega)]
theorem Xyp{rs:List Row}(h:Srt [] rs){l i:Nat}(hi:i<(pfx rs (l+2)).length): ((pfx rs (l+2)).getD i []).take (l+1)∈pfx rs (l+1):=by
 obtain ⟨r,hr,e⟩:=(Jft h).1 (getD_mem' [] _ hi);rw [<-e,take_take'];exact (Jft h).2 ⟨r,hr,rfl⟩
theorem Fst.keep{rs:List Row}{x:Row}{d l:Nat}{f:List Nat}(hF:Fst rs l f)(h:Lt [] (rs++[x]))(hl:∀ r∈rs++[x],r.length=d)(hs:l+1<=stp rs x): Fst (rs++[x]) l f:=by
 obtain ⟨h1,h2,h3⟩:=hF;have e1:pfx (rs++[x]) (l+1)=pfx rs (l+1):=by rw [Jvz h hl (by omega),if_pos hs]
 have hsub:Lt [] rs:=(List.pairwise_append.1 h).1;have hlast:0<(pfx rs (l+1)).length/\(pfx rs (l+1)).getD ((pfx rs (l+1)).length-1) []=x.take (l+1):=by
  have h5:=Qyg (rs:=rs) (x:=x) (l:=l+1);rw [e1,List.getLast?_eq_getElem?]at h5;have h6:=(List.getElem?_eq_some_iff.1 h5);obtain ⟨h7,h8⟩:=h6;exact ⟨by omega,by rw [Jjh [] _ h7,h8]⟩
 have lt1:Lt [] (pfx rs (l+1)):=(Jmg (Jcj hsub) _).1;by_cases hs2:l+2<=stp rs x
 ·have e2:pfx (rs++[x]) (l+2)=pfx rs (l+2):=by rw [Jvz h hl (by omega),if_pos hs2]
  unfold Fst;rw [e1,e2];exact ⟨h1,h2,h3⟩
 ·have e2:pfx (rs++[x]) (l+2)=pfx rs (l+2)++[x.take (l+2)]:=by rw [Jvz h hl (by omega),if_neg hs2]
  unfold Fst;rw [e1,e2];refine ⟨h1,λj hj=>?_,λj i hj hi=>?_⟩
  ·have:=h2 j hj;rw [List.length_append];omega
  ·rw [List.length_append,List.length_singleton]at hi;rw [Jwg];by_cases hi2:i<(pfx rs (l+2)).length
   ·rw [if_pos hi2];exact h3 j i hj hi2
   ·rw [if_neg hi2,if_pos (by omega),take_take',<-hlast.2];have ei:i=(pfx rs (l+2)).length:=by omega
    constructor
    ·intro e;have ej:=Qrw lt1 (by omega) (by omega) e;exact ⟨by rw [ei];exact h2 j hj,λh'=>by omega⟩
    ·rintro ⟨_,h'⟩;by_cases ej:j+1<f.length
     ·have:=h' ej;have:=h2 (j+1) ej;omega
     ·congr 1;omega
theorem Fst.more{rs:List Row}{x:Row}{d l:Nat}{f:List Nat}(hF:Fst rs l f)(h:Lt [] (rs++[x]))(hl:∀ r∈rs++[x],r.length=d)(hs:stp rs x<=l): Fst (rs++[x]) l (f++[(pfx rs (l+2)).length]):=by
 obtain ⟨h1,h2,h3⟩:=hF;have hsub:Lt [] rs:=(List.pairwise_append.1 h).1;have e1:pfx (rs++[x]) (l+1)=pfx rs (l+1)++[x.take (l+1)]:=by rw [Jvz h hl (by omega),if_neg (by omega)]
 have e2:pfx (rs++[x]) (l+2)=pfx rs (l+2)++[x.take (l+2)]:=by rw [Jvz h hl (by omega),if_neg (by omega)]
 have hn:=Xxx h hl (l:=l+1) (by omega) (by omega);unfold Fst;rw [e1,e2];refine ⟨by simp [h1],λj hj=>?_,λj i hj hi=>?_⟩
 ·rw [List.length_append,List.length_singleton]at hj;rw [Jwg,List.length_append,List.length_singleton];by_cases hj2:j<f.length
  ·rw [if_pos hj2];have:=h2 j hj2;omega
  ·rw [if_neg hj2,if_pos (by omega)];omega
 ·rw [List.length_append,List.length_singleton]at hi hj;rw [Jwg [],Jwg [],Jwg 0,Jwg 0,List.length_append,List.length_singleton];by_cases hj2:j<f.length<;>by_cases hi2:i<(pfx rs (l+2)).length
  ·rw [if_pos hi2,if_pos (show j<(pfx rs (l+1)).length by omega),if_pos hj2,h3 j i hj2 hi2];by_cases ej:j+1<f.length
   ·rw [if_pos ej];exact ⟨λh'=>⟨h'.1,λ_=>h'.2 ej⟩,λh'=>⟨h'.1,λ_=>h'.2 (by omega)⟩⟩
   ·rw [if_neg ej,if_pos (by omega)];exact ⟨λh'=>⟨h'.1,λ_=>hi2⟩,λh'=>⟨h'.1,λe=>absurd e ej⟩⟩
  ·rw [if_neg hi2,if_pos (show i=(pfx rs (l+2)).length by omega),if_pos (show j<(pfx rs (l+1)).length by omega),if_pos hj2,take_take'];constructor
   ·intro e;exact absurd (e ▸ getD_mem' [] _ (by omega)) hn
   ·rintro ⟨_,h'⟩;have h4:=h' (by omega);by_cases ej:j+1<f.length
    ·rw [if_pos ej]at h4;have:=h2 (j+1) ej;omega
    ·rw [if_neg ej,if_pos (by omega)]at h4;omega
  ·rw [if_pos hi2,if_neg (show ¬ j<(pfx rs (l+1)).length by omega),if_pos (show j=(pfx rs (l+1)).length by omega),if_neg hj2,if_pos (show j=f.length by omega)];constructor
   ·intro e;exact absurd (e ▸ Xyp (Jcj hsub) hi2) hn
   ·rintro ⟨h',_⟩;omega
  ·rw [if_neg hi2,if_pos (show i=(pfx rs (l+2)).length by omega),if_neg (show ¬ j<(pfx rs (l+1)).length by omega),if_pos (show j=(pfx rs (l+1)).length by omega),if_neg hj2,if_pos (show j=f.length by omega),take_take'];exact ⟨λ_=>⟨by omega,λe=>by omega⟩,λ_=>rfl⟩
def Chl(rs:List Row)(l:Nat)(f:List Nat): Prop:=f.length=(pfx rs (l+1)).length+1/\(∀ j,j<f.length->f.getD j 0<=(pfx rs (l+2)).length) /\
 ∀ j i,j+1<f.length->i<(pfx rs (l+2)).length->(((pfx rs (l+2)).getD i []).take (l+1)=(pfx rs (l+1)).getD j []↔f.getD j 0<=i/\i<f.getD (j+1) 0)
theorem Fst.close{rs:List Row}{l:Nat}{f:List Nat}(hF:Fst rs l f): Chl rs l (f++[(pfx rs (l+2)).length]):=by
 obtain ⟨h1,h2,h3⟩:=hF;refine ⟨by simp [h1],λj hj=>?_,λj i hj hi=>?_⟩
 ·rw [List.length_append,List.length_singleton]at hj;rw [Jwg];by_cases hj2:j<f.length
  ·rw [if_pos hj2];exact h2 j hj2
  ·rw [if_neg hj2,if_pos (by omega)];exact Nat.le_refl _
 ·rw [List.length_append,List.length_singleton]at hj;rw [Jwg 0,Jwg 0,if_pos (by omega),h3 j i (by omega) hi];by_cases ej:j+1<f.length
  ·rw [if_pos ej];exact ⟨λh'=>⟨h'.1,h'.2 ej⟩,λh'=>⟨h'.1,λ_=>h'.2⟩⟩
  ·rw [if_neg ej,if_pos (by omega)];exact ⟨λh'=>⟨h'.1,hi⟩,λh'=>⟨h'.1,λe=>absurd e ej⟩⟩
theorem Fst.nil(l:Nat): Fst [] l []:=⟨rfl,λj hj=>by simp at hj,λj i hj=>by simp at hj⟩
theorem Qyr{rs:List Row}{x:Row}{d l:Nat}(h:Lt [] (rs++[x]))(hl:∀ r∈rs++[x],r.length=d)(hd:l<d): lvl (rs++[x]) l=if l+1<=stp rs x then lvl rs l else lvl rs l++[x.getD l V0]:=by
 unfold lvl;rw [Jvz h hl (by omega)];split
 ·rfl
 ·rw [List.map_append];have:x.length=d:=hl x (by simp);simp [List.getD]
end Go.Proofs.YtefpailelagbkaaGreatDoor
namespace Go.Wk
open Go.RowKit
def upd{α:Type}(f:Nat->α)(i:Nat)(x:α): Nat->α:=λk=>if k=i then x else f k
theorem Jjp{α:Type}(f:Nat->α)(i:Nat)(x:α): upd f i x i=x:=by simp [upd]
theorem Jjl{α:Type}(f:Nat->α){i k:Nat}(x:α)(h:k≠i): upd f i x k=f k:=by simp [upd,h]
structure Fam(w:World)(base e sz n:Nat)(v:Nat->Value)(m:Nat->Nat)(c:Nat->List Value): Prop where
 own:∀ i,i<n->w.ownsRow base e sz (v i) (m i) (c i)
 dis:∀ i j g,i<n->j<n->i≠j->(v i).ownBlock=some g->(v j).ownBlock≠some g
section
variable {w w':World} {base e sz n:Nat} {v:Nat->Value} {m:Nat->Nat} {c:Nat->List Value}
theorem Fam.ext(h:Fam w base e sz n v m c)(hx:Ext w w'): Fam w' base e sz n v m c:=⟨λi hi=>Jjc (h.own i hi) hx,h.dis⟩
theorem Fam.gr{N:Nat->Prop}(h:Fam w base e sz n v m c)(hg:GrN N w w')(hN:∀ i g,i<n->(v i).ownBlock=some g->¬ N g): Fam w' base e sz n v m c:=⟨λi hi=>Jjr (h.own i hi) hg (hN i · hi),h.dis⟩
theorem Fam.other{base' e' sz' m':Nat}{v':Value}{xs:List Value}(h:Fam w base e sz n v m c)(h':w.ownsRow base' e' sz' v' m' xs)(hg:w.grownBy w' v'.ownBlock)(hne:Nat.beq e e'=false): Fam w' base e sz n v m c :=
 ⟨λi hi=>Jjs (h.own i hi) h' hg hne,h.dis⟩
theorem Fam.lt(h:Fam w base e sz n v m c){i g:Nat}(hi:i<n)(hg:(v i).ownBlock=some g): base<=g/\g<w.heap.size:=by
 obtain ⟨_,_,_,_,hf⟩:=Jjd (h.own i hi);exact hf g hg
theorem Fam.upd{i m':Nat}{v':Value}{c':List Value}(h:Fam w base e sz n v m c)(hi:i<n)(ho:w'.ownsRow base e sz v' m' c')(hg:w.grownBy w' (v i).ownBlock)(hb:∀ g,v'.ownBlock=some g->(v i).ownBlock=some g∨w.heap.size<=g):
  Fam w' base e sz n (upd v i v') (upd m i m') (upd c i c'):=by
 refine ⟨λk hk=>?_,λk j g hk hj hkj e1 e2=>?_⟩
 ·by_cases e:k=i
  ·subst e;rw [Jjp,Jjp,Jjp];exact ho
  ·rw [Jjl _ _ e,Jjl _ _ e,Jjl _ _ e];refine (h.own k hk).kept hg ?_;cases hb2:(v k).ownBlock with
   | none=>exact .inl rfl
   | some g=>exact .inr (λe'=>h.dis k i g hk hi e hb2 e'.symm)
 ·by_cases ek:k=i<;>by_cases ej:j=i
  ·omega
  ·subst ek;rw [Jjp]at e1;rw [Jjl _ _ ej]at e2;rcases hb g e1 with h'|h'
   ·exact h.dis k j g hk hj hkj h' e2
   ·have:=(h.lt hj e2).2;omega
  ·subst ej;rw [Jjp]at e2;rw [Jjl _ _ ek]at e1;rcases hb g e2 with h'|h'
   ·exact h.dis k j g hk hj hkj e1 h'
   ·have:=(h.lt hk e1).2;omega
  ·rw [Jjl _ _ ek]at e1;rw [Jjl _ _ ej]at e2;exact h.dis k j g hk hj hkj e1 e2
end
def Jvq(d:Nat)(f g:Nat->Value): List Value:=(List.range d).flatMap λl=>[f l,g l]
theorem Jzq(d:Nat)(f g:Nat->Value): Jvq (d+1) f g=Jvq d f g++[f d,g d]:=by simp [Jvq,List.range_succ,List.flatMap_append]
theorem Jqg(d:Nat)(f g:Nat->Value): (Jvq d f g).length=d*2:=by
 induction d with
 | zero=>rfl
 | succ d ih=>rw [Jzq,List.length_append,ih];simp;omega
theorem Jkb(d:Nat)(f g:Nat->Value){l:Nat}(h:l<d): (Jvq d f g)[l*2]?=some (f l)/\(Jvq d f g)[l*2+1]?=some (g l):=by
 induction d with
 | zero=>omega
 | succ d ih=>
  rw [Jzq];by_cases e:l=d
  ·subst e;rw [List.getElem?_append_right (by rw [Jqg];omega),List.getElem?_append_right (by rw [Jqg];omega),Jqg];rw [Nat.sub_self,Nat.add_sub_cancel_left];exact ⟨rfl,rfl⟩
  ·rw [List.getElem?_append_left (by rw [Jqg];omega),List.getElem?_append_left (by rw [Jqg];omega)];exact ih (by omega)
theorem Jnc{d:Nat}{f g f' g':Nat->Value}(h1:∀ l,l<d->f l=f' l)(h2:∀ l,l<d->g l=g' l): Jvq d f g=Jvq d f' g':=by
 induction d with
 | zero=>rfl
 | succ d ih=>rw [Jzq,Jzq,ih (λl hl=>h1 l (by omega)) (λl hl=>h2 l (by omega)),h1 d (by omega),h2 d (by omega)]
theorem Jrl(d:Nat)(f g:Nat->Value){l:Nat}(h:l<d)(u:Value): (Jvq d f g).set (l*2) u=Jvq d (upd f l u) g:=by
 induction d with
 | zero=>omega
 | succ d ih=>
  rw [Jzq,Jzq];by_cases e:l=d
  ·subst e;rw [List.set_append_right _ _ (by rw [Jqg];omega),Jqg,Nat.sub_self,List.set_cons_zero,Jjp];congr 1
   exact Jnc (λk hk=>(Jjl _ _ (by omega)).symm) (λk hk=>rfl)
  ·rw [List.set_append_left _ _ (by rw [Jqg];omega),ih (by omega),Jjl _ _ (by omega)]
theorem Jrk(d:Nat)(f g:Nat->Value){l:Nat}(h:l<d)(u:Value): (Jvq d f g).set (l*2+1) u=Jvq d f (upd g l u):=by
 induction d with
 | zero=>omega
 | succ d ih=>
  rw [Jzq,Jzq];by_cases e:l=d
  ·subst e;rw [List.set_append_right _ _ (by rw [Jqg];omega),Jqg,Nat.add_sub_cancel_left,List.set_cons_succ,List.set_cons_zero,Jjp];congr 1
   exact Jnc (λk hk=>rfl) (λk hk=>(Jjl _ _ (by omega)).symm)
  ·rw [List.set_append_left _ _ (by rw [Jqg];omega),ih (by omega),Jjl _ _ (by omega)]
theorem apb{P:Program}{n:Nat}{al:AL}{w:World}{Q:Exit->Act->World->Prop}{ops:Array Oper}{rest:List Oper}{d ty:Nat}{pos:String}{aft:Array Edge}{t e sz bytes base:Nat}{z:Value}(hE:ElT P t e sz bytes z){x y:Operand}{v:Value}{m:Nat}{xs:List Value}{A':Option Addr}{m' c':Nat}{news:List Value}(ha:w.ownsRow base e sz v m xs)(hr:Rd w sz A' m' news)(h1:∀ u∈news,u.oneCell'=true)(h63:m+m'<=maxLen)(hby:(m+m')*bytes<=140737488355328)(hbase:base<=w.heap.size)(kk:∀ v' w',w'.ownsRow base e sz v' (m+m') (xs++news)->w.grownBy w' v.ownBlock->(∀ g,v'.ownBlock=some g->v.ownBlock=some g∨w.heap.size<=g)->WL P n ops Q rest ((d,v')::al) w')(hx:ev al x=some v:=by rfl)(hy:ev al y=some (.slice A' m' c'):=by rfl)(hd:Nat.blt d n=true:=by rfl):
  WL P n ops Q (⟨some d,.call { callee:=.builtin .append,args:=#[x,y],argTypes:=#[t,t] },ty,pos,aft,none⟩::rest) al w:=by
 obtain ⟨v',w',hrun,k1,k2,k3,k4,k5⟩:=Jcc hE base ty (.inl ha) (c':=c') hr h1 h63 hby hbase;refine wop hd (λa ha'=>?_) (kk v' w' (k3 ha) (k4.elim (·.2) (λh=>Jqj h _)) k5)
 simp [execOp,resolve,invoke,builtin,ha'.ev hx,ha'.ev hy,hrun]
end Go.Wk
