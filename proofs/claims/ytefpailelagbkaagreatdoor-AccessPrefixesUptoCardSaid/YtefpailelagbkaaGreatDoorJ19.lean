/- Part 19 of the proof: Own, Pa. -/
import Derived.Test.YtefpailelagbkaaGreatDoorJ18
set_option linter.unusedVariables false
set_option maxRecDepth 100000
set_option maxHeartbeats 40000000
namespace Go.Wk
open Go.RowKit
def Jbl(base:Nat)(v:Value)(k:Nat): Prop:=k<base∨v.ownBlock=some k
def Jxh{α:Type}(ps:List (List Value×α)): List Value:=ps.flatMap (·.1)
theorem Jmz{α:Type}{sz:Nat}: ∀ {ps:List (List Value×α)},(∀ p∈ps,p.1.length=sz)->(Jxh ps).length=ps.length*sz
 | [],_=>by simp [Jxh]
 | p::ps,h=>by
  have:=Jmz (ps:=ps) λq hq=>h q (List.mem_cons_of_mem _ hq);simp only [Jxh,List.flatMap_cons,List.length_append,List.length_cons,h p (List.mem_cons_self ..),Nat.succ_mul]at this ⊢;omega
theorem Jkt{α:Type}{sz:Nat}: ∀ {ps:List (List Value×α)} {i j:Nat} {p:List Value×α},(∀ p∈ps,p.1.length=sz)->ps[i]?=some p->j<sz->(Jxh ps)[i*sz+j]?=p.1[j]?
 | [],_,_,_,_,h,_=>by cases h
 | q::ps,0,j,p,hl,h,hj=>by
  simp only [List.getElem?_cons_zero,Option.some.injEq]at h;subst h;simp only [Jxh,List.flatMap_cons,Nat.zero_mul,Nat.zero_add];rw [List.getElem?_append_left (by rw [hl q (List.mem_cons_self ..)];exact hj)]
 | q::ps,i+1,j,p,hl,h,hj=>by
  simp only [List.getElem?_cons_succ]at h;have ih:=Jkt (i:=i) (j:=j) (λp hp=>hl p (List.mem_cons_of_mem _ hp)) h hj;simp only [Jxh,List.flatMap_cons]at ih ⊢;rw [List.getElem?_append_right (by rw [hl q (List.mem_cons_self ..),Nat.succ_mul];omega),<-ih,hl q (List.mem_cons_self ..)];congr 1
  rw [Nat.succ_mul];omega
section
variable {α:Type} {E:TypeId} {sz:Nat} {Φ:World->List Value->α->Prop} {w w':World} {base:Nat} {v:Value} {ls:List α}
def OwnG(E:TypeId)(sz:Nat)(Φ:World->List Value->α->Prop)(w:World)(base:Nat)(v:Value)(ls:List α): Prop :=
 ∃ ps:List (List Value×α),ls=ps.map (·.2)/\w.ownsRow base E sz v ps.length (Jxh ps)/\∀ p∈ps,p.1.length=sz/\Off (Jbl base v) w (λu=>Φ u p.1 p.2)
def GV(sz:Nat)(Φ:World->List Value->α->Prop)(w:World)(v:Value)(ls:List α): Prop :=
 ∃ (ps:List (List Value×α)) (A:Option Addr) (c:Nat),ls=ps.map (·.2)/\v=.slice A ps.length c/\ps.length<=c/\ps.length<=1100000/\Rd w sz A ps.length (Jxh ps)/\∀ p∈ps,p.1.length=sz/\Φ w p.1 p.2
theorem OwnG.nil(w:World)(base:Nat): OwnG E sz Φ w base (.slice none 0 0) []:=⟨[],rfl,Jxj _ _ _ _,λp hp=>by cases hp⟩
theorem OwnG.gr{N:Nat->Prop}(h:OwnG E sz Φ w base v ls)(hg:GrN N w w')(hN:∀ k,N k->k<base): OwnG E sz Φ w' base v ls:=by
 obtain ⟨ps,e,ho,hp⟩:=h;refine ⟨ps,e,Jjr ho hg (λg eg hn=>?_),λp hm=>⟨(hp p hm).1,(hp p hm).2.gr (hg.mono λk _ hk=>.inl (hN k hk))⟩⟩;obtain ⟨_,_,_,_,hf⟩:=Jjd ho;have:=(hf g eg).1;have:=hN g hn;omega
theorem OwnG.ext(h:OwnG E sz Φ w base v ls)(hx:Ext w w'): OwnG E sz Φ w' base v ls:=h.gr (N:=λ_=>False) (GrN.ext hx) (λk e=>e.elim)
theorem OwnG.form(h:OwnG E sz Φ w base v ls): ∃ A c,v=.slice A ls.length c/\ls.length<=c/\∀ g,v.ownBlock=some g->base<=g/\g<w.heap.size:=by
 obtain ⟨ps,e,ho,hp⟩:=h;obtain ⟨A,c,e1,e2,e3⟩:=Jjd ho;rw [e,List.length_map];exact ⟨A,c,e1,e2,e3⟩
theorem OwnG.gv(h:OwnG E sz Φ w base v ls)(hm:ls.length<=1100000): GV sz Φ w v ls:=by
 obtain ⟨ps,e,ho,hp⟩:=h;obtain ⟨A,c,e1,e2,e3⟩:=Jjd ho;subst e1;exact ⟨ps,A,c,e,rfl,e2,by rw [e,List.length_map]at hm;exact hm,Rd.own ho,λp hm=>⟨(hp p hm).1,(hp p hm).2.here⟩⟩
theorem OwnG.off(h:OwnG E sz Φ w base v ls)(hm:ls.length<=1100000): Off (λk=>k<base) w (λu=>GV sz Φ u v ls):=λw' hg=>(h.gr hg λk hk=>hk).gv hm
theorem GV.ext(h:GV sz Φ w v ls)(hx:Ext w w')(hΦ:∀ cs a,Φ w cs a->Φ w' cs a): GV sz Φ w' v ls:=by
 obtain ⟨ps,A,c,e,e1,e2,e3,hr,hp⟩:=h;exact ⟨ps,A,c,e,e1,e2,e3,hr.ext hx,λp hm=>⟨(hp p hm).1,hΦ _ _ (hp p hm).2⟩⟩
theorem GV.parts(h:GV sz Φ w v ls): ∃ A c cs,v=.slice A ls.length c/\ls.length<=c/\ls.length<=1100000/\Rd w sz A ls.length cs/\∀ i (hi:i<ls.length),∃ ce,ce.length=sz/\Φ w ce ls[i]/\∀ j u,ce[j]?=some u->w.cell? ((adr A (i*sz)).add j)=some u:=by
 obtain ⟨ps,A,c,e,e1,e2,e3,hr,hp⟩:=h;subst e;refine ⟨A,c,Jxh ps,by rw [List.length_map];exact e1,by rw [List.length_map];exact e2,by rw [List.length_map];exact e3,by rw [List.length_map];exact hr,λi hi=>?_⟩;rw [List.length_map]at hi;have hm:=hp ps[i] (List.getElem_mem hi);refine ⟨ps[i].1,hm.1,by rw [List.getElem_map];exact hm.2,λj u hu=>?_⟩;have hj:j<sz:=by
  rcases Nat.lt_or_ge j sz with h'|h'
  ·exact h'
  ·rw [List.getElem?_eq_none (by rw [hm.1];exact h')]at hu;cases hu
 rw [Jqw];exact hr.cell ((Jkt (λp hp'=>(hp p hp').1) (List.getElem?_eq_getElem hi) hj).trans hu)
theorem OwnG.after{ps:List (List Value×α)}(e:ls=ps.map (·.2))(hp:∀ p∈ps,p.1.length=sz/\Off (Jbl base v) w (λu=>Φ u p.1 p.2)){v':Value}{w':World}{cs:List Value}{x:α}(hl:cs.length=sz)(hx:Off (Jbl base v) w (λu=>Φ u cs x))(ho:w'.ownsRow base E sz v' (ps.length+1) (Jxh ps++cs))(hg:w.grownBy w' v.ownBlock)(hn:∀ g,v'.ownBlock=some g->v.ownBlock=some g∨w.heap.size<=g): OwnG E sz Φ w' base v' (ls++[x]):=by
 have hnew:∀ (cs:List Value) (x:α),Off (Jbl base v) w (λu=>Φ u cs x)->Off (Jbl base v') w' (λu=>Φ u cs x):=λcs x h1=>by
  have h2:Off (Jbl base v) w' (λu=>Φ u cs x):=h1.gr (GrN.by hg λk hk=>.inr hk);have h3:Off (λk=>Jbl base v k∨Jbl base v' k) w (λu=>Φ u cs x):=h1.mono λk hk h=>by
   rcases h with h|h|h
   ·exact h
   ·exact .inl h
   ·rcases hn k h with h4|h4
    ·exact .inr h4
    ·omega
  exact (h3.gr (GrN.by hg λk hk=>.inl (.inr hk))).mono λk _ h=>.inr h
 refine ⟨ps++[(cs,x)],by rw [e];simp,?_,λp hm=>?_⟩
 ·have e2:Jxh (ps++[(cs,x)])=Jxh ps++cs:=by simp [Jxh]
  rw [List.length_append,e2];exact ho
 ·rcases List.mem_append.1 hm with h'|h'
  ·exact ⟨(hp p h').1,hnew _ _ (hp p h').2⟩
  ·rw [List.mem_singleton.1 h'];exact ⟨hl,hnew _ _ hx⟩
end
theorem apG{P:Program}{n:Nat}{al:AL}{w:World}{Q:Exit->Act->World->Prop}{ops:Array Oper}{rest:List Oper}{d ty:Nat}{pos:String}{aft:Array Edge}{α:Type}{t E sz bytes base:Nat}{z:Value}(hE:ElT P t E sz bytes z){Φ:World->List Value->α->Prop}{x y:Operand}{v:Value}{ls:List α}{b:Nat}{cs:List Value}{a:α}(ho:OwnG E sz Φ w base v ls)(hb:Blk w b E cs)(hl:cs.length=sz)(h1:∀ u∈cs,u.oneCell'=true)(hΦ:Off (Jbl base v) w (λu=>Φ u cs a))(hm:ls.length<=1100000)(hby:bytes<=64)(hbase:base<=w.heap.size)(kk:∀ v' w',OwnG E sz Φ w' base v' (ls++[a])->w.grownBy w' v.ownBlock->(∀ g,v'.ownBlock=some g->v.ownBlock=some g∨w.heap.size<=g)->WL P n ops Q rest ((d,v')::al) w')(hx:ev al x=some v:=by rfl)(hy:ev al y=some (.slice (some ⟨b,0,none⟩) 1 1):=by rfl)(hd:Nat.blt d n=true:=by rfl):
  WL P n ops Q (⟨some d,.call { callee:=.builtin .append,args:=#[x,y],argTypes:=#[t,t] },ty,pos,aft,none⟩::rest) al w:=by
 obtain ⟨ps,e,hr,hp⟩:=ho;have hlen:ps.length<=1100000:=by rw [e,List.length_map]at hm;exact hm
 have hbb:(ps.length+1)*bytes<=1100001*64:=Nat.mul_le_mul (by omega) hby;refine apb hE hr (hb.rd (n:=1) (by omega)) h1 (by unfold maxLen;omega) (by omega) hbase ?_ hx hy hd;intro v' w' ho' hg' hn';exact kk v' w' (OwnG.after e hp hl hΦ ho' hg' hn') hg' hn'
end Go.Wk
namespace Go.Proofs.YtefpailelagbkaaGreatDoor
namespace Pl
def Jjz: Nat->(Nat->Nat)->Nat
 | 0,_=>1
 | n+1,g=>Jjz n g*g n
theorem Jxn{n:Nat}{g h:Nat->Nat}(e:∀ c,c<n->g c=h c): Jjz n g=Jjz n h:=by
 induction n with
 | zero=>rfl
 | succ n ih=>rw [Jjz,Jjz,ih (λc hc=>e c (by omega)),e n (by omega)]
theorem Qhv(n:Nat)(g h:Nat->Nat): Jjz n (λc=>g c*h c)=Jjz n g*Jjz n h:=by
 induction n with
 | zero=>rfl
 | succ n ih=>rw [Jjz,Jjz,Jjz,ih,Nat.mul_assoc,Nat.mul_assoc,Nat.mul_left_comm (Jjz n h)]
theorem Qqk{n:Nat}{g:Nat->Nat}(e:∀ c,c<n->g c=1): Jjz n g=1:=by
 induction n with
 | zero=>rfl
 | succ n ih=>rw [Jjz,ih (λc hc=>e c (by omega)),e n (by omega)]
theorem prodR_pos{n:Nat}{g:Nat->Nat}: 0<Jjz n g↔∀ c,c<n->0<g c:=by
 induction n with
 | zero=>exact ⟨λ_ c hc=>by omega,λ_=>Nat.one_pos⟩
 | succ n ih=>
  rw [Jjz];constructor
  ·intro h c hc;have h1:=Nat.pos_of_mul_pos_right h;have h2:=Nat.pos_of_mul_pos_left h;by_cases e:c=n
   ·rw [e];first|exact h1|exact h2
   ·first|exact ih.1 h1 c (by omega)|exact ih.1 h2 c (by omega)
  ·intro h;exact Nat.mul_pos (ih.2 λc hc=>h c (by omega)) (h n (by omega))
theorem Jmb{n k:Nat}{g:Nat->Nat}(hk:k<n): Jjz n g=g k*Jjz n (λc=>if c=k then 1 else g c):=by
 induction n with
 | zero=>omega
 | succ n ih=>
  rw [Jjz,Jjz];by_cases e:k=n
  ·subst e;rw [if_pos rfl,Nat.mul_one,Nat.mul_comm];congr 1
   exact Jxn λc hc=>by rw [if_neg (by omega)]
  ·rw [if_neg (λe'=>e e'.symm),ih (by omega),Nat.mul_assoc]
section
variable {α:Type}
def tot: List (α×Nat)->Nat
 | []=>0
 | p::l=>p.2+tot l
theorem Jlk(l m:List (α×Nat)): tot (l++m)=tot l+tot m:=by
 induction l with
 | nil=>simp [tot]
 | cons p l ih=>rw [List.cons_append,tot,tot,ih,Nat.add_assoc]
theorem Xqt{l:List (α×Nat)}(h:∀ p∈l,0<p.2): 0<tot l↔l≠[]:=by
 cases l with
 | nil=>simp [tot]
 | cons p l=>have:=h p (List.mem_cons_self ..);simp [tot];omega
def prj(d0:α)(cs:List Nat)(y:List α): List α:=cs.map λc=>y.getD c d0
theorem Xxw(d0:α)(cs:List Nat)(y:List α): (prj d0 cs y).length=cs.length:=by simp [prj]
theorem Jdp{d0:α}{cs:List Nat}{y z:List α}(h:∀ c∈cs,y.getD c d0=z.getD c d0): prj d0 cs y=prj d0 cs z:=List.map_congr_left h
theorem Jyw{d0:α}{y z:List α}{c:Nat}(h:c<y.length): (y++z).getD c d0=y.getD c d0:=by simp [List.getD,List.getElem?_append_left h]
structure AX(α:Type) where
 d0: α
 F:Nat
 ks:Nat->List Nat
 par:Nat->Int
 E:Nat->List α->List (α×Nat)
def AX.key(X:AX α)(c:Nat)(y:List α): List α:=prj X.d0 (X.ks c) y
def AX.T(X:AX α)(c:Nat)(y:List α): Nat:=tot (X.E c (X.key c y))
structure AX.Ok(X:AX α): Prop where
 kl:∀ v,v<X.F->∀ u∈X.ks v,(u:Int)<=X.par v
 pl:∀ v,v<X.F->-1<=X.par v/\X.par v<v
 wt:∀ v,v<X.F->∀ y,y.length=v->∀ p∈X.E v (X.key v y),0<p.2/\p.2=Jjz X.F (λc=>if X.par c=v then X.T c (y++[p.1]) else 1)
def AX.pend(X:AX α)(m:Nat)(y:List α): Nat:=Jjz X.F (λc=>if m<=c/\X.par c<m then X.T c y else 1)
def AX.others(X:AX α)(m:Nat)(y:List α): Nat:=Jjz X.F (λc=>if m<c/\X.par c<m then X.T c y else 1)
def AX.ext(X:AX α): Nat->List α->List (List α)
 | 0,y=>[y]
 | n+1,y=>(X.E y.length (X.key y.length y)).flatMap λp=>X.ext n (y++[p.1])
variable {X:AX α}
theorem AX.Ok.key_pre(h:X.Ok){c:Nat}{y z:List α}(hc:c<X.F)(hp:X.par c<y.length): X.key c (y++z)=X.key c y :=
 Jdp λu hu=>Jyw (by have:=h.kl c hc u hu;omega)
theorem AX.Ok.T_pre(h:X.Ok){c:Nat}{y z:List α}(hc:c<X.F)(hp:X.par c<y.length): X.T c (y++z)=X.T c y:=by rw [AX.T,AX.T,h.key_pre hc hp]
theorem AX.Ok.pend_split(h:X.Ok){y:List α}(hm:y.length<X.F): X.pend y.length y=X.T y.length y*X.others y.length y:=by
 unfold AX.pend AX.others;rw [Jmb hm,if_pos ⟨Nat.le_refl _,(h.pl _ hm).2⟩];congr 1
 refine Jxn λc hc=>?_;by_cases e:c=y.length
 ·rw [if_pos e,if_neg (by omega)]
 ·rw [if_neg e];by_cases e2:y.length<c/\X.par c<y.length
  ·rw [if_pos e2,if_pos ⟨by omega,e2.2⟩]
  ·rw [if_neg e2,if_neg (λh'=>e2 ⟨by omega,h'.2⟩)]
theorem AX.Ok.pend_next(h:X.Ok){y:List α}(hm:y.length<X.F){p:α×Nat}(hp:p∈X.E y.length (X.key y.length y)): X.pend (y.length+1) (y++[p.1])=p.2*X.others y.length y:=by
 rw [(h.wt _ hm y rfl p hp).2];unfold AX.pend AX.others;rw [<-Qhv];refine Jxn λc hc=>?_;have hpl:=h.pl c hc;by_cases e:X.par c=y.length
 ·rw [if_pos e,if_neg (show ¬ (y.length<c/\X.par c<y.length) by omega),if_pos (by omega),Nat.mul_one]
 ·rw [if_neg e,Nat.one_mul];by_cases e2:y.length<c/\X.par c<y.length
  ·rw [if_pos e2,if_pos (by omega),h.T_pre hc e2.2]
  ·rw [if_neg e2,if_neg (by omega)]
theorem Jtk{β:Type}{f:α×Nat->List β}{O:Nat}: ∀ {l:List (α×Nat)},(∀ p∈l,(f p).length=p.2*O)->(l.flatMap f).length=tot l*O
 | [],_=>by simp [tot]
 | p::l,h=>by
  rw [List.flatMap_cons,List.length_append,h p (List.mem_cons_self ..),Jtk λq hq=>h q (List.mem_cons_of_mem _ hq),tot,Nat.add_mul]
theorem Xzx{β:Type}{f:α×Nat->List β}{O k:Nat}{l1 l2:List (α×Nat)}{p:α×Nat}(h:∀ q∈l1++p::l2,(f q).length=q.2*O)(h1:tot l1*O<=k)(h2:k<(tot l1+p.2)*O): ((l1++p::l2).flatMap f)[k]?=(f p)[k-tot l1*O]?:=by
 have e1:(l1.flatMap f).length=tot l1*O:=Jtk λq hq=>h q (List.mem_append_left _ hq);have e2:=h p (List.mem_append_right _ (List.mem_cons_self ..));rw [List.flatMap_append,List.flatMap_cons,List.getElem?_append_right (by omega),e1,List.getElem?_append_left];rw [e2];rw [Nat.add_mul]at h2;omega
theorem AX.Ok.ext_len(h:X.Ok): ∀ (n:Nat) (y:List α),y.length+n=X.F->(X.ext n y).length=X.pend y.length y
 | 0,y,e=>by
  rw [AX.ext,AX.pend,Qqk];rfl;intro c hc;rw [if_neg (by omega)]
 | n+1,y,e=>by
  have hm:y.length<X.F:=by omega
  rw [AX.ext,h.pend_split hm,AX.T];refine Jtk λp hp=>?_;have:=h.ext_len n (y++[p.1]) (by simp;omega);rw [this,List.length_append,List.length_singleton,h.pend_next hm hp]
theorem AX.Ok.ext_at(h:X.Ok){n:Nat}{y:List α}(e:y.length+(n+1)=X.F){k:Nat}{l1 l2:List (α×Nat)}{p:α×Nat}(hE:X.E y.length (X.key y.length y)=l1++p::l2)(ho:0<X.others y.length y)(h1:tot l1<=k / X.others y.length y)(h2:k / X.others y.length y<tot l1+p.2):
  (X.ext (n+1) y)[k]?=(X.ext n (y++[p.1]))[(k / X.others y.length y-tot l1)*X.others y.length y+k % X.others y.length y]?/\(k / X.others y.length y-tot l1)*X.others y.length y+k % X.others y.length y<X.pend (y.length+1) (y++[p.1]):=by
 have hm:y.length<X.F:=by omega
 have hp:p∈X.E y.length (X.key y.length y):=by rw [hE];exact List.mem_append_right _ (List.mem_cons_self ..)
 have hb:∀ q∈X.E y.length (X.key y.length y),(X.ext n (y++[q.1])).length=q.2*X.others y.length y:=λq hq=>by
  rw [h.ext_len n (y++[q.1]) (by simp;omega),List.length_append,List.length_singleton,h.pend_next hm hq]
 rw [h.pend_next hm hp,AX.ext];generalize X.others y.length y=O at *
 have hk:=Nat.div_add_mod k O;have hr:=Nat.mod_lt k ho;rw [hE]at hb ⊢;have a1:tot l1*O<=k:=by
  have:=Nat.mul_le_mul_right O h1;rw [Nat.mul_comm (k / O)]at this;omega
 have a2:k<(tot l1+p.2)*O:=by
  have:=Nat.mul_le_mul_right O h2;rw [Nat.succ_mul,Nat.mul_comm (k / O)]at this;omega
 have e3:(k / O-tot l1)*O+k % O=k-tot l1*O:=by rw [Nat.sub_mul,Nat.mul_comm (k / O)];have:=Nat.mul_le_mul_right O h1;rw [Nat.mul_comm (k / O)]at this;omega
 rw [Xzx hb a1 a2,e3];refine ⟨rfl,?_⟩;rw [Nat.add_mul]at a2;omega
theorem AX.ext_mem: ∀ (n:Nat) (y x:List α),x∈X.ext n y↔x.length=y.length+n/\x.take y.length=y/\∀ v,y.length<=v->v<y.length+n->x.getD v X.d0∈(X.E v (X.key v (x.take v))).map (·.1)
 | 0,y,x=>by
  rw [AX.ext,List.mem_singleton];constructor
  ·rintro rfl;exact ⟨rfl,List.take_length,λv h1 h2=>by omega⟩
  ·rintro ⟨h1,h2,_⟩;rw [<-h2,List.take_of_length_le (by omega)]
 | n+1,y,x=>by
  rw [AX.ext,List.mem_flatMap];constructor
  ·rintro ⟨p,hp,hx⟩;obtain ⟨h1,h2,h3⟩:=(AX.ext_mem n _ x).1 hx;rw [List.length_append,List.length_singleton]at h1 h2 h3;have hy:x.take y.length=y:=by
    have:=congrArg (List.take y.length) h2;rw [List.take_take,Nat.min_eq_left (by omega),List.take_append_of_le_length (Nat.le_refl _),List.take_length]at this;exact this
   refine ⟨by omega,hy,λv h4 h5=>?_⟩;by_cases e:v=y.length
   ·subst e;rw [hy];have:x.getD y.length X.d0=p.1:=by
     have:=congrArg (λl=>l.getD y.length X.d0) h2;simpa [List.getD] using this
    rw [this];exact List.mem_map_of_mem hp
   ·exact h3 v (by omega) (by omega)
  ·rintro ⟨h1,h2,h3⟩;obtain ⟨p,hp,e⟩:=List.mem_map.1 (h3 y.length (Nat.le_refl _) (by omega));rw [h2]at hp;refine ⟨p,hp,(AX.ext_mem n _ x).2 ⟨?_,?_,λv h4 h5=>h3 v ?_ ?_⟩⟩
   ·simp;omega
   ·rw [List.length_append,List.length_singleton,e];have hl:y.length<x.length:=by omega
    rw [List.take_add_one,h2];congr 1
    simp [List.getD,List.getElem?_eq_getElem hl]
   ·simp at h4;omega
   ·simp at h5;omega
end
structure BX(α:Type) where
 d0: α
 N:Nat
 F:Nat
 K:Nat->List Nat
 par:Nat->Int
 pl:Nat->Nat
 ats:List (List Nat×List (List α))
 T:Nat->List α->Nat
 E:Nat->List α->List (α×Nat)
section
variable {α:Type}
def BX.bag(X:BX α)(v:Nat)(z:List α): Prop:=∀ a∈X.ats,∃ r∈a.2,∀ j,j<a.1.length->(a.1.getD j 0=v∨a.1.getD j 0∈X.K v)->r.getD j X.d0=z.getD (a.1.getD j 0) X.d0
def BX.W(X:BX α)(v:Nat)(z:List α): Nat:=Jjz X.N (λc=>if X.par c=v then X.T c (prj X.d0 (X.K c) z) else 1)
structure BX.Ok(X:BX α): Prop where
 FN:X.F<=X.N
 plN:∀ v,v<X.N->X.pl v<X.N
 inj:∀ u v,u<X.N->v<X.N->X.pl u=X.pl v->u=v
 k1:∀ v,v<X.N->∀ u∈X.K v,u<X.N/\X.pl v<X.pl u
 k2:∀ v,v<X.N->(X.K v=[]/\X.par v = -1)∨∃ p:Nat,X.par v=p/\p∈X.K v/\∀ u∈X.K v,X.pl p<=X.pl u
 k3:∀ v,v<X.N->∀ p:Nat,X.par v=p->∀ x∈X.K v,x=p∨x∈X.K p
 k4:∀ a∈X.ats,∀ v∈a.1,(∀ u∈a.1,X.pl v<=X.pl u)->∀ u∈a.1,u=v∨u∈X.K v
 k5:∀ u v,u<X.F->v<u->X.pl u<X.pl v
 k6:∀ u v,u<X.F->X.F<=v->v<X.N->X.pl v<X.pl u
 al:∀ a∈X.ats,(∀ u∈a.1,u<X.N)/\∀ r∈a.2,r.length=a.1.length
 t1:∀ v,X.F<=v->v<X.N->∀ k,X.T v k<=1/\(0<X.T v k↔∃ z,z.length=X.N/\X.bag v z/\prj X.d0 (X.K v) z=k/\0<X.W v z)
 t2:∀ v,v<X.F->∀ k,X.T v k=tot (X.E v k)/\∀ p,p∈X.E v k↔∃ z,z.length=X.N/\X.bag v z/\prj X.d0 (X.K v) z=k/\z.getD v X.d0=p.1/\p.2=X.W v z/\0<p.2
def BX.Join(X:BX α)(z:List α): Prop:=z.length=X.N/\∀ a∈X.ats,prj X.d0 a.1 z∈a.2
def BX.Roots(X:BX α): Prop:=(∀ v,v<X.N->X.par v = -1->0<X.T v [])/\∀ a∈X.ats,a.2≠[]
variable {X:BX α}
theorem Jcw(d0:α){cs:List Nat}{y:List α}{j:Nat}(h:j<cs.length): (prj d0 cs y).getD j d0=y.getD (cs.getD j 0) d0:=by
 simp [prj,List.getD,List.getElem?_eq_getElem h]
theorem BX.Ok.kpar(h:X.Ok){c v:Nat}(hc:c<X.N)(hp:X.par c=v): v∈X.K c/\v<X.N/\X.pl c<X.pl v/\∀ u∈X.K c,u=v∨u∈X.K v:=by
 rcases h.k2 c hc with ⟨_,h2⟩|⟨p,h2,h3,_⟩
 ·rw [h2]at hp;omega
 ·have:p=v:=by omega
  subst this;exact ⟨h3,(h.k1 c hc p h3).1,(h.k1 c hc p h3).2,h.k3 c hc p hp⟩
theorem BX.Ok.kroot(h:X.Ok){c:Nat}(hc:c<X.N)(hp:X.par c = -1): X.K c=[]:=by
 rcases h.k2 c hc with ⟨h2,_⟩|⟨p,h2,_,_⟩
 ·exact h2
 ·omega
theorem BX.bag_congr{v:Nat}{z z':List α}(e:∀ u,u=v∨u∈X.K v->z.getD u X.d0=z'.getD u X.d0)(hb:X.bag v z): X.bag v z':=λa ha=>by
 obtain ⟨r,hr,h1⟩:=hb a ha;exact ⟨r,hr,λj hj hu=>by rw [h1 j hj hu,e _ hu]⟩
theorem BX.Ok.W_congr(h:X.Ok){v:Nat}{z z':List α}(e:∀ u,u=v∨u∈X.K v->z.getD u X.d0=z'.getD u X.d0): X.W v z=X.W v z':=by
 refine Jxn λc hc=>?_;split
 ·rename_i hp;rw [Jdp λu hu=>e u ((h.kpar hc hp).2.2.2 u hu)]
 ·rfl
theorem BX.Ok.join_W(h:X.Ok){z:List α}(hz:X.Join z): (∀ v,X.bag v z)/\∀ v,v<X.N->0<X.W v z/\0<X.T v (prj X.d0 (X.K v) z):=by
 have hb:∀ v,X.bag v z:=λv a ha=>⟨_,hz.2 a ha,λj hj _=>Jcw X.d0 hj⟩;refine ⟨hb,?_⟩;have key:∀ n v,v<X.N->X.pl v<n->0<X.W v z/\0<X.T v (prj X.d0 (X.K v) z):=by
  intro n;induction n with
  | zero=>intro v _ h1;omega
  | succ n ih=>
   intro v hv h1;have hW:0<X.W v z:=by
    refine prodR_pos.2 λc hc=>?_;split
    ·rename_i hp;have:=(h.kpar hc hp).2.2.1;exact (ih c hc (by omega)).2
    ·exact Nat.one_pos
   refine ⟨hW,?_⟩;by_cases hF:v<X.F
   ·rw [(h.t2 v hF _).1];have hm:=((h.t2 v hF (prj X.d0 (X.K v) z)).2 (z.getD v X.d0,X.W v z)).2 ⟨z,hz.1,hb v,rfl,rfl,rfl,hW⟩;obtain ⟨l1,l2,e⟩:=List.append_of_mem hm;rw [e,Jlk,tot];simp only;omega
   ·exact (h.t1 v (by omega) hv _).2.2 ⟨z,hz.1,hb v,rfl,hW⟩
 exact λv hv=>key _ v hv (h.plN v hv)
theorem getD_set'(d0:α)(l:List α)(i k:Nat)(x:α)(hi:i<l.length): (l.set i x).getD k d0=if k=i then x else l.getD k d0:=by
 by_cases e:k=i
 ·subst e;simp [List.getD,hi]
 ·rw [if_neg e];simp [List.getD,List.getElem?_set_ne (λe'=>e e'.symm)]
theorem BX.Ok.choose(h : X.Ok){y : List α}(hy : y.length = X.F)(hE : ∀ v, v < X.F → y.getD v X.d0 ∈ (X.E v (prj X.d0 (X.K v) y)).map (·.1))(hR : X.Roots):
    ∀ n, n ≤ X.N → ∃ z, z.length = X.N ∧ (∀ u, u < X.F → z.getD u X.d0 = y.getD u X.d0) ∧ ∀ v, v < X.N → (v < X.F ∨ X.N ≤ X.pl v + n) → X.bag v z ∧ 0 < X.W v z := by
  intro n
  induction n with
  | zero =>
    intro _
    refine ⟨y ++ List.replicate (X.N - X.F) X.d0, by have := h.FN; simp [hy]; omega, fun u hu => Jyw (by omega), fun v hv hc => ?_⟩
    have hF : v < X.F := hc.resolve_right (by have := h.plN v hv; omega)
    obtain ⟨p, hp, e⟩ := List.mem_map.1 (hE v hF)
    obtain ⟨z, hz, hb, hk, hv', hw, h0⟩ := ((h.t2 v hF _).2 p).1 hp
    have agree : ∀ u, u = v ∨ u ∈ X.K v → z.getD u X.d0 = (y ++ List.replicate (X.N - X.F) X.d0).getD u X.d0 := by
      intro u hu
      have hlt : u < X.F := by
        rcases hu with rfl | hu
        · exact hF
        · have := h.k1 v hv u hu
          rcases Nat.lt_or_ge u X.F with h' | h'
          · exact h'
          · have := h.k6 v u hF h' this.1; omega
      rw [Jyw (by omega)]
      rcases hu with rfl | hu
      · rw [hv', e]
      · obtain ⟨j, hj, ej⟩ := List.getElem_of_mem hu
        have := congrArg (fun l => l.getD j X.d0) hk
        rw [Jcw X.d0 hj, Jcw X.d0 hj] at this
        rw [← ej]; simpa [List.getD, List.getElem?_eq_getElem hj] using this
    exact ⟨BX.bag_congr agree hb, by rw [← h.W_congr agree, ← hw]; exact h0⟩
  | succ n ih =>
    intro hn
    obtain ⟨z, hz, hzy, hg⟩ := ih (by omega)
    by_cases hv : ∃ v, v < X.N ∧ X.F ≤ v ∧ X.pl v + (n + 1) = X.N
    · obtain ⟨v, hvN, hvF, hpl⟩ := hv
      have hT : 0 < X.T v (prj X.d0 (X.K v) z) := by
        rcases h.k2 v hvN with ⟨h1, h2⟩ | ⟨p, h2, h3, _⟩
        · rw [h1]; exact hR.1 v hvN h2
        · have hp := h.kpar hvN h2
          have := (hg p hp.2.1 (.inr (by omega))).2
          have h5 := prodR_pos.1 this v hvN
          rw [if_pos h2] at h5; exact h5
      obtain ⟨z', hz', hb', hk', hw'⟩ := (h.t1 v hvF hvN _).2.1 hT
      have hvz : v < z.length := by omega
      have far : ∀ u, u ≠ v → (z.set v (z'.getD v X.d0)).getD u X.d0 = z.getD u X.d0 := fun u hu => by rw [getD_set' _ _ _ _ _ hvz, if_neg hu]
      refine ⟨z.set v (z'.getD v X.d0), by simp [hz], fun u hu => by rw [far u (by omega)]; exact hzy u hu, fun u hu hc => ?_⟩
      by_cases e : u = v
      · subst e
        have agree : ∀ x, x = u ∨ x ∈ X.K u → z'.getD x X.d0 = (z.set u (z'.getD u X.d0)).getD x X.d0 := by
          intro x hx
          by_cases ex : x = u
          · rw [ex, getD_set' _ _ _ _ _ hvz, if_pos rfl]
          · rw [far x ex]
            have hxK := hx.resolve_left ex
            obtain ⟨j, hj, ej⟩ := List.getElem_of_mem hxK
            have := congrArg (fun l => l.getD j X.d0) hk'
            rw [Jcw X.d0 hj, Jcw X.d0 hj] at this
            rw [← ej]; simpa [List.getD, List.getElem?_eq_getElem hj] using this
        exact ⟨BX.bag_congr agree hb', by rw [← h.W_congr agree]; exact hw'⟩
      · have hlate : X.pl v < X.pl u := by
          rcases hc with hc | hc
          · exact h.k6 u v hc hvF hvN
          · have : X.pl u ≠ X.pl v := fun e' => e (h.inj u v hu hvN e')
            omega
        have agree : ∀ x, x = u ∨ x ∈ X.K u → z.getD x X.d0 = (z.set v (z'.getD v X.d0)).getD x X.d0 := by
          intro x hx
          refine (far x ?_).symm
          rintro rfl
          rcases hx with rfl | hx
          · exact e rfl
          · have := (h.k1 u hu x hx).2; omega
        have hgu := hg u hu (by rcases hc with hc | hc; · exact .inl hc
                                exact .inr (by omega))
        exact ⟨BX.bag_congr agree hgu.1, by rw [← h.W_congr agree]; exact hgu.2⟩
    · refine ⟨z, hz, hzy, fun u hu hc => hg u hu ?_⟩
      rcases hc with hc | hc
      · exact .inl hc
      · by_cases hF : u < X.F
        · exact .inl hF
        · refine .inr ?_
          by_cases e : X.pl u + (n + 1) = X.N
          · exact absurd ⟨u, hu, by omega, e⟩ hv
          · omega
theorem Xjn(pl:Nat->Nat): ∀ {l:List Nat},l≠[]->∃ v∈l,∀ u∈l,pl v<=pl u
 | [v],_=>⟨v,List.mem_cons_self ..,λu hu=>by rw [List.mem_singleton.1 hu];exact Nat.le_refl _⟩
 | v::x::l,_=>by
  obtain ⟨w,hw,h1⟩:=Xjn pl (l:=x::l) (by simp);by_cases h:pl v<=pl w
  ·refine ⟨v,List.mem_cons_self ..,λu hu=>?_⟩;rcases List.mem_cons.1 hu with rfl|hu
   ·exact Nat.le_refl _
   ·exact Nat.le_trans h (h1 u hu)
  ·refine ⟨w,List.mem_cons_of_mem _ hw,λu hu=>?_⟩;rcases List.mem_cons.1 hu with rfl|hu
   ·omega
   ·exact h1 u hu
theorem BX.Ok.answers(h:X.Ok){y:List α}(hy:y.length=X.F):
  ((∀ v,v<X.F->y.getD v X.d0∈(X.E v (prj X.d0 (X.K v) y)).map (·.1))/\X.Roots)↔∃ z,X.Join z/\z.take X.F=y:=by
 constructor
 ·rintro ⟨hE,hR⟩;obtain ⟨z,hz,hzy,hg⟩:=h.choose hy hE hR X.N (Nat.le_refl _);have hall:∀ v,v<X.N->X.bag v z:=λv hv=>(hg v hv (.inr (by omega))).1;refine ⟨z,⟨hz,λa ha=>?_⟩,?_⟩
  ·by_cases e:a.1=[]
   ·obtain ⟨r,hr⟩:=List.exists_mem_of_ne_nil _ (hR.2 a ha);have:=(h.al a ha).2 r hr;rw [e]at this;rw [e,show prj X.d0 [] z=r from (List.eq_nil_of_length_eq_zero this).symm ▸ rfl];exact hr
   ·obtain ⟨v,hv,hm⟩:=Xjn X.pl e;obtain ⟨r,hr,h1⟩:=hall v ((h.al a ha).1 v hv) a ha;have hl:=(h.al a ha).2 r hr;have:prj X.d0 a.1 z=r:=by
     apply List.ext_getElem
     ·rw [Xxw,hl]
     ·intro j h2 h3;rw [hl]at h3;have:=h1 j h3 (h.k4 a ha v hv hm _ (by simp [List.getD,List.getElem?_eq_getElem h3]));simp only [List.getD,List.getElem?_eq_getElem h3,Option.getD_some]at this;rw [List.getElem?_eq_getElem (by omega),Option.getD_some]at this;simp only [prj,List.getElem_map];rw [this];rfl
    rw [this];exact hr
  ·apply List.ext_getElem?
   intro j;rw [List.getElem?_take];by_cases hj:j<X.F
   ·rw [if_pos hj];have:=hzy j hj;have hFN:=h.FN;rw [List.getElem?_eq_getElem (by omega),List.getElem?_eq_getElem (by omega)];simp only [List.getD]at this;rw [List.getElem?_eq_getElem (by omega),List.getElem?_eq_getElem (by omega)]at this;simpa using this
   ·rw [if_neg hj,List.getElem?_eq_none (by omega)]
 ·rintro ⟨z,hz,e⟩;obtain ⟨hb,hW⟩:=h.join_W hz;refine ⟨λv hv=>?_,λv hv hp=>?_,λa ha he=>?_⟩
  ·have hFN:=h.FN;have far:∀ u,u<X.F->y.getD u X.d0=z.getD u X.d0:=λu hu=>by rw [<-e];simp [List.getD,hu]
   have ek:prj X.d0 (X.K v) y=prj X.d0 (X.K v) z:=Jdp λu hu=>far u (by
    have:=h.k1 v (by omega) u hu;rcases Nat.lt_or_ge u X.F with h'|h'
    ·exact h'
    ·have:=h.k6 v u hv h' this.1;omega)
   rw [ek,far v hv];exact List.mem_map.2 ⟨(z.getD v X.d0,X.W v z),((h.t2 v hv _).2 _).2 ⟨z,hz.1,hb v,rfl,rfl,rfl,(hW v (by omega)).1⟩,rfl⟩
  ·have:=(hW v hv).2;rw [h.kroot hv hp]at this;exact this
  ·have:=hz.2 a ha;rw [he]at this;cases this
def BX.ix(X:BX α): AX α:=⟨X.d0,X.F,X.K,X.par,X.E⟩
theorem Qyb{m n : Nat}(hmn : m ≤ n){g : Nat → Nat}(h : ∀ c, m ≤ c → c < n → g c = 1): Jjz n g = Jjz m g := by
  induction n with
  | zero => have : m = 0 := by omega
            subst this; rfl
  | succ n ih =>
    by_cases e : m = n + 1
    · rw [e]
    · rw [Jjz, h n (by omega) (by omega), Nat.mul_one, ih (by omega) (fun c h1 h2 => h c h1 (by omega))]
theorem BX.Ok.ixOk(h:X.Ok): X.ix.Ok:=by
 have hFN:=h.FN;have kf:∀ v,v<X.F->∀ u∈X.K v,u<v:=λv hv u hu=>by
  have h1:=h.k1 v (by omega) u hu;rcases Nat.lt_or_ge u X.F with h2|h2
  ·rcases Nat.lt_trichotomy u v with h3|h3|h3
   ·exact h3
   ·subst h3;omega
   ·have:=h.k5 u v h2 h3;omega
  ·have:=h.k6 v u hv h2 h1.1;omega
 refine ⟨λv hv u hu=>?_,λv hv=>?_,λv hv y hy p hp=>?_⟩
 ·have hv':v<X.F:=hv;rcases h.k2 v (by omega) with ⟨h1,_⟩|⟨p,h2,h3,h4⟩
  ·rw [show X.ix.ks v=[] from h1]at hu;cases hu
  ·rw [show X.ix.par v=p from h2];have h5:=h4 u hu;have h6:=kf v hv u hu;have h7:=kf v hv p h3;rcases Nat.lt_or_ge p u with h8|h8
   ·have:=h.k5 u p (by omega) h8;omega
   ·omega
 ·have hv':v<X.F:=hv;rcases h.k2 v (by omega) with ⟨_,h2⟩|⟨p,h2,h3,_⟩
  ·rw [show X.ix.par v = -1 from h2];omega
  ·rw [show X.ix.par v=p from h2];have:=kf v hv p h3;omega
 ·have hv':v<X.F:=hv;obtain ⟨z,hz,hb,hk,hzv,hw,h0⟩:=((h.t2 v hv' _).2 p).1 hp;refine ⟨h0,?_⟩;have agree:∀ u,u=v∨u∈X.K v->z.getD u X.d0=(y++[p.1]).getD u X.d0:=by
   intro u hu;rcases hu with rfl|hu
   ·rw [hzv];simp [List.getD,<-hy]
   ·rw [Jyw (by rw [hy];exact kf v hv' u hu)];obtain ⟨j,hj,ej⟩:=List.getElem_of_mem hu;have:=congrArg (λl=>l.getD j X.d0) hk;rw [Jcw X.d0 hj]at this;have e2:(X.ix.key v y).getD j X.d0=y.getD ((X.K v).getD j 0) X.d0:=Jcw X.d0 hj;rw [e2]at this;rw [<-ej];simpa [List.getD,List.getElem?_eq_getElem hj] using this
  have hpos:0<X.W v z:=by rw [<-hw];exact h0
  rw [hw,BX.W];have e3:∀ c,c<X.N->X.par c=v->X.T c (prj X.d0 (X.K c) z)=X.T c (prj X.d0 (X.K c) (y++[p.1])):=λc hc hp'=>by
   rw [Jdp λu hu=>agree u ((h.kpar hc hp').2.2.2 u hu)]
  rw [Qyb hFN (λc hc1 hc2=>?_)]
  ·refine Jxn λc hc=>?_;have hc':c<X.F:=hc;show _=if X.par c=v then tot (X.E c (prj X.d0 (X.K c) (y++[p.1]))) else 1
   split
   ·rename_i hp';rw [e3 c (by omega) hp',(h.t2 c hc' _).1]
   ·rfl
  ·by_cases hp':X.par c=v
   ·have h5:=prodR_pos.1 hpos c hc2;rw [if_pos hp']at h5 ⊢;have:=(h.t1 c hc1 hc2 (prj X.d0 (X.K c) z)).1;omega
   ·rw [if_neg hp']
end
def Jph(v:Nat)(nb:Nat->Nat->Bool): Nat->Nat->Bool:=λu x=>if nb v u then (nb u x || nb v x) && (x != u) && (x != v) else nb u x
def Qkp(nb:Nat->Nat->Bool): List Nat->Nat->Nat->Bool
 | []=>nb
 | v::l=>Qkp (Jph v nb) l
theorem Qyp(nb:Nat->Nat->Bool)(l m:List Nat): Qkp nb (l++m)=Qkp (Qkp nb l) m:=by
 induction l generalizing nb with
 | nil=>rfl
 | cons v l ih=>exact ih _
structure NbInv(l:List Nat)(nb:Nat->Nat->Bool): Prop where
 sym:∀ u x,u ∉ l->x ∉ l->nb u x=nb x u
 gone:∀ u x,u ∉ l->nb u x=true->x ∉ l/\x≠u
theorem NbInv.step{l:List Nat}{nb:Nat->Nat->Bool}(h:NbInv l nb){v:Nat}(hv:v ∉ l): NbInv (l++[v]) (Jph v nb):=by
 have ns:∀ {u},u ∉ l++[v]->u ∉ l/\u≠v:=λhu=>by rw [List.mem_append,List.mem_singleton,not_or]at hu;exact hu
 constructor
 ·intro u x hu hx;obtain ⟨u1,u2⟩:=ns hu;obtain ⟨x1,x2⟩:=ns hx;have s1:=h.sym u x u1 x1;unfold Jph;by_cases e1:nb v u=true<;>by_cases e2:nb v x=true
  ·rw [if_pos e1,if_pos e2,e1,e2,s1];have b1:(x != v)=true:=bne_iff_ne.2 x2;have b2:(u != v)=true:=bne_iff_ne.2 u2;rw [b1,b2];by_cases e:x=u
   ·subst e;rfl
   ·rw [bne_iff_ne.2 e,bne_iff_ne.2 (λe'=>e e'.symm)]
  ·rw [if_pos e1,if_neg e2];have b1:(x != v)=true:=bne_iff_ne.2 x2;rw [Bool.not_eq_true]at e2;rw [e2,b1,Bool.or_false,Bool.and_true,<-s1];cases e3:nb u x with
   | false=>rfl
   | true=>rw [bne_iff_ne.2 (h.gone u x u1 e3).2];rfl
  ·rw [if_neg e1,if_pos e2];have b1:(u != v)=true:=bne_iff_ne.2 u2;rw [Bool.not_eq_true]at e1;rw [e1,b1,Bool.or_false,Bool.and_true,s1];cases e3:nb x u with
   | false=>rfl
   | true=>rw [bne_iff_ne.2 (h.gone x u x1 e3).2];rfl
  ·rw [if_neg e1,if_neg e2];exact s1
 ·intro u x hu hx;obtain ⟨u1,u2⟩:=ns hu;unfold Jph at hx;rw [List.mem_append,List.mem_singleton,not_or];by_cases e1:nb v u=true
  ·rw [if_pos e1]at hx;simp only [Bool.and_eq_true,Bool.or_eq_true,bne_iff_ne]at hx;refine ⟨⟨?_,hx.2⟩,hx.1.2⟩;rcases hx.1.1 with h1|h1
   ·exact (h.gone u x u1 h1).1
   ·exact (h.gone v x hv h1).1
  ·rw [if_neg e1]at hx;obtain ⟨h1,h2⟩:=h.gone u x u1 hx;refine ⟨⟨h1,λe=>?_⟩,h2⟩;subst e;exact e1 ((h.sym x u h1 u1).trans hx)
theorem NbInv.at{nb:Nat->Nat->Bool}(h:NbInv [] nb): ∀ {l:List Nat},l.Nodup->NbInv l (Qkp nb l):=by
 intro l;have key:∀ (l m:List Nat) (nb':Nat->Nat->Bool),NbInv m nb'->(m++l).Nodup->NbInv (m++l) (Qkp nb' l):=by
  intro l;induction l with
  | nil=>intro m nb' h _;rw [List.append_nil];exact h
  | cons v l ih=>
   intro m nb' h hn;have hv:v ∉ m:=by
    rw [List.nodup_append]at hn;exact λhm=>hn.2.2 v hm v (List.mem_cons_self ..) rfl
   have e:m++v::l=(m++[v])++l:=by simp
   rw [e]at hn ⊢;exact ih (m++[v]) _ (h.step hv) hn
 intro hn;exact key l [] nb h hn
theorem Jmh{p x:Nat}(hx:x≠p): ∀ {mid:List Nat} {nb:Nat->Nat->Bool},nb p x=true->x ∉ mid->Qkp nb mid p x=true
 | [],_,h,_=>h
 | w::mid,nb,h,hm=>by
  rw [Qkp];refine Jmh hx ?_ (λh'=>hm (List.mem_cons_of_mem _ h'));have hw:x≠w:=λe=>hm (by rw [e];exact List.mem_cons_self ..);unfold Jph;split
  ·rw [h,bne_iff_ne.2 hx,bne_iff_ne.2 hw];rfl
  ·exact h
def pre(ord:List Nat)(v:Nat): List Nat:=ord.takeWhile (· != v)
def Qjh(nb:Nat->Nat->Bool)(ord:List Nat)(v u:Nat): Bool:=Qkp nb (pre ord v) v u
theorem Jmc{l r:List Nat}{v:Nat}(h:v ∉ l): pre (l++v::r) v=l:=by
 induction l with
 | nil=>simp [pre]
 | cons x l ih=>
  have hx:(x != v)=true:=bne_iff_ne.2 λe=>h (by rw [e];exact List.mem_cons_self ..);unfold pre at ih ⊢;rw [List.cons_append,List.takeWhile_cons,if_pos hx,ih (λh'=>h (List.mem_cons_of_mem _ h'))]
theorem Jhq{ord:List Nat}{v:Nat}(h:v∈ord): ∃ r,ord=pre ord v++v::r/\v ∉ pre ord v:=by
 obtain ⟨l,r,e,hn⟩:=List.append_of_mem h |>.elim λl h'=>h'.elim λr e=>(⟨l,r,e,trivial⟩:∃ l r,ord=l++v::r/\True);clear hn;have:∀ l:List Nat,∃ r',l++v::r=pre (l++v::r) v++v::r'/\v ∉ pre (l++v::r) v:=by
  intro l;induction l with
  | nil=>exact ⟨r,by simp [pre],by simp [pre]⟩
  | cons x l ih=>
   by_cases e:x=v
   ·subst e;exact ⟨l++x::r,by simp [pre],by simp [pre]⟩
   ·obtain ⟨r',e1,e2⟩:=ih;have hp:pre (x::l++v::r) v=x::pre (l++v::r) v:=by
     unfold pre;rw [List.cons_append,List.takeWhile_cons,if_pos (by simpa using e)]
    refine ⟨r',by rw [hp,List.cons_append,List.cons_append,<-e1],?_⟩;rw [hp,List.mem_cons,not_or];exact ⟨λe'=>e e'.symm,e2⟩
 rw [e];exact this l
def Xdr(ord:List Nat)(v u:Nat): Prop:=u ∉ pre ord v
section
variable {nb:Nat->Nat->Bool} {ord:List Nat} (h0:NbInv [] nb) (hn:ord.Nodup)
theorem Qql(hn:ord.Nodup)(v:Nat): (pre ord v).Nodup:=hn.sublist (List.takeWhile_sublist _)
include h0 hn
theorem Jtc{v u:Nat}(hv:v∈ord)(hk:Qjh nb ord v u=true): Xdr ord v u/\u≠v:=by
 obtain ⟨r,e,h1⟩:=Jhq hv;exact (h0.at (Qql hn v)).gone v u h1 hk
omit h0 hn in
theorem Qyv{N:Nat}(hN:∀ u x,nb u x=true->x<N){v u:Nat}(hk:Qjh nb ord v u=true): u<N:=by
 have:∀ (l:List Nat) (nb:Nat->Nat->Bool),(∀ u x,nb u x=true->x<N)->∀ u x,Qkp nb l u x=true->x<N:=by
  intro l;induction l with
  | nil=>intro nb h;exact h
  | cons w l ih=>
   intro nb h;refine ih _ λu x hx=>?_;unfold Jph at hx;split at hx
   ·simp only [Bool.and_eq_true,Bool.or_eq_true]at hx;rcases hx.1.1 with h1|h1<;>exact h _ _ h1
   ·exact h _ _ hx
 exact this _ _ hN _ _ hk
theorem Qdj{v p x:Nat}(hv:v∈ord)(hp:p∈ord)(hkp:Qjh nb ord v p=true)(hmin:∀ u,Qjh nb ord v u=true->Xdr ord p u)(hkx:Qjh nb ord v x=true)(hx:x≠p): Qjh nb ord p x=true:=by
 obtain ⟨r,e,h1⟩:=Jhq hv;obtain ⟨r2,e2,h2⟩:=Jhq hp;have hpl:=Jtc h0 hn hv hkp;have hxl:=Jtc h0 hn hv hkx;have hv2:v∈pre ord p:=by
  have h3:p∈pre ord v∨v∈pre ord p:=by
   have hpn:p∈pre ord v++v::r:=e ▸ hp;rcases List.mem_append.1 hpn with h4|h4
   ·exact .inl h4
   ·have h5:p∈r:=(List.mem_cons.1 h4).resolve_left hpl.2;obtain ⟨a,b,eb⟩:=List.append_of_mem h5;have e3:ord=(pre ord v++v::a)++p::b:=by
     have e':=e;rw [eb]at e';rw [List.append_assoc];exact e'
    have h6:p ∉ pre ord v++v::a:=by
     intro h7;rw [e3,List.nodup_append]at hn;exact hn.2.2 p h7 p (List.mem_cons_self ..) rfl
    have:=Jmc (r:=b) h6;rw [<-e3]at this;rw [this];exact .inr (List.mem_append_right _ (List.mem_cons_self ..))
  exact h3.resolve_left hpl.1
 obtain ⟨m,m2,em⟩:=List.append_of_mem hv2;have hm:m=pre ord v:=by
  have hvm:v ∉ m:=by
   have:=Qql hn p;rw [em,List.nodup_append]at this;exact λh'=>this.2.2 v h' v (List.mem_cons_self ..) rfl
  have:=Jmc (l:=m) (r:=m2++p::r2) hvm;rw [<-this];congr 1
  rw [e2,em];simp
 unfold Qjh;rw [em,Qyp,Qkp,hm];refine Jmh hx ?_ λh'=>?_
 ·have hkp':Qkp nb (pre ord v) v p=true:=hkp;have hkx':Qkp nb (pre ord v) v x=true:=hkx;unfold Jph;rw [if_pos hkp',hkx',bne_iff_ne.2 hx,bne_iff_ne.2 hxl.2];simp
 ·exact hmin x hkx (by rw [em];exact List.mem_append_right _ (List.mem_cons_of_mem _ h'))
omit h0 hn in
theorem Qrz{v u:Nat}(hb:nb v u=true)(hne:u≠v)(hl:Xdr ord v u): Qjh nb ord v u=true:=Jmh hne hb hl
end
end Pl
end Go.Proofs.YtefpailelagbkaaGreatDoor
