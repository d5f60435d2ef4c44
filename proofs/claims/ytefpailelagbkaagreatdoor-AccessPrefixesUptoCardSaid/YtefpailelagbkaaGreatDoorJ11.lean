/- Part 11 of the proof: Cpt2, Rel, Rel2, Rel3. -/
import Derived.Test.YtefpailelagbkaaGreatDoorJ10
set_option linter.unusedVariables false
set_option maxRecDepth 100000
set_option maxHeartbeats 40000000
namespace Go.Wk
section
variable {P:Program} {n:Nat} {al:AL} {w:World} {Q:Exit->Act->World->Prop} {ops:Array Oper} {rest:List Oper}
variable {ty:Nat} {pos:String} {aft:Array Edge}
theorem clr{x:Operand}{t:Nat}{v:Value}{w':World}(h:∀ ty,(Builtin.clear_ #[t] ty #[v]).run P w=.ok (.tuple #[]) w')(k:WL P n ops Q rest al w')(hx:ev al x=some v:=by rfl):
  WL P n ops Q (⟨none,.call { callee:=.builtin .clear,args:=#[x],argTypes:=#[t] },ty,pos,aft,none⟩::rest) al w:=λa ha=>
 wpList_plain rfl λK hK=>by
  unfold Oper.wp;have e:(execOp a.eval ⟨none,.call { callee:=.builtin .clear,args:=#[x],argTypes:=#[t] },ty,pos,aft,none⟩).run P w=.ok (.value (.tuple #[])) w':=by
   simp [execOp,resolve,invoke,builtin,ha.ev hx,h ty]
  rw [e,Oper.upon_value];exact hK _ _ (k _ ha)
end
end Go.Wk
namespace Go.Proofs.YtefpailelagbkaaGreatDoor
open Go.RowKit Pl Go.Wk
attribute [local irreducible] WC WL QX WD WDB WP
def EqF(w:World)(row:Option Nat)(fid:FuncId)(first cap:Array Value)(M:List Pr): Prop :=
 ∀ w',w.grownBy w' row->∀ p q,p∈M->q∈M->Ret Tryz.prog fid (first.toList++[p.1,q.1]++cap.toList) w' λr w''=>r=.bool (decide (p.2=q.2))/\Ext w' w''
theorem Qmw{l:List Row}(h:l.length<2): ddF l=l:=by
 match l with
 | []=>rfl
 | [a]=>rfl
 | _::_::_=>exact absurd h (by simp)
theorem Jjm{α:Type}(z:α){l:List α}{k:Nat}(h:k<l.length): l.take (k+1)=l.take k++[l.getD k z]:=by
 rw [List.take_add_one,List.getElem?_eq_getElem h,Jjh z l h];rfl
theorem Dat.take{w:World}{base:Nat}{A:Option Addr}{n c k:Nat}{q:List Pr}(hq:q.length=n)(h1:∀ p∈q,p.1.oneCell'=true)(hk:k<=n)(h:w.ownsRow base 40 1 (.slice A k c) k ((q.map (·.1)).take k)): Dat w base (.slice A k c) (q.take k):=by
 refine ⟨?_,λp hp=>h1 p (List.mem_of_mem_take hp)⟩;rw [List.length_take,hq,Nat.min_eq_left hk,List.map_take];exact h
theorem Qwm{w:World}{base:Nat}{A:Option Addr}{n c:Nat}{fid:FuncId}{first cap:Array Value}{ps:List Pr}(hD:Dat w base (.slice A n c) ps)(hn:ps.length=n)(hmx:n<=1100000)(hnc:n<=c)(hC:EqF w (Value.slice A n c).ownBlock fid first cap ps):
  Ret Tryz.prog 119 [.slice A n c,.func (.func fid) first cap] w λv w'=>∃ ps':List Pr,v=.slice A ps'.length c/\Dat w' base (.slice A ps'.length c) ps'/\ps'.map (·.2)=ddF (ps.map (·.2))/\(∀ p∈ps',p∈ps)/\w.grownBy w' (Value.slice A n c).ownBlock:=by
 refine Jjb Tryz.func119 Tryz.ntmps119 rfl (by kernel_rfl) rfl ?_;obtain ⟨ls,hls⟩:∃ ls:List Row,ls=ps.map (·.2):=⟨_,rfl⟩
 have hln:ls.length=n:=by rw [hls];simpa using hn
 have hget:∀ i,ls.getD i []=(ps.getD i z0).2:=λi=>by rw [hls];exact Jrc
 refine ρ ?_;refine ci (λh=>?_) (λh=>?_)
 ·refine ρ ?_;refine Jjq ⟨ps,by rw [hn],by rw [hn];exact hD,?_,λp hp=>hp,Jqj (Ext.refl w) _⟩;rw [<-hls,Qmw];have:=of_decide_eq_true h;omega
 have h2:2<=n:=by have:=of_decide_eq_false h;omega
 clear h;refine ρ ?_;refine Jqn (fun (j:Nat)=>[(0,.slice A n c),(1,.func (.func fid) first cap),(5,.int .i64 (j:Int))]) (λj w'=>Ext w w'/\1<=j/\j<=n/\ddF (ls.take j)=ls.take j) (λj=>n-j) 1 sB ⟨Ext.refl w,by omega,by omega,Qmw (by rw [List.length_take];omega)⟩ ?_;rintro j w1 ⟨hx,hj1,hj,hI⟩;refine ρ ?_;refine ci (λh=>?_) (λh=>?_);rotate_left
 ·have e:j=n:=by have:=of_decide_eq_false h;omega
  refine ρ ?_;refine Jjq ⟨ps,by rw [hn],by rw [hn];exact hD.ext hx,?_,λp hp=>hp,Jqj hx _⟩;rw [<-hls];rw [e,List.take_of_length_le (by omega)]at hI;exact hI.symm
 have lj:j<n:=by have:=of_decide_eq_true h;omega
 have lj1:j-1<n:=by omega
 clear h;refine ρ ?_;refine dr [(0,0),(0,1),(0,2),(0,3),(0,4),(0,5),(0,6),(0,7),(0,8),(0,9),(1,10)] (by kernel_rfl) ?_;have hx2:Ext w w1.drew:=hx.drew;have hD2:=hD.ext hx2;refine ρd ?_;refine dix j (hD2.rd hn) lj ?_;refine ρd ?_;refine dld (hD2.cell hn lj) ?_;refine ρd ?_;refine dix (j-1) (hD2.rd hn) lj1 ?_;refine ρd ?_;refine dld (hD2.cell hn lj1) ?_;refine ρd ?_;refine Qxr (hC _ (Jqj hx2 _) (ps.getD j z0) (ps.getD (j-1) z0) (Jkx hn lj) (Jkx hn lj1)) ?_;rintro r w2 ⟨rfl,hx3⟩;refine ⟨hx3,?_⟩;have hx4:=hx2.trans hx3;refine ρd ?_;refine ρ ?_;have hst:=Qbg (l:=ls) (k:=j) (by omega);rw [hget,hget]at hst;refine ci (λh=>?_) (λh=>?_);rotate_left
 ·have hne:=of_decide_eq_false h;refine ρ ?_;refine Jjt (j+1) sO ⟨hx4,by omega,by omega,?_⟩ (by omega);rw [hst,if_neg (λe=>hne e.2.symm),hI,Jjm [] (by omega),hget]
 have heq:=of_decide_eq_true h;clear h;rw [if_pos ⟨by omega,heq.symm⟩,hI]at hst;have hD4:=hD.ext hx4;refine ρ ?_;refine sll j ?_;refine ρ ?_;refine Jzk (fun (k m:Nat) (q:List Pr)=>[(0,.slice A n c),(1,.func (.func fid) first cap),(5,.int .i64 (k:Int)),(6,.slice (if c=j then A else A.map (·.add (j*1))) (n-j) (c-j)),(7,.int .i64 ((m:Int)-(j:Int)))])
  (λk m q w'=>Dat w' base (.slice A n c) q/\q.length=n/\w.grownBy w' (Value.slice A n c).ownBlock/\j<m/\m<=n/\k<m/\(∀ i,k<=i->q.getD i z0=ps.getD i z0)/\(q.take k).map (·.2)=ddF (ls.take m)/\∀ p∈q,p∈ps) (λ_ m _=>n-m) j (j+1) ps sO
  ⟨hD4,hn,Jqj hx4 _,by omega,by omega,by omega,λ_ _=>rfl,by rw [List.map_take,<-hls];exact hst.symm,λp hp=>hp⟩ ?_
 rintro k m q w3 ⟨hD5,hq,hg5,hjm,hm,hk,hhi,hlo,hsub⟩;refine ρ ?_;refine ci (λh=>?_) (λh=>?_)
 ·have hm2:m<n:=by have:=of_decide_eq_true h;omega
  have lm:m-j<n-j:=by omega
  have lm1:m-j-1<n-j:=by omega
  clear h;refine ρ ?_;refine dr [(0,0),(0,1),(0,2),(0,3),(0,4),(0,5),(0,6),(0,7),(0,8),(0,9),(1,10),(0,11)] (by kernel_rfl) ?_;have hxd:Ext w3 w3.drew:=(Ext.refl w3).drew;have hD6:=hD5.ext hxd;have hg6:=Jjw hg5 (Jqj hxd _);have hR6:=(hD6.rd hq).drop (k:=j) (c:=c) (by omega) hnc;have c1:((q.map (·.1)).drop (j*1))[m-j]?=some (ps.getD m z0).1:=by
   rw [List.getElem?_drop,show j*1+(m-j)=m by omega,Jlz (by omega),hhi m (by omega)]
  have c2:((q.map (·.1)).drop (j*1))[m-j-1]?=some (ps.getD (m-1) z0).1:=by
   rw [List.getElem?_drop,show j*1+(m-j-1)=m-1 by omega,Jlz (by omega),hhi (m-1) (by omega)]
  refine ρd ?_;refine dix (m-j) hR6 lm ?_;refine ρd ?_;refine dld (hR6.cell c1) ?_;refine ρd ?_;refine dix (m-j-1) hR6 lm1 ?_;refine ρd ?_;refine dld (hR6.cell c2) ?_;refine ρd ?_;refine Qxr (hC _ hg6 (ps.getD m z0) (ps.getD (m-1) z0) (Jkx hn hm2) (Jkx hn (by omega))) ?_;rintro r w7 ⟨rfl,hx7⟩;refine ⟨hx7,?_⟩;have hD7:=hD6.ext hx7;have hg7:=Jjw hg6 (Jqj hx7 _);have hR7:=hR6.ext hx7;refine ρd ?_;refine ρ ?_;have hst:=Qbg (l:=ls) (k:=m) (by omega);rw [hget,hget]at hst;refine ci (λh=>?_) (λh=>?_)
  ·have hne:(ps.getD m z0).2≠(ps.getD (m-1) z0).2:=by simpa using h
   have lk:k<n:=by omega
   have hlo2:(q.take k).length=k:=by rw [List.length_take];omega
   refine ρ ?_;refine ix (m-j) hR7 lm ?_;refine ρ ?_;refine ld (hR7.cell c1) ?_;refine ρ ?_;refine ix k (hD7.rd hq) lk ?_;refine ρ ?_;obtain ⟨s1,s2,s3⟩:=hD7.store hq lk (p:=ps.getD m z0) (hD.one (by omega));refine sto (hD7.cell hq lk) s1 ?_ (hv:=hD.one (by omega));refine ρ ?_;refine Jqf (k+1) (m+1) (q.set k (ps.getD m z0)) sO ⟨s2,by simpa using hq,Jjw hg7 s3,by omega,by omega,by omega,λi hi=>?_,?_,λp hp=>?_⟩ (by omega)
   ·rw [Jbq z0 _ _ _ _ (by omega),if_neg (by omega)];exact hhi i (by omega)
   ·rw [hst,if_neg (λe=>hne e.2.symm),<-hlo,Jjm z0 (by simp;omega),Jbq z0 _ _ _ _ (by omega),if_pos rfl,List.take_set_of_le (Nat.le_refl _),List.map_append];rfl
   ·rcases List.mem_or_eq_of_mem_set hp with h'|h'
    ·exact hsub p h'
    ·rw [h'];exact Jkx hn hm2
  ·have heq:(ps.getD m z0).2=(ps.getD (m-1) z0).2:=by simpa using h
   refine ρ ?_;refine Jqf k (m+1) q sO ⟨hD7,hq,hg7,by omega,by omega,by omega,hhi,?_,hsub⟩ (by omega);rw [hst,if_pos ⟨by omega,heq.symm⟩,hlo]
 ·have e:m=n:=by have:=of_decide_eq_false h;omega
  subst e;have hD5':=hD5.1;rw [hq]at hD5';obtain ⟨w8,hr8,ho8,hg8⟩:=Qlg (P:=Tryz.prog) (k:=k) ER rfl rfl hD5' (by omega) 0;refine ρ ?_;refine sll k ?_;refine ρ ?_;refine clr (w':=w8) (λty=>hr8) ?_;refine ρ ?_;refine slh k ?_;refine ρ ?_;have hlen:(q.take k).length=k:=by rw [List.length_take];omega
  refine Jjq ⟨q.take k,by rw [hlen],by rw [hlen];exact Dat.take hq hD5.2 (by omega) ho8,?_,λp hp=>hsub p (List.mem_of_mem_take hp),Jjw hg5 hg8⟩;rw [hlo,List.take_of_length_le (by omega),hls]
open Go.RowKit Pl Go.Wk
def Jxd(v:V): Bool:=if v.kind=1 then (v.bytes == []) else if v.kind=2 then decide (v.num=0) && decide (v.bytes.length<=24) else false
theorem Jdl(v:V): v.str.size=v.bytes.length:=(Array.length_toList (xs:=v.str.data)).symm
theorem Xxf(v:V): (v.str.toList == (⟨#[]⟩:ByteArray).toList)=(v.bytes == []):=by rw [ByteArray.toList_eq,ByteArray.toList_eq];rfl
theorem Jbx(v:V)(w:World): Ret Tryz.prog 149 [v.val] w λr w'=>r=.bool (Jxd v)/\Ext w w':=by
 refine Jjb Tryz.func149 Tryz.ntmps149 rfl (by kernel_rfl) rfl ?_;refine ρ ?_;refine bx (cs:=v.cells) ?_;intro w1 b hx1 hb hB;refine ρ ?_;refine ld (hB.at (i:=0) rfl) ?_;refine ρ ?_;refine ci (λh=>?_) (λh=>?_)
 ·refine ρ ?_;refine ld (hB.at (i:=2) rfl) ?_;refine ρ ?_;refine Jjq ⟨?_,hx1⟩;rw [Jxd,if_pos (Jql h),Xxf]
 refine ρ ?_;refine ci (λh2=>?_) (λh2=>?_)
 ·refine ρ ?_;refine ld (hB.at (i:=1) rfl) ?_;refine ρ ?_;refine ki 15 (λh3=>?_) (λh3=>?_)
  ·refine ρ ?_;refine ld (hB.at (i:=2) rfl) ?_;refine ρ ?_;refine Jjq ⟨?_,hx1⟩;rw [Jxd,if_neg (Jqh h),if_pos (Jql h2),decide_eq_true (Jql h3),Jdl,Bool.true_and];congr 1
   exact decide_eq_decide.2 (by omega)
  ·refine ρ ?_;refine Jjq ⟨?_,hx1⟩;rw [Jxd,if_neg (Jqh h),if_pos (Jql h2),decide_eq_false (Jqh h3)];rfl
 ·refine ρ ?_;refine Jjq ⟨?_,hx1⟩;rw [Jxd,if_neg (Jqh h),if_neg (Jqh h2)]
theorem Qqc{v:Value}{r:Row}{w:World}(h:RowV w v r): Ret Tryz.prog 115 [v] w λu w'=>u=.bool (r.all Jxd)/\Ext w w':=by
 obtain ⟨A,c,rfl,h2,h3,hr⟩:=h;refine Jjb Tryz.func115 Tryz.ntmps115 rfl (by kernel_rfl) rfl ?_;refine ρ ?_;refine Jqn (fun (k:Nat)=>[(0,.slice A r.length c),(5,.int .i64 (r.length:Int)),(6,.int .i64 (k:Int))]) (λk w'=>Ext w w'/\k<=r.length/\(r.take k).all Jxd=true) (λk=>r.length-k) 0 sB ⟨Ext.refl w,Nat.zero_le _,rfl⟩ ?_;rintro k w1 ⟨hx,hk,hI⟩;refine ρ ?_;refine ci (λh=>?_) (λh=>?_)
 ·have lk:k<r.length:=by have:=of_decide_eq_true h;omega
  have hr1:=hr.ext hx;refine ρ ?_;refine ixq 3 k hr1 lk ?_;refine ρ ?_;refine lds (λj u hu=>RdR.cell hr1 lk hu) ?_;refine ρ ?_;refine cl (Jbx (r.getD k V0) _) ?_;rintro u w2 ⟨rfl,hx2⟩;refine ρ ?_;refine ci (λh=>?_) (λh=>?_)
  ·refine ρ ?_;refine Jjq ⟨?_,hx.trans hx2⟩;have h':Jxd (r.getD k V0)=false:=by simpa using h
   congr 1
   symm
   rw [List.all_eq_false];exact ⟨_,Qsf lk,by rw [h'];decide⟩
  ·refine ρ ?_;have h':Jxd (r.getD k V0)=true:=by simpa using h
   refine Jjt (k+1) sO ⟨hx.trans hx2,by omega,?_⟩ (by omega);rw [Jjm V0 lk,List.all_append,hI,List.all_cons,h'];rfl
 ·refine ρ ?_;refine Jjq ⟨?_,hx⟩;rw [List.take_of_length_le (by have:=of_decide_eq_false h;omega)]at hI;rw [hI]
def RelV(w:World)(v:Value)(ar:Nat)(ls:List Row): Prop:=∃ rv,v=.agg #[.int .i64 (ar:Int),rv]/\RowsV w rv ls
theorem RelV.ext{w w':World}{v:Value}{ar:Nat}{ls:List Row}(h:RelV w v ar ls)(hx:Ext w w'): RelV w' v ar ls:=by
 obtain ⟨rv,e,h⟩:=h;exact ⟨rv,e,h.ext hx⟩
theorem Qpm: Jxc Tryz.prog 67=some (.agg #[.int .i64 0,.slice none 0 0]):=by kernel_rfl
theorem Jtv(w:World): (Instr.build 67 #[]).run Tryz.prog w=.ok (.agg #[.int .i64 0,.slice none 0 0]) w:=by kernel_rfl
theorem Xkr(z:Int)(w:World): (Instr.build 67 #[(0,.int .i64 z)]).run Tryz.prog w=.ok (.agg #[.int .i64 z,.slice none 0 0]) w:=by kernel_rfl
theorem Xkq(z:Int)(A:Option Addr)(n c:Nat)(w:World): (Instr.build 67 #[(0,.int .i64 z),(1,.slice A n c)]).run Tryz.prog w=.ok (.agg #[.int .i64 z,.slice A n c]) w:=by kernel_rfl
theorem Qyk{z:Int}{A:Option Addr}{n c:Nat}: ∀ u∈[Value.int .i64 z,.slice A n c],u.oneCell'=true:=by
 intro u hu;simp at hu;rcases hu with rfl|rfl<;>rfl
theorem Qcp(z:Int)(w:World): Ret Tryz.prog 76 [.int .i64 z] w λv w'=>Ext w w'/\∃ z' e,v=.tuple #[.agg #[.int .i64 z',.slice none 0 0],.int .i64 e]/\(e=0->z'=z)/\(e=0↔0<=z/\z<=32):=by
 refine Jjb Tryz.func76 Tryz.ntmps76 rfl (by kernel_rfl) rfl ?_;refine ρ ?_;refine alc (cs:=[.int .i64 0,.slice none 0 0]) Qpm ?_;intro w1 b hx1 hb hB;refine ρ ?_;refine Jzm (fun (t:Bool)=>[(0,.int .i64 z),(2,.pointer (some ⟨b,0,none⟩)),(9,.bool t)]) (λt w'=>w'=w1/\(t=true↔¬ (0<=z/\z<=32))) ?_ ?_
 ·refine ki 6 (λh=>?_) (λh=>?_)
  ·refine ρ ?_;exact Jjn true sB ⟨rfl,by have:=of_decide_eq_true h;simp;omega⟩
  ·refine ρ ?_;refine Jjn _ sB ⟨rfl,?_⟩;have:=of_decide_eq_false h;rw [decide_eq_true_iff];omega
 rintro t w' ⟨rfl,ht⟩;refine ci (λh=>?_) (λh=>?_)
 ·refine ρ ?_;refine bld (Jtv _) ?_;refine ρ ?_;refine stb hB ?_ Qyk;intro w2 hB2 _ hx2;refine ρ ?_;exact Jyf hB2 ⟨hx2 w hx1 hb,0,3,rfl,λe=>(by cases e),⟨λe=>(by cases e),λe=>absurd e (ht.1 h)⟩⟩
 ·refine ρ ?_;refine bld (Xkr z _) ?_;refine ρ ?_;refine stb hB ?_ (Qyk (z:=z) (A:=none) (n:=0) (c:=0));intro w2 hB2 _ hx2;refine ρ ?_;refine Jyf hB2 ⟨hx2 w hx1 hb,z,0,rfl,λ_=>rfl,⟨λ_=>?_,λ_=>rfl⟩⟩;by_cases hz:0<=z/\z<=32
  ·exact hz
  ·rw [ht.2 hz]at h;cases h
theorem Qwz{ar:Int}{sv v:Value}{r:Row}{A:Option Addr}{n c:Nat}{w:World}(hs:sv=.slice A n c)(h:RowV w v r): Ret Tryz.prog 77 [.agg #[.int .i64 ar,sv],v] w λu w'=>Ext w w'/\∃ e,u=.int .i64 e/\(e=0↔(r.length:Int)=ar/\r.all Jxd=true):=by
 subst hs;obtain ⟨B,c',rfl,h2,h3,hr⟩:=id h;refine Jjb Tryz.func77 Tryz.ntmps77 rfl (by kernel_rfl) rfl ?_;refine ρ ?_;refine bx (cs:=[.int .i64 ar,.slice A n c]) ?_;intro w1 b hx1 hb hB;refine ρ ?_;refine ld (hB.at (i:=0) rfl) ?_;refine ρ ?_;refine ci (λh=>?_) (λh1=>?_)
 ·refine ρ ?_;exact Jjq ⟨hx1,6,rfl,⟨λe=>(by cases e),λe=>absurd e.1 (Jkp h)⟩⟩
 have e1:=Jkq h1;refine ρ ?_;refine cl (Qqc (h.ext hx1)) ?_;rintro u w2 ⟨rfl,hx2⟩;refine ρ ?_;refine ci (λh=>?_) (λh2=>?_)
 ·refine ρ ?_;refine Jjq ⟨hx1.trans hx2,4,rfl,⟨λe=>(by cases e),λe=>?_⟩⟩;rw [e.2]at h;cases h
 ·refine ρ ?_;refine Jjq ⟨hx1.trans hx2,0,rfl,⟨λ_=>⟨e1,by simpa using h2⟩,λ_=>rfl⟩⟩
open Go.RowKit Pl Go.Wk
theorem RowX.off{w:World}{N:Nat->Prop}{v:Value}{r:Row}(h:RowX w N v r): Off N w (λu=>RowV u v r):=by
 obtain ⟨A,c,e1,e2,e3,e4,e5⟩:=h;intro w' hg;refine ⟨A,c,e1,e2,e3,Qzl e4 hg λh0 ad e=>e5 (λe'=>?_) ad e⟩;subst e';simp [Jxs]at h0
theorem Xcj{w:World}{row:Option Nat}{ps:List Pr}(h:∀ p∈ps,Off (one row) w (λu=>RowV u p.1 p.2)): CF w row 117 #[] #[] ps []:=λw' hg p q hp hq=>
 Jcd (h p hp w' (GrN.by hg λk e=>e)) (h q hq w' (GrN.by hg λk e=>e))
theorem eqRow{w:World}{row:Option Nat}{ps:List Pr}(h:∀ p∈ps,Off (one row) w (λu=>RowV u p.1 p.2)): EqF w row 114 #[] #[] ps:=λw' hg p q hp hq=>
 Jgq (h p hp w' (GrN.by hg λk e=>e)) (h q hq w' (GrN.by hg λk e=>e))
theorem ownB(A:Option Addr)(n c m d:Nat): (Value.slice A n c).ownBlock=(Value.slice A m d).ownBlock:=by cases A<;>rfl
theorem Xxp{w:World}{N:Nat->Prop}{base:Nat}{A:Option Addr}{n c:Nat}{ps:List Pr}(hD:Dat w base (.slice A n c) ps)(hn:ps.length=n)(hmx:n<=1100000)(hnc:n<=c)(hN:∀ k,(Value.slice A n c).ownBlock=some k->¬ N k)(hr:∀ p∈ps,Off N w (λu=>RowV u p.1 p.2)): Off N w (λu=>RowsV u (.slice A n c) (ps.map (·.2))):=by
 intro w' hg;refine ⟨ps,A,c,rfl,by rw [hn],by omega,by omega,?_,λp hp=>hr p hp w' hg⟩;rw [hn];refine Qzl (hD.rd hn) hg λ_ ad e=>?_;subst e;exact hN _ rfl
def Xdn(N:Nat->Prop)(w:World)(v:Value)(ls:List Row): Prop:=∃ (ps:List Pr) (A:Option Addr) (c:Nat),ls=ps.map (·.2)/\v=.slice A ps.length c/\ps.length<=c/\ps.length<=1100000/\Off N w (λu=>Rd u 1 A ps.length (ps.map (·.1)))/\∀ p∈ps,Off N w (λu=>RowV u p.1 p.2)
theorem rowsP{w:World}{N:Nat->Prop}{base:Nat}{A:Option Addr}{n c:Nat}{ps:List Pr}(hD:Dat w base (.slice A n c) ps)(hn:ps.length=n)(hmx:n<=1100000)(hnc:n<=c)(hN:∀ k,(Value.slice A n c).ownBlock=some k->¬ N k)(hr:∀ p∈ps,Off N w (λu=>RowV u p.1 p.2)): Xdn N w (.slice A n c) (ps.map (·.2)):=by
 refine ⟨ps,A,c,rfl,by rw [hn],by omega,by omega,λw' hg=>?_,hr⟩;rw [hn];refine Qzl (hD.rd hn) hg λ_ ad e=>?_;subst e;exact hN _ rfl
theorem Qxz{w:World}{base:Nat}{A:Option Addr}{n c ar:Nat}{ps:List Pr}(hD:Dat w base (.slice A n c) ps)(hn:ps.length=n)(hmx:n<=1100000)(hnc:n<=c)(hr:∀ p∈ps,Off (one (Value.slice A n c).ownBlock) w (λu=>RowV u p.1 p.2)):
  Ret Tryz.prog 78 [.int .i64 (ar:Int),.slice A n c] w λv w'=>w.grownBy w' (Value.slice A n c).ownBlock/\∃ rv e,v=.tuple #[rv,.int .i64 e]/\(∃ z B m d,rv=.agg #[.int .i64 z,.slice B m d])/\(n<=65536->e=0) /\
   (e=0->∃ m,Off (λk=>k<w.heap.size/\(Value.slice A n c).ownBlock≠some k) w' (λu=>RelV u rv ar m)/\m.length<=65536/\(∀ x∈m,x∈ps.map (·.2))/\((n<=12∨Srt [] (ps.map (·.2)))->Jvh [] (ps.map (·.2)) m)):=by
 refine Jjb Tryz.func78 Tryz.ntmps78 rfl (by kernel_rfl) rfl ?_;refine ρ ?_;refine alc (cs:=[.int .i64 0,.slice none 0 0]) Qpm ?_;intro w1 b hx1 hb hB;have hD1:=hD.ext hx1;have hr1:∀ p∈ps,Off (one (Value.slice A n c).ownBlock) w1 (λu=>RowV u p.1 p.2):=λp hp=>(hr p hp).ext hx1;obtain ⟨own,hown⟩:∃ own,own=(Value.slice A n c).ownBlock:=⟨_,rfl⟩;have hownlt:∀ k,own=some k->k<w.heap.size:=λk e=>by
  obtain ⟨_,_,_,_,hf⟩:=Jjd hD.1;exact (hf k (by rw [<-e,hown])).2
 refine ρ ?_;refine cl (Qxc (hD1.rd hn) hn hmx (Xcj hr1)) ?_;rintro v w2 ⟨hx2,t,rfl,ht⟩;refine ρ ?_;refine Jzl (fun (q:List Pr)=>[(0,.int .i64 (ar:Int)),(1,.slice A n c),(4,.pointer (some ⟨b,0,none⟩))]) (λq w'=>DP w1 w' base A n c ps q/\Blk w' b 67 [.int .i64 0,.slice none 0 0]/\((n<=12∨Srt [] (ps.map (·.2)))->Srt [] (q.map (·.2)))) ?_ ?_
 ·have H2:=(DP.start hD1 hn).ext hx2;refine ci (λh=>?_) (λh=>?_)
  ·have hts:¬ SOn z0 (fP []) ps 0 n:=λe=>by have:=ht.2 e;rw [this]at h;cases h
   refine ρ ?_;refine cl (Qjv H2.d H2.l hmx ((Xcj hr1).step H2)) ?_;rintro v w3 ⟨q,H3,hs⟩;refine ρ ?_;refine Jjn q sB ⟨H2.after H3,(hB.ext hx2).grown H3.g ((hB.ext hx2).ne_own H2.d.1 rfl),λe=>?_⟩;rcases e with e|e
   ·exact Xjc (by rw [H3.l];exact hs e)
   ·exfalso
    apply hts
    intro i j _ hij hj;have e':=(List.pairwise_map.1 e);rw [List.pairwise_iff_getElem]at e';have:=e' i j (by omega) (by omega) hij;unfold fP;rw [Jjh z0 ps (by omega),Jjh z0 ps (by omega)];exact this
  ·have ht':t=true:=by simpa using h
   refine ρ ?_;exact Jjn ps sB ⟨H2,hB.ext hx2,λ_=>Xjc (by rw [hn];exact ht.1 ht')⟩
 rintro q w3 ⟨H3,hB3,hs3⟩;have hr3:∀ p∈q,Off (one (Value.slice A n c).ownBlock) w3 (λu=>RowV u p.1 p.2):=λp hp=>(hr1 p (H3.p.mem_iff.1 hp)).grown H3.g λk e=>e;refine ρ ?_;refine cl (Qwm H3.d H3.l hmx hnc (eqRow hr3)) ?_;rintro v w4 ⟨ps',rfl,hD4,hdd,hsub,hg4⟩;have hle:ps'.length<=n:=by
  have:=Jnj (q.map (·.2))
  rw [<-hdd,List.length_map,List.length_map,H3.l]at this;exact this
 have hB4:=hB3.grown hg4 (hB3.ne_own H3.d.1 rfl);have hr4:∀ p∈ps',Off (one own) w4 (λu=>RowV u p.1 p.2):=λp hp=>by rw [hown];exact (hr3 p (hsub p hp)).grown hg4 λk e=>e
 have hg14:w1.grownBy w4 own:=by rw [hown];exact Jjw H3.g hg4
 have hset:((n<=12∨Srt [] (ps.map (·.2)))->Jvh [] (ps.map (·.2)) (ps'.map (·.2))):=λe=>by
  have h1:=Qmv (hs3 e);rw [<-hdd]at h1;exact ⟨h1.1,λx=>(h1.2 x).trans ((H3.p.map (·.2)).mem_iff)⟩
 generalize hm:ps'.length=m at *
 refine ρ ?_;refine ci (λh=>?_) (λh=>?_)
 ·have hbig:65536<m:=by have:=of_decide_eq_true h;omega
  refine ρ ?_;refine bld (Jtv _) ?_;refine ρ ?_;refine stb hB4 ?_ Qyk;intro w5 hB5 hg5 hx5;refine ρ ?_;refine Jyf hB5 ⟨?_,_,11,rfl,⟨0,none,0,0,rfl⟩,λe=>(by omega),λe=>(by cases e)⟩;have g1:=Jjw (Jqj hx1 own) hg14;rw [<-hown];exact ⟨hg5.os.trans g1.os,hg5.tape.trans g1.tape,hg5.output.trans g1.output,Nat.le_trans g1.size hg5.size,λk hk hn=>(hg5.block k (Nat.lt_of_lt_of_le hk g1.size) (λe=>by injection e with e;omega)).trans (g1.block k hk hn)⟩
 have hsm:m<=65536:=by have:=of_decide_eq_false h;omega
 clear h;obtain ⟨N',hN'⟩:∃ N':Nat->Prop,N'=λk=>k<w1.heap.size∨own=some k:=⟨_,rfl⟩;have hoB:(Value.slice A m c).ownBlock=own:=by rw [hown];exact ownB _ _ _ _ _
 refine ρ ?_;refine Jjv (fun (k:Nat) (qs:List Pr)=>[(0,.int .i64 (ar:Int)),(1,.slice A m c),(4,.pointer (some ⟨b,0,none⟩)),(19,.int .i64 (m:Int)),(20,.int .i64 (k:Int))])
  (λk qs w'=>k<=m/\qs.length=k/\qs.map (·.2)=(ps'.take k).map (·.2)/\Dat w' base (.slice A m c) (qs++ps'.drop k)/\(∀ p∈qs,Off N' w' (λu=>RowV u p.1 p.2))/\(∀ p∈ps',Off (one own) w' (λu=>RowV u p.1 p.2))/\Blk w' b 67 [.int .i64 0,.slice none 0 0]/\w1.grownBy w' own) (λk _=>m-k) 0 [] sB
  ⟨Nat.zero_le _,rfl,rfl,by simpa using hD4,λp hp=>(by cases hp),hr4,hB4,hg14⟩ ?_
 clear hD4 hr4 hB4 hg14;rintro k qs w5 ⟨hk,hq1,hq2,hD5,hqs5,hr5,hB5,hg5⟩;refine ρ ?_;have hl5:(qs++ps'.drop k).length=m:=by simp;omega
 refine ci (λh=>?_) (λh=>?_)
 ·have lk:k<m:=by have:=of_decide_eq_true h;omega
  have hget:(qs++ps'.drop k).getD k z0=ps'.getD k z0:=by
   simp only [List.getD];rw [List.getElem?_append_right (by omega),hq1,Nat.sub_self,List.getElem?_drop,Nat.add_zero]
  have hmem:ps'.getD k z0∈ps':=Jkx hm lk;refine ρ ?_;refine ix k (hD5.rd hl5) lk ?_;refine ρ ?_;refine ld (hD5.cell hl5 lk) ?_;rw [hget];refine ρ ?_;refine cl (Jbb (hr5 _ hmem).here N' (λj hj=>?_)) ?_
  ·subst hN';rcases hj with h'|h'
   ·exact Nat.lt_of_lt_of_le h' hg5.size
   ·exact Nat.lt_of_lt_of_le (hownlt j h') (Nat.le_trans hx1.size hg5.size)
  rintro v6 w6 ⟨hr6,hx6⟩;have hD6:=hD5.ext hx6;obtain ⟨s1,s2,s3⟩:=hD6.store hl5 lk (p:=(v6,(ps'.getD k z0).2)) hr6.v.one;refine ρ ?_;refine ix k (hD6.rd hl5) lk ?_;refine ρ ?_;refine sto (hD6.cell hl5 lk) s1 ?_ (hv:=hr6.v.one);refine ρ ?_;have e:(qs++ps'.drop k).set k (v6,(ps'.getD k z0).2)=(qs++[(v6,(ps'.getD k z0).2)])++ps'.drop (k+1):=by
   rw [List.set_append_right _ _ (by omega),hq1,Nat.sub_self,List.drop_eq_getElem_cons (by omega),List.set_cons_zero,List.append_assoc];rfl
  rw [e]at s2;rw [hoB]at s3;refine Jjj (k+1) (qs++[(v6,(ps'.getD k z0).2)]) sO ⟨by omega,by simp [hq1],?_,s2,λp hp=>?_,λp hp=>?_,?_,?_⟩ (by omega)
  ·rw [List.map_append,hq2,Jjm z0 (by omega),List.map_append];rfl
  ·rcases List.mem_append.1 hp with h'|h'
   ·exact ((hqs5 p h').ext hx6).grown s3 (λk e=>by rw [hN'];exact .inr e)
   ·rw [List.mem_singleton.1 h'];exact hr6.off.grown s3 (λk e=>by rw [hN'];exact .inr e)
  ·exact ((hr5 p hp).ext hx6).grown s3 (λk e=>e)
  ·have h7:=hB5.ext hx6;refine h7.grown s3 ?_;have:=h7.ne_own hD6.1 rfl;rwa [hoB]at this
  ·exact Jjw hg5 (Jjw (Jqj hx6 _) s3)
 ·have e:k=m:=by have:=of_decide_eq_false h;omega
  subst e;rw [List.drop_of_length_le (by omega),List.append_nil]at hD5 hl5;rw [List.take_of_length_le (by omega)]at hq2;refine ρ ?_;refine bld (Xkq (ar:Int) A k c _) ?_;refine ρ ?_;refine stb hB5 ?_ (Qyk (z:=(ar:Int)) (A:=A) (n:=k) (c:=c));intro w7 hB7 hg7 hx7;refine ρ ?_;have hbN:N' b:=by rw [hN'];exact .inl hB.lt
  have hD7:Dat w7 base (.slice A k c) qs:=⟨hD5.1.kept hg7 (.inr (λe=>hB5.ne_own hD5.1 rfl e.symm)),hD5.2⟩;have hoff:=Xxp (N:=λj=>j<w.heap.size/\own≠some j) hD7 hl5 (by omega) (by omega) (λj ej hj=>hj.2 (by rw [<-ej,hoB])) (λp hp=>((hqs5 p hp).grown hg7 (λj ej=>by injection ej with ej;rw [<-ej];exact hbN)).mono λj _ hj=>by rw [hN'];exact .inl (Nat.lt_of_lt_of_le hj.1 hx1.size));refine Jyf hB7 ⟨?_,_,0,rfl,⟨_,_,_,_,rfl⟩,λ_=>rfl,λ_=>⟨qs.map (·.2),?_,by rw [List.length_map];omega,?_,?_⟩⟩
  ·have g1:=Jjw (Jqj hx1 own) hg5;rw [<-hown];exact ⟨hg7.os.trans g1.os,hg7.tape.trans g1.tape,hg7.output.trans g1.output,Nat.le_trans g1.size hg7.size,λj hj hn=>(hg7.block j (Nat.lt_of_lt_of_le hj g1.size) (λe=>by injection e with e;omega)).trans (g1.block j hj hn)⟩
  ·rw [<-hown];exact hoff.imp λu hu=>⟨_,rfl,hu⟩
  ·intro x hx;rw [hq2,hdd]at hx;have:x∈q.map (·.2):=by
    obtain ⟨p,hp,rfl⟩:=List.mem_map.1 (hdd ▸ hx);exact List.mem_map.2 ⟨p,hsub p hp,rfl⟩
   exact (H3.p.map (·.2)).mem_iff.1 this
  ·intro e;rw [hq2];exact hset e
open Go.RowKit Pl Go.Wk
theorem Qnj(w:World): (Instr.buildSlice 35 0 #[]).run Tryz.prog w=.ok (.slice (some ⟨w.heap.size,0,none⟩) 0 0) (w.alloc (.cells [].toArray 40)):=by kernel_rfl
theorem Jtt{A:Option Addr}{n c:Nat}{ps:List Pr}{w:World}(hR:Rd w 1 A n (ps.map (·.1)))(hn:ps.length=n)(hmx:n<=1100000)(h1:∀ p∈ps,p.1.oneCell'=true):
  Ret Tryz.prog 79 [.slice A n c] w λv' w'=>Ext w w'/\∃ B d,v'=.slice B n d/\n<=d/\Dat w' w.heap.size (.slice B n d) ps:=by
 refine Jjb Tryz.func79 Tryz.ntmps79 rfl (by kernel_rfl) rfl ?_;refine ρ ?_;refine Xjf ?_;refine ρ ?_;refine ci (λh=>?_) (λh=>?_)
 ·have hA:A=none:=by simpa using h
  subst hA;have hn0:n=0:=by
   rcases Nat.eq_zero_or_pos n with h0|h0
   ·exact h0
   ·obtain ⟨ad,h2,_⟩:=hR.isome h0 (by omega);cases h2
  subst hn0;obtain rfl:=List.eq_nil_of_length_eq_zero hn;refine ρ ?_;exact Jjq ⟨Ext.refl w,none,0,rfl,Nat.le_refl _,⟨Jxj _ _ _ _,λp hp=>by cases hp⟩⟩
 ·refine ρ ?_;refine bsl Qnj ?_;intro w1 b hx1 hb1 hk1;refine ρ ?_;refine apo hx1 ER (hk1.own (n:=0) hb1 rfl (Nat.zero_le _)) (hR.ext hx1) (λu hu=>by obtain ⟨p,hp,rfl⟩:=List.mem_map.1 hu;exact h1 p hp) (by unfold maxLen;omega) (by omega) ?_;intro v2 w2 ho2 hx2 _ _;obtain ⟨A2,c2,rfl,hc2,hf⟩:=Jjd ho2;refine ρ ?_;rw [Nat.zero_add]at ho2 hc2 ⊢;refine Jjq ⟨hx2,A2,c2,rfl,hc2,⟨?_,h1⟩⟩;rw [hn];exact ho2
theorem Jfb{a w w':World}{b:Nat}(hx:Ext a w)(hg:w.grownBy w' (some b))(hb:a.heap.size<=b): Ext a w':=Jjk hx hg λk e=>by injection e with e;omega
theorem Jlw{w:World}{v:Value}{ls:List Row}{ar:Nat}(h:RowsV w v ls):
  Ret Tryz.prog 32 [.int .i64 (ar:Int),v] w λu w'=>Ext w w'/\∃ rv e,u=.tuple #[rv,.int .i64 e]/\(∃ z B m d,rv=.agg #[.int .i64 z,.slice B m d])/\(ar<=32->(∀ r∈ls,r.length=ar/\r.all Jxd=true)->ls.length<=65536->e=0) /\
   (e=0->ar<=32/\(∀ r∈ls,r.length=ar/\r.all Jxd=true)/\∃ m,Off (λk=>k<w.heap.size) w' (λu=>RelV u rv ar m)/\m.length<=65536/\(∀ x∈m,x∈ls)/\((ls.length<=12∨Srt [] ls)->Jvh [] ls m)):=by
 obtain ⟨ps,A,c,rfl,rfl,hle,hmx,hR,hrow⟩:=h;generalize hn:ps.length=n at *
 have hget:∀ i,(ps.map (·.2)).getD i []=(ps.getD i z0).2:=λi=>Jrc
 have hone:∀ p∈ps,p.1.oneCell'=true:=λp hp=>(hrow p hp).one;refine Jjb Tryz.func32 Tryz.ntmps32 rfl (by kernel_rfl) rfl ?_;refine ρ ?_;refine alc (cs:=[.int .i64 0,.slice none 0 0]) Qpm ?_;intro w1 b hx1 hb hB;refine ρ ?_;refine cl (Qcp (ar:Int) w1) ?_;rintro v2 w2 ⟨hx2,z',e2,rfl,he2,hiff⟩;refine ρ ?_;refine alc (cs:=[.int .i64 0,.slice none 0 0]) Qpm ?_;intro w3 b3 hx3 hb3 hB3;refine ρ ?_;refine stb hB3 ?_ (Qyk (z:=z') (A:=none) (n:=0) (c:=0));intro w4 hB4 hg4 hx4;have hx14:Ext w1 w4:=hx4 w1 (hx2.trans hx3) (Nat.le_trans hx2.size hb3);have hxw4:=hx1.trans hx14;have hB1:=hB.ext hx14;refine ρ ?_;refine ci (λh=>?_) (λh=>?_)
 ·have hne:=Jkp h;refine ρ ?_;refine bld (Jtv _) ?_;refine ρ ?_;refine stb hB1 ?_ Qyk;intro w5 hB5 hg5 hx5;refine ρ ?_;refine Jyf hB5 ⟨hx5 w hxw4 hb,_,e2,rfl,⟨0,none,0,0,rfl⟩,λh1 _ _=>hiff.2 (by omega),λe=>absurd e hne⟩
 have hz:=Jkq h;subst hz;have har:ar<=32:=by have:=hiff.1 rfl;omega
 have hz2:=he2 rfl;subst hz2;clear h he2 hiff;refine ρ ?_;refine Jqn (fun (k:Nat)=>[(0,.int .i64 (ar:Int)),(1,.slice A n c),(4,.pointer (some ⟨b,0,none⟩)),(6,.pointer (some ⟨b3,0,none⟩)),(20,.int .i64 (n:Int)),(21,.int .i64 (k:Int))])
  (λk w'=>Ext w4 w'/\k<=n/\∀ i,i<k->(ps.getD i z0).2.length=ar/\(ps.getD i z0).2.all Jxd=true) (λk=>n-k) 0 sB ⟨Ext.refl _,Nat.zero_le _,λi hi=>by omega⟩ ?_
 rintro k w5 ⟨hx5,hk,hI⟩;have hxw5:=hxw4.trans hx5;refine ρ ?_;refine ci (λh=>?_) (λh=>?_)
 ·have lk:k<n:=by have:=of_decide_eq_true h;omega
  clear h;refine ρ ?_;refine dr [(0,0),(0,1),(0,2),(0,3),(0,4),(1,5),(0,6)] (by kernel_rfl) ?_;have hx5d:=hx5.drew;have hB5:=hB4.ext hx5d;have hR5:=hR.ext hxw5.drew;refine ρd ?_;refine Jwv (cs:=[.int .i64 (ar:Int),.slice none 0 0]) (λj u hu=>hB5.at hu) ?_;refine ρd ?_;refine dix k hR5 lk ?_;refine ρd ?_;refine dld (Qcs hR5 hn lk) ?_;refine ρd ?_;refine dcl (Qwz (A:=none) (n:=0) (c:=0) rfl ((hrow _ (Jkx hn lk)).ext hxw5.drew)) ?_;rintro u w6 ⟨hx6,e,rfl,hiff⟩;refine ⟨hx6,?_⟩;refine ρd ?_;refine ρ ?_;have hx46:=hx5d.trans hx6;refine ci (λh=>?_) (λh=>?_)
  ·have hne:=Jkp h;refine ρ ?_;refine bld (Jtv _) ?_;refine ρ ?_;refine stb (hB1.ext hx46) ?_ Qyk;intro w7 hB7 hg7 hx7;refine ρ ?_;refine Jyf hB7 ⟨hx7 w (hxw4.trans hx46) hb,_,e,rfl,⟨0,none,0,0,rfl⟩,λ_ h2 _=>?_,λe=>absurd e hne⟩;obtain ⟨k1,k2⟩:=h2 (ps.getD k z0).2 (List.mem_map.2 ⟨_,Jkx hn lk,rfl⟩);exact hiff.2 ⟨by omega,k2⟩
  ·have hz:=Jkq h;have hz':=hiff.1 hz;refine ρ ?_;refine Jjt (k+1) sO ⟨hx46,by omega,λi hi=>?_⟩ (by omega);by_cases e:i=k
   ·subst e;exact ⟨by omega,hz'.2⟩
   ·exact hI i (by omega)
 ·have e:k=n:=by have:=of_decide_eq_false h;omega
  subst e;refine ρ ?_;refine cl (Jtt (hR.ext hxw5) hn hmx hone) ?_;rintro u w6 ⟨hx6,D,d,rfl,hd,hD6⟩;have hxw6:=hxw5.trans hx6;have hown:∀ j,(Value.slice D k d).ownBlock=some j->w5.heap.size<=j/\j<w6.heap.size:=by
   obtain ⟨_,_,_,_,hf⟩:=Jjd hD6.1;exact λj ej=>⟨(hf j ej).1,(hf j ej).2⟩
  have hoff:∀ p∈ps,Off (one (Value.slice D k d).ownBlock) w6 (λu=>RowV u p.1 p.2):=λp hp=>Off.old (a:=w) (λu hu=>(hrow p hp).ext hu) hxw6 (λj ej=>Nat.le_trans hxw5.size (hown j ej).1);refine ρ ?_;refine cl (Qxz (ar:=ar) hD6 hn hmx hd hoff) ?_;rintro u w7 ⟨hg7,rv,e,rfl,⟨z,B,m,d',hrv⟩,hfit,hok⟩;have hxw7:Ext w w7:=Jjk hxw6 hg7 (λj ej=>Nat.le_trans hxw5.size (hown j ej).1);have hB6:=(hB1.ext hx5).ext hx6;have hB7:=hB6.grown hg7 (hB6.ne_own hD6.1 rfl);subst hrv;refine ρ ?_;refine stb hB7 ?_ (Qyk (z:=z) (A:=B) (n:=m) (c:=d'));intro w8 hB8 hg8 hx8;refine ρ ?_;refine Jyf hB8 ⟨hx8 w hxw7 hb,_,e,rfl,⟨z,B,m,d',rfl⟩,λ_ _ h3=>hfit (by rw [List.length_map,hn]at h3;exact h3),λe0=>⟨har,λr hr=>?_,?_⟩⟩
  ·obtain ⟨p,hp,rfl⟩:=List.mem_map.1 hr;obtain ⟨i,hi,rfl⟩:=List.getElem_of_mem hp;have:=hI i (by omega);rw [Jjh z0 ps hi]at this;exact this
  ·obtain ⟨ms,m1,m2,m3,m4⟩:=hok e0;refine ⟨ms,?_,m2,m3,λhc=>m4 (by rw [List.length_map,hn]at hc;exact hc)⟩;have hbn:b<w6.heap.size/\(Value.slice D k d).ownBlock≠some b:=⟨hB6.lt,λe=>hB6.ne_own hD6.1 rfl e.symm⟩;refine (m1.grown hg8 (λj ej=>by injection ej with ej;rw [<-ej];exact hbn)).mono λj _ hj=>⟨Nat.lt_of_lt_of_le hj hxw6.size,λe=>?_⟩;have:=(hown j e).1;have:=hxw5.size;omega
end Go.Proofs.YtefpailelagbkaaGreatDoor
