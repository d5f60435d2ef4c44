/- Part 5. -/
import Derived.Test.YtebcagekopgdhaaGreatDoorG04
set_option linter.unusedVariables false
set_option maxRecDepth 100000
set_option maxHeartbeats 40000000
namespace Go.Wk
section
variable {P:Program} {n:Nat} {al:AL} {w:World} {Q:Exit->Act->World->Prop} {ops:Array Oper} {rest:List Oper}
variable {ty:Nat} {pos:String} {aft:Array Edge}
theorem clr{x:Operand}{t:Nat}{v:Value}{w':World}(h:∀ ty,(Builtin.clear_ #[t] ty #[v]).run P w=.ok (.tuple #[]) w')(k:WL P n ops Q rest al w')(hx:ev al x=some v:=by rfl):
  WL P n ops Q (⟨none,.call { callee:=.builtin .clear,args:=#[x],argTypes:=#[t] },ty,pos,aft,none⟩::rest) al w:=λa o=>
 wpList_plain rfl λK u=>by
  unfold Oper.wp;have e:(execOp a.eval ⟨none,.call { callee:=.builtin .clear,args:=#[x],argTypes:=#[t] },ty,pos,aft,none⟩).run P w=.ok (.value (.tuple #[])) w':=by
   simp [execOp,resolve,invoke,builtin,o.ev hx,h ty]
  rw [e,Oper.upon_value];exact u _ _ (k _ o)
end
end Go.Wk
namespace Go.Proofs.YtebcagekopgdhaaGreatDoor
open Go.RowKit Pl Go.Wk
attribute [local irreducible] WC WL QX WD WDB WP
variable {ps q:List Pr}{base c k n:Nat}{A:Option Addr}{w:World}
def EqF(w:World)(row:Option Nat)(fid:FuncId)(first cap:Array Value)(M:List Pr): Prop :=
 ∀ w',w.grownBy w' row->∀ p q,p∈M->q∈M->Ret Tryz.prog fid (first.toList++[p.1,q.1]++cap.toList) w' λr w''=>r=.bool (decide (p.2=q.2))/\Ext w' w''
theorem Qxk{l:List Row}(h:l.length<2): ddF l=l:=by
 match l with
 | []=>rfl
 | [a]=>rfl
 | _::_::_=>exact absurd h (by simp)
theorem Qb{α:Type}(z:α){l:List α}(h:k<l.length): l.take (k+1)=l.take k++[l.getD k z]:=by
 rw [List.take_add_one,List.getElem?_eq_getElem h,Jr z l h];rfl
theorem Dat.take(hq:q.length=n)(h1:∀ p∈q,p.1.oneCell'=true)(hk:k<=n)(h:w.ownsRow base 37 1 (.slice A k c) k ((q.map (·.1)).take k)): Dat w base (.slice A k c) (q.take k):=by
 refine ⟨?_,λp o=>h1 p (List.mem_of_mem_take o)⟩;rw [List.length_take,hq,Nat.min_eq_left hk,List.map_take];exact h
theorem Qpx{fid:FuncId}{first cap:Array Value}(hD:Dat w base (.slice A n c) ps)(hn:ps.length=n)(hmx:n<=1100000)(hnc:n<=c)(hC:EqF w (Value.slice A n c).ownBlock fid first cap ps):
  Ret Tryz.prog 123 [.slice A n c,.func (.func fid) first cap] w λv w'=>∃ ps':List Pr,v=.slice A ps'.length c/\Dat w' base (.slice A ps'.length c) ps'/\ps'.map (·.2)=ddF (ps.map (·.2))/\(∀ p∈ps',p∈ps)/\w.grownBy w' (Value.slice A n c).ownBlock:=by
 refine Jz Tryz.func123 Tryz.ntmps123 rfl kr rfl ?_;obtain ⟨ls,C⟩:∃ ls:List Row,ls=ps.map (·.2):=⟨_,rfl⟩
 have ar:ls.length=n:=by rw [C];simpa using hn
 have u:∀ i,ls.getD i []=(ps.getD i z0).2:=λi=>by rw [C];exact Jxn
 refine ρ ?_;refine ci (λh=>?_) (λh=>?_)
 .refine ρ ?_;refine Jq ⟨ps,by rw [hn],by rw [hn];exact hD,?_,λp U=>U,Zc (Ext.refl w) _⟩;rw [<-C,Qxk];have:=oT h;omega
 have h2:2<=n:=by have:=oF h;omega
 clear h;refine ρ ?_;refine Qh (fun (j:Nat)=>[(0,.slice A n c),(1,.func (.func fid) first cap),(5,.int .i64 (j:Int))]) (λj w'=>Ext w w'/\1<=j/\j<=n/\ddF (ls.take j)=ls.take j) (λj=>n-j) 1 sB ⟨Ext.refl w,om,om,Qxk (by rw [List.length_take];omega)⟩ ?_;rintro j w1 ⟨hx,av,hj,hI⟩;refine ρ ?_;refine ci (λh=>?_) (λh=>?_);rotate_left
 .have e:j=n:=by have:=oF h;omega
  refine ρ ?_;refine Jq ⟨ps,by rw [hn],by rw [hn];exact hD.ext hx,?_,λp U=>U,Zc hx _⟩;rw [<-C];rw [e,List.take_of_length_le om]at hI;exact hI.symm
 have lj:j<n:=by have:=oT h;omega
 have a5:j-1<n:=om
 clear h;refine ρ ?_;refine dr [(0,0),(0,1),(0,2),(0,3),(0,4),(0,5),(0,6),(0,7),(0,8),(0,9),(1,10)] kr ?_;have a7:Ext w w1.drew:=hx.drew;have a2:=hD.ext a7;refine ρd ?_;refine dix j (a2.rd hn) lj ?_;refine ρd ?_;refine dld (a2.cell hn lj) ?_;refine ρd ?_;refine dix (j-1) (a2.rd hn) a5 ?_;refine ρd ?_;refine dld (a2.cell hn a5) ?_;refine ρd ?_;refine Vx (hC _ (Zc a7 _) (ps.getD j z0) (ps.getD (j-1) z0) (Vf hn lj) (Vf hn a5)) ?_;rintro r w2 ⟨rfl,ad⟩;refine ⟨ad,?_⟩;have a6:=a7.trans ad;refine ρd ?_;refine ρ ?_;have o:=Qxh (l:=ls) (k:=j) om;rw [u,u]at o;refine ci (λh=>?_) (λh=>?_);rotate_left
 .have a8:=oF h;refine ρ ?_;refine Qv (j+1) sO ⟨a6,om,om,?_⟩ om;rw [o,if_neg (λe=>a8 e.2.symm),hI,Qb [] om,u]
 have aa:=oT h;clear h;rw [if_pos ⟨om,aa.symm⟩,hI]at o;have ap:=hD.ext a6;refine ρ ?_;refine sll j ?_;refine ρ ?_;refine Xm (fun (k m:Nat) (q:List Pr)=>[(0,.slice A n c),(1,.func (.func fid) first cap),(5,.int .i64 (k:Int)),(6,.slice (if c=j then A else A.map (·.add (j*1))) (n-j) (c-j)),(7,.int .i64 ((m:Int)-(j:Int)))])
  (λk m q w'=>Dat w' base (.slice A n c) q/\q.length=n/\w.grownBy w' (Value.slice A n c).ownBlock/\j<m/\m<=n/\k<m/\(∀ i,k<=i->q.getD i z0=ps.getD i z0)/\(q.take k).map (·.2)=ddF (ls.take m)/\∀ p∈q,p∈ps) (λ_ m _=>n-m) j (j+1) ps sO
  ⟨ap,hn,Zc a6 _,om,om,om,λ_ _=>rfl,by rw [List.map_take,<-C];exact o.symm,λp U=>U⟩ ?_
 rintro k m q w3 ⟨ab,hq,ah,au,hm,hk,Z,a9,G⟩;refine ρ ?_;refine ci (λh=>?_) (λh=>?_)
 .have ae:m<n:=by have:=oT h;omega
  have lm:m-j<n-j:=om
  have ak:m-j-1<n-j:=om
  clear h;refine ρ ?_;refine dr [(0,0),(0,1),(0,2),(0,3),(0,4),(0,5),(0,6),(0,7),(0,8),(0,9),(1,10),(0,11)] kr ?_;have ac:Ext w3 w3.drew:=(Ext.refl w3).drew;have aj:=ab.ext ac;have ag:=Zv ah (Zc ac _);have J:=(aj.rd hq).drop (k:=j) (c:=c) om hnc;have c1:((q.map (·.1)).drop (j*1))[m-j]?=some (ps.getD m z0).1:=by
   rw [List.getElem?_drop,show j*1+(m-j)=m by omega,Io om,Z m om]
  have c2:((q.map (·.1)).drop (j*1))[m-j-1]?=some (ps.getD (m-1) z0).1:=by
   rw [List.getElem?_drop,show j*1+(m-j-1)=m-1 by omega,Io om,Z (m-1) om]
  refine ρd ?_;refine dix (m-j) J lm ?_;refine ρd ?_;refine dld (J.cell c1) ?_;refine ρd ?_;refine dix (m-j-1) J ak ?_;refine ρd ?_;refine dld (J.cell c2) ?_;refine ρd ?_;refine Vx (hC _ ag (ps.getD m z0) (ps.getD (m-1) z0) (Vf hn ae) (Vf hn om)) ?_;rintro r w7 ⟨rfl,O⟩;refine ⟨O,?_⟩;have a1:=aj.ext O;have af:=Zv ag (Zc O _);have ai:=J.ext O;refine ρd ?_;refine ρ ?_;have o:=Qxh (l:=ls) (k:=m) om;rw [u,u]at o;refine ci (λh=>?_) (λh=>?_)
  .have a8:(ps.getD m z0).2≠(ps.getD (m-1) z0).2:=by simpa using h
   have lk:k<n:=om
   have aq:(q.take k).length=k:=by rw [List.length_take];omega
   refine ρ ?_;refine ix (m-j) ai lm ?_;refine ρ ?_;refine ld (ai.cell c1) ?_;refine ρ ?_;refine ix k (a1.rd hq) lk ?_;refine ρ ?_;obtain ⟨s1,s2,s3⟩:=a1.store hq lk (p:=ps.getD m z0) (hD.one om);refine sto (a1.cell hq lk) s1 ?_ (hv:=hD.one om);refine ρ ?_;refine Qt (k+1) (m+1) (q.set k (ps.getD m z0)) sO ⟨s2,by simpa using hq,Zv af s3,om,om,om,λi hi=>?_,?_,λp U=>?_⟩ om
   .rw [Jxv z0 _ _ _ _ om,if_neg om];exact Z i om
   .rw [o,if_neg (λe=>a8 e.2.symm),<-a9,Qb z0 (by simp;omega),Jxv z0 _ _ _ _ om,if_pos rfl,List.take_set_of_le (Nat.le_refl _),List.map_append];rfl
   .rcases List.mem_or_eq_of_mem_set U with h'|h'
    .exact G p h'
    .rw [h'];exact Vf hn ae
  .have aa:(ps.getD m z0).2=(ps.getD (m-1) z0).2:=by simpa using h
   refine ρ ?_;refine Qt k (m+1) q sO ⟨a1,hq,af,om,om,om,Z,?_,G⟩ om;rw [o,if_pos ⟨om,aa.symm⟩,a9]
 .have e:m=n:=by have:=oF h;omega
  subst e;have a4:=ab.1;rw [hq]at a4;obtain ⟨w8,am,an,ao⟩:=Qgn (P:=Tryz.prog) (k:=k) ER rfl rfl a4 om 0;refine ρ ?_;refine sll k ?_;refine ρ ?_;refine clr (w':=w8) (λty=>am) ?_;refine ρ ?_;refine slh k ?_;refine ρ ?_;have a3:(q.take k).length=k:=by rw [List.length_take];omega
  refine Jq ⟨q.take k,by rw [a3],by rw [a3];exact Dat.take hq ab.2 om an,?_,λp U=>G p (List.mem_of_mem_take U),Zv ah ao⟩;rw [a9,List.take_of_length_le om,C]
open Go.RowKit Pl Go.Wk
variable {ar z:Int}{c n:Nat}{A:Option Addr}{r:Row}{sv v:Value}{w:World}
def Xj(v:V): Bool:=if v.kind=1 then (v.bytes == []) else if v.kind=2 then decide (v.num=0) && decide (v.bytes.length<=24) else false
theorem Jzv(v:V): v.str.size=v.bytes.length:=(Array.length_toList (xs:=v.str.data)).symm
theorem Qbv(v:V): (v.str.toList == (⟨#[]⟩:ByteArray).toList)=(v.bytes == []):=by rw [ByteArray.toList_eq,ByteArray.toList_eq];rfl
theorem Jmw(v:V)(w:World): Ret Tryz.prog 157 [v.val] w λr w'=>r=.bool (Xj v)/\Ext w w':=by
 refine Jz Tryz.func157 Tryz.ntmps157 rfl kr rfl ?_;refine ρ ?_;refine bx (cs:=v.cells) ?_;intro J b o O u;refine ρ ?_;refine ld (u.at (i:=0) rfl) ?_;refine ρ ?_;refine ci (λh=>?_) (λh=>?_)
 .refine ρ ?_;refine ld (u.at (i:=2) rfl) ?_;refine ρ ?_;refine Jq ⟨?_,o⟩;rw [Xj,if_pos (Xd h),Qbv]
 refine ρ ?_;refine ci (λC=>?_) (λC=>?_)
 .refine ρ ?_;refine ld (u.at (i:=1) rfl) ?_;refine ρ ?_;refine ki 15 (λG=>?_) (λG=>?_)
  .refine ρ ?_;refine ld (u.at (i:=2) rfl) ?_;refine ρ ?_;refine Jq ⟨?_,o⟩;rw [Xj,if_neg (Xf h),if_pos (Xd C),decide_eq_true (Xd G),Jzv,Bool.true_and];congr 1
   exact decide_eq_decide.2 om
  .refine ρ ?_;refine Jq ⟨?_,o⟩;rw [Xj,if_neg (Xf h),if_pos (Xd C),decide_eq_false (Xf G)];rfl
 .refine ρ ?_;refine Jq ⟨?_,o⟩;rw [Xj,if_neg (Xf h),if_neg (Xf C)]
theorem Qcz(h:RowV w v r): Ret Tryz.prog 119 [v] w λu w'=>u=.bool (r.all Xj)/\Ext w w':=by
 obtain ⟨A,c,rfl,h2,h3,Z⟩:=h;refine Jz Tryz.func119 Tryz.ntmps119 rfl kr rfl ?_;refine ρ ?_;refine Qh (fun (k:Nat)=>[(0,.slice A r.length c),(5,.int .i64 (r.length:Int)),(6,.int .i64 (k:Int))]) (λk w'=>Ext w w'/\k<=r.length/\(r.take k).all Xj=true) (λk=>r.length-k) 0 sB ⟨Ext.refl w,Nat.zero_le _,rfl⟩ ?_;rintro k w1 ⟨G,hk,J⟩;refine ρ ?_;refine ci (λh=>?_) (λh=>?_)
 .have lk:k<r.length:=by have:=oT h;omega
  have C:=Z.ext G;refine ρ ?_;refine ixq 3 k C lk ?_;refine ρ ?_;refine lds (λj u U=>RdR.cell C lk U) ?_;refine ρ ?_;refine cl (Jmw (r.getD k V0) _) ?_;rintro u w2 ⟨rfl,o⟩;refine ρ ?_;refine ci (λh=>?_) (λh=>?_)
  .refine ρ ?_;refine Jq ⟨?_,G.trans o⟩;have O:Xj (r.getD k V0)=false:=by simpa using h
   congr 1
   symm
   rw [List.all_eq_false];exact ⟨_,Qnd lk,by rw [O];decide⟩
  .refine ρ ?_;have O:Xj (r.getD k V0)=true:=by simpa using h
   refine Qv (k+1) sO ⟨G.trans o,om,?_⟩ om;rw [Qb V0 lk,List.all_append,J,List.all_cons,O];rfl
 .refine ρ ?_;refine Jq ⟨?_,G⟩;rw [List.take_of_length_le (by have:=oF h;omega)]at J;rw [J]
def RelV(w:World)(v:Value)(ar:Nat)(ls:List Row): Prop:=∃ rv,v=.agg #[.int .i64 (ar:Int),rv]/\RowsV w rv ls
theorem RelV.ext{w w':World}{v:Value}{ar:Nat}{ls:List Row}(h:RelV w v ar ls)(hx:Ext w w'): RelV w' v ar ls:=by
 obtain ⟨o,e,h⟩:=h;exact ⟨o,e,h.ext hx⟩
theorem Yo: Qp Tryz.prog 95=some (.agg #[.int .i64 0,.slice none 0 0]):=kr
theorem Jbr(w:World): (Instr.build 95 #[]).run Tryz.prog w=.ok (.agg #[.int .i64 0,.slice none 0 0]) w:=kr
theorem Qtk(z:Int)(w:World): (Instr.build 95 #[(0,.int .i64 z)]).run Tryz.prog w=.ok (.agg #[.int .i64 z,.slice none 0 0]) w:=kr
theorem Qth(z:Int)(A:Option Addr)(n c:Nat)(w:World): (Instr.build 95 #[(0,.int .i64 z),(1,.slice A n c)]).run Tryz.prog w=.ok (.agg #[.int .i64 z,.slice A n c]) w:=kr
theorem Vn: ∀ u∈[Value.int .i64 z,.slice A n c],u.oneCell'=true:=by
 intro u o;simp at o;rcases o with rfl|rfl<;>rfl
theorem Qdm(z:Int)(w:World): Ret Tryz.prog 75 [.int .i64 z] w λv w'=>Ext w w'/\∃ z' e,v=.tuple #[.agg #[.int .i64 z',.slice none 0 0],.int .i64 e]/\(e=0->z'=z)/\(e=0↔0<=z/\z<=32):=by
 refine Jz Tryz.func75 Tryz.ntmps75 rfl kr rfl ?_;refine ρ ?_;refine alc Yo ?_;intro U b C G J;refine ρ ?_;refine Vg (fun (t:Bool)=>[(0,.int .i64 z),(2,.pointer (some ⟨b,0,none⟩)),(9,.bool t)]) (λt w'=>w'=U/\(t=true↔¬ (0<=z/\z<=32))) ?_ ?_
 .refine ki 6 (λh=>?_) (λh=>?_)
  .refine ρ ?_;exact Jf true sB ⟨rfl,by have:=oT h;simp;omega⟩
  .refine ρ ?_;refine Jf _ sB ⟨rfl,?_⟩;have:=oF h;rw [decide_eq_true_iff];omega
 rintro t w' ⟨rfl,ht⟩;refine ci (λh=>?_) (λh=>?_)
 .refine ρ ?_;refine bld (Jbr _) ?_;refine ρ ?_;refine stb J ?_ Vn;intro O u _ o;refine ρ ?_;exact Zp u ⟨o w C G,0,3,rfl,λe=>(by cases e),⟨λe=>(by cases e),λe=>absurd e (ht.1 h)⟩⟩
 .refine ρ ?_;refine bld (Qtk z _) ?_;refine ρ ?_;refine stb J ?_ (Vn (z:=z) (A:=none) (n:=0) (c:=0));intro O u _ o;refine ρ ?_;refine Zp u ⟨o w C G,z,0,rfl,λ_=>rfl,⟨λ_=>?_,λ_=>rfl⟩⟩;by_cases hz:0<=z/\z<=32
  .exact hz
  .rw [ht.2 hz]at h;cases h
theorem Xjl(hs:sv=.slice A n c)(h:RowV w v r): Ret Tryz.prog 76 [.agg #[.int .i64 ar,sv],v] w λu w'=>Ext w w'/\∃ e,u=.int .i64 e/\(e=0↔(r.length:Int)=ar/\r.all Xj=true):=by
 subst hs;obtain ⟨B,c',rfl,G,h3,hr⟩:=id h;refine Jz Tryz.func76 Tryz.ntmps76 rfl kr rfl ?_;refine ρ ?_;refine bx ?_;intro w1 b o hb J;refine ρ ?_;refine ld (J.at (i:=0) rfl) ?_;refine ρ ?_;refine ci (λh=>?_) (λO=>?_)
 .refine ρ ?_;exact Jq ⟨o,6,rfl,⟨λe=>(by cases e),λe=>absurd e.1 (Gn h)⟩⟩
 have U:=Gr O;refine ρ ?_;refine cl (Qcz (h.ext o)) ?_;rintro u Z ⟨rfl,C⟩;refine ρ ?_;refine ci (λh=>?_) (λG=>?_)
 .refine ρ ?_;refine Jq ⟨o.trans C,4,rfl,⟨λe=>(by cases e),λe=>?_⟩⟩;rw [e.2]at h;cases h
 .refine ρ ?_;refine Jq ⟨o.trans C,0,rfl,⟨λ_=>⟨U,by simpa using G⟩,λ_=>rfl⟩⟩
open Go.RowKit Pl Go.Wk
variable {ps:List Pr}{ar base c n:Nat}{N:Nat->Prop}{A:Option Addr}{row:Option Nat}{w:World}
theorem RowX.off{v:Value}{r:Row}(h:RowX w N v r): Off N w (λu=>RowV u v r):=by
 obtain ⟨A,c,U,O,J,G,C⟩:=h;intro w' o;refine ⟨A,c,U,O,J,Vj G o λh0 ad e=>C (λZ=>?_) ad e⟩;subst Z;simp [Jm]at h0
theorem Qzj(h:∀ p∈ps,Off (one row) w (λu=>RowV u p.1 p.2)): CF w row 121 #[] #[] ps []:=λw' o p q G C=>
 Jrh (h p G w' (GrN.by o λk e=>e)) (h q C w' (GrN.by o λk e=>e))
theorem eqRow(h:∀ p∈ps,Off (one row) w (λu=>RowV u p.1 p.2)): EqF w row 124 #[] #[] ps:=λw' o p q G C=>
 Jrg (h p G w' (GrN.by o λk e=>e)) (h q C w' (GrN.by o λk e=>e))
theorem ownB(A:Option Addr)(n c m d:Nat): (Value.slice A n c).ownBlock=(Value.slice A m d).ownBlock:=by cases A<;>rfl
theorem Qcx(hD:Dat w base (.slice A n c) ps)(hn:ps.length=n)(hmx:n<=1100000)(hnc:n<=c)(hN:∀ k,(Value.slice A n c).ownBlock=some k->¬ N k)(hr:∀ p∈ps,Off N w (λu=>RowV u p.1 p.2)): Off N w (λu=>RowsV u (.slice A n c) (ps.map (·.2))):=by
 intro w' o;refine ⟨ps,A,c,rfl,by rw [hn],om,om,?_,λp C=>hr p C w' o⟩;rw [hn];refine Vj (hD.rd hn) o λ_ G e=>?_;subst e;exact hN _ rfl
def RowsP(N:Nat->Prop)(w:World)(v:Value)(ls:List Row): Prop:=∃ (ps:List Pr) (A:Option Addr) (c:Nat),ls=ps.map (·.2)/\v=.slice A ps.length c/\ps.length<=c/\ps.length<=1100000/\Off N w (λu=>Rd u 1 A ps.length (ps.map (·.1)))/\∀ p∈ps,Off N w (λu=>RowV u p.1 p.2)
theorem rowsP(hD:Dat w base (.slice A n c) ps)(hn:ps.length=n)(hmx:n<=1100000)(hnc:n<=c)(hN:∀ k,(Value.slice A n c).ownBlock=some k->¬ N k)(hr:∀ p∈ps,Off N w (λu=>RowV u p.1 p.2)): RowsP N w (.slice A n c) (ps.map (·.2)):=by
 refine ⟨ps,A,c,rfl,by rw [hn],om,om,λw' o=>?_,hr⟩;rw [hn];refine Vj (hD.rd hn) o λ_ C e=>?_;subst e;exact hN _ rfl
theorem Qzp(hD:Dat w base (.slice A n c) ps)(hn:ps.length=n)(hmx:n<=1100000)(hnc:n<=c)(hr:∀ p∈ps,Off (one (Value.slice A n c).ownBlock) w (λu=>RowV u p.1 p.2)):
  Ret Tryz.prog 77 [.int .i64 (ar:Int),.slice A n c] w λv w'=>w.grownBy w' (Value.slice A n c).ownBlock/\∃ rv e,v=.tuple #[rv,.int .i64 e]/\(∃ z B m d,rv=.agg #[.int .i64 z,.slice B m d])/\(n<=65536->e=0) /\
   (e=0->∃ m,Off (λk=>k<w.heap.size/\(Value.slice A n c).ownBlock≠some k) w' (λu=>RelV u rv ar m)/\m.length<=65536/\(∀ x∈m,x∈ps.map (·.2))/\((n<=1000∨Srt [] (ps.map (·.2)))->IsSet [] (ps.map (·.2)) m)):=by
 refine Jz Tryz.func77 Tryz.ntmps77 rfl kr rfl ?_;refine ρ ?_;refine alc Yo ?_;intro w1 b a1 hb hB;have av:=hD.ext a1;have ae:∀ p∈ps,Off (one (Value.slice A n c).ownBlock) w1 (λu=>RowV u p.1 p.2):=λp J=>(hr p J).ext a1;obtain ⟨own,C⟩:∃ own,own=(Value.slice A n c).ownBlock:=⟨_,rfl⟩;have a8:∀ k,own=some k->k<w.heap.size:=λk e=>by
  obtain ⟨_,_,_,_,hf⟩:=Jy hD.1;exact (hf k (by rw [<-e,C])).2
 refine ρ ?_;refine cl (Qmj (av.rd hn) hn hmx (Qzj ae)) ?_;rintro v w2 ⟨a6,t,rfl,ht⟩;refine ρ ?_;refine Xt (fun (q:List Pr)=>[(0,.int .i64 (ar:Int)),(1,.slice A n c),(4,.pointer (some ⟨b,0,none⟩))]) (λq w'=>DP w1 w' base A n c ps q/\Blk w' b 95 [.int .i64 0,.slice none 0 0]/\((n<=1000∨Srt [] (ps.map (·.2)))->Srt [] (q.map (·.2)))) ?_ ?_
 .have H2:=(DP.start av hn).ext a6;refine ci (λh=>?_) (λh=>?_)
  .have ax:¬ SOn z0 (fP []) ps 0 n:=λe=>by have:=ht.2 e;rw [this]at h;cases h
   refine ρ ?_;refine cl (Qcg H2.d H2.l hmx ((Qzj ae).step H2)) ?_;rintro v w3 ⟨q,H3,hs⟩;refine ρ ?_;refine Jf q sB ⟨H2.after H3,(hB.ext a6).grown H3.g ((hB.ext a6).ne_own H2.d.1 rfl),λe=>?_⟩;rcases e with e|e
   .exact Jpc (by rw [H3.l];exact hs e)
   .exfalso
    apply ax
    intro i j _ b2 hj;have e':=(List.pairwise_map.1 e);rw [List.pairwise_iff_getElem]at e';have:=e' i j om om b2;unfold fP;rw [Jr z0 ps om,Jr z0 ps om];exact this
  .have ay:t=true:=by simpa using h
   refine ρ ?_;exact Jf ps sB ⟨H2,hB.ext a6,λ_=>Jpc (by rw [hn];exact ht.1 ay)⟩
 rintro q w3 ⟨H3,aw,b1⟩;have an:∀ p∈q,Off (one (Value.slice A n c).ownBlock) w3 (λu=>RowV u p.1 p.2):=λp J=>(ae p (H3.p.mem_iff.1 J)).grown H3.g λk e=>e;refine ρ ?_;refine cl (Qpx H3.d H3.l hmx hnc (eqRow an)) ?_;rintro v w4 ⟨o,rfl,au,a9,ab,ah⟩;have ba:o.length<=n:=by
  have:=Jwg (q.map (·.2))
  rw [<-a9,List.length_map,List.length_map,H3.l]at this;exact this
 have ai:=aw.grown ah (aw.ne_own H3.d.1 rfl);have am:∀ p∈o,Off (one own) w4 (λu=>RowV u p.1 p.2):=λp J=>by rw [C];exact (an p (ab p J)).grown ah λk e=>e
 have a3:w1.grownBy w4 own:=by rw [C];exact Zv H3.g ah
 have aj:((n<=1000∨Srt [] (ps.map (·.2)))->IsSet [] (ps.map (·.2)) (o.map (·.2))):=λe=>by
  have h1:=Qxj (b1 e);rw [<-a9]at h1;exact ⟨h1.1,λx=>(h1.2 x).trans ((H3.p.map (·.2)).mem_iff)⟩
 generalize hm:o.length=m at *
 refine ρ ?_;refine ci (λh=>?_) (λh=>?_)
 .have b6:65536<m:=by have:=oT h;omega
  refine ρ ?_;refine bld (Jbr _) ?_;refine ρ ?_;refine stb ai ?_ Vn;intro w5 a5 G b8;refine ρ ?_;refine Zp a5 ⟨?_,_,11,rfl,⟨0,none,0,0,rfl⟩,λe=>(by omega),λe=>(by cases e)⟩;have g1:=Zv (Zc a1 own) a3;rw [<-C];exact ⟨G.os.trans g1.os,G.tape.trans g1.tape,G.output.trans g1.output,Nat.le_trans g1.size G.size,λk hk hn=>(G.block k (nM hk g1.size) (λe=>by injection e with e;omega)).trans (g1.block k hk hn)⟩
 have b9:m<=65536:=by have:=oF h;omega
 clear h;obtain ⟨N',a4⟩:∃ N':Nat->Prop,N'=λk=>k<w1.heap.size∨own=some k:=⟨_,rfl⟩;have ag:(Value.slice A m c).ownBlock=own:=by rw [C];exact ownB _ _ _ _ _
 refine ρ ?_;refine Je (fun (k:Nat) (qs:List Pr)=>[(0,.int .i64 (ar:Int)),(1,.slice A m c),(4,.pointer (some ⟨b,0,none⟩)),(19,.int .i64 (m:Int)),(20,.int .i64 (k:Int))])
  (λk qs w'=>k<=m/\qs.length=k/\qs.map (·.2)=(o.take k).map (·.2)/\Dat w' base (.slice A m c) (qs++o.drop k)/\(∀ p∈qs,Off N' w' (λu=>RowV u p.1 p.2))/\(∀ p∈o,Off (one own) w' (λu=>RowV u p.1 p.2))/\Blk w' b 95 [.int .i64 0,.slice none 0 0]/\w1.grownBy w' own) (λk _=>m-k) 0 [] sB
  ⟨Nat.zero_le _,rfl,rfl,by simpa using au,λp J=>(by cases J),am,ai,a3⟩ ?_
 clear au am ai a3;rintro k qs w5 ⟨hk,af,a7,Z,ac,ak,a5,G⟩;refine ρ ?_;have O:(qs++o.drop k).length=m:=by simp;omega
 refine ci (λh=>?_) (λh=>?_)
 .have lk:k<m:=by have:=oT h;omega
  have aq:(qs++o.drop k).getD k z0=o.getD k z0:=by
   simp only [List.getD];rw [List.getElem?_append_right om,af,Nat.sub_self,List.getElem?_drop,Nat.add_zero]
  have ap:o.getD k z0∈o:=Vf hm lk;refine ρ ?_;refine ix k (Z.rd O) lk ?_;refine ρ ?_;refine ld (Z.cell O lk) ?_;rw [aq];refine ρ ?_;refine cl (Jzf (ak _ ap).here N' (λj hj=>?_)) ?_
  .subst a4;rcases hj with h'|h'
   .exact nM h' G.size
   .exact nM (a8 j h') (nL a1.size G.size)
  rintro v6 w6 ⟨ad,a2⟩;have aa:=Z.ext a2;obtain ⟨s1,s2,s3⟩:=aa.store O lk (p:=(v6,(o.getD k z0).2)) ad.v.one;refine ρ ?_;refine ix k (aa.rd O) lk ?_;refine ρ ?_;refine sto (aa.cell O lk) s1 ?_ (hv:=ad.v.one);refine ρ ?_;have e:(qs++o.drop k).set k (v6,(o.getD k z0).2)=(qs++[(v6,(o.getD k z0).2)])++o.drop (k+1):=by
   rw [List.set_append_right _ _ om,af,Nat.sub_self,List.drop_eq_getElem_cons om,List.set_cons_zero,List.append_assoc];rfl
  rw [e]at s2;rw [ag]at s3;refine Jl (k+1) (qs++[(v6,(o.getD k z0).2)]) sO ⟨om,by simp [af],?_,s2,λp J=>?_,λp J=>?_,?_,?_⟩ om
  .rw [List.map_append,a7,Qb z0 om,List.map_append];rfl
  .rcases List.mem_append.1 J with h'|h'
   .exact ((ac p h').ext a2).grown s3 (λk e=>by rw [a4];exact .inr e)
   .rw [List.mem_singleton.1 h'];exact ad.off.grown s3 (λk e=>by rw [a4];exact .inr e)
  .exact ((ak p J).ext a2).grown s3 (λk e=>e)
  .have h7:=a5.ext a2;refine h7.grown s3 ?_;have:=h7.ne_own aa.1 rfl;rwa [ag]at this
  .exact Zv G (Zv (Zc a2 _) s3)
 .have e:k=m:=by have:=oF h;omega
  subst e;rw [List.drop_of_length_le om,List.append_nil]at Z O;rw [List.take_of_length_le om]at a7;refine ρ ?_;refine bld (Qth (ar:Int) A k c _) ?_;refine ρ ?_;refine stb a5 ?_ (Vn (z:=(ar:Int)) (A:=A) (n:=k) (c:=c));intro w7 b5 U b7;refine ρ ?_;have b3:N' b:=by rw [a4];exact .inl hB.lt
  have b4:Dat w7 base (.slice A k c) qs:=⟨Z.1.kept U (.inr (λe=>a5.ne_own Z.1 rfl e.symm)),Z.2⟩;have ao:=Qcx (N:=λj=>j<w.heap.size/\own≠some j) b4 O om om (λj ej hj=>hj.2 (by rw [<-ej,ag])) (λp J=>((ac p J).grown U (λj ej=>by injection ej with ej;rw [<-ej];exact b3)).mono λj _ hj=>by rw [a4];exact .inl (nM hj.1 a1.size));refine Zp b5 ⟨?_,_,0,rfl,⟨_,_,_,_,rfl⟩,λ_=>rfl,λ_=>⟨qs.map (·.2),?_,by rw [List.length_map];omega,?_,?_⟩⟩
  .have g1:=Zv (Zc a1 own) G;rw [<-C];exact ⟨U.os.trans g1.os,U.tape.trans g1.tape,U.output.trans g1.output,Nat.le_trans g1.size U.size,λj hj hn=>(U.block j (nM hj g1.size) (λe=>by injection e with e;omega)).trans (g1.block j hj hn)⟩
  .rw [<-C];exact ao.imp λu hu=>⟨_,rfl,hu⟩
  .intro x hx;rw [a7,a9]at hx;have:x∈q.map (·.2):=by
    obtain ⟨p,J,rfl⟩:=List.mem_map.1 (a9 ▸ hx);exact List.mem_map.2 ⟨p,ab p J,rfl⟩
   exact (H3.p.map (·.2)).mem_iff.1 this
  .intro e;rw [a7];exact aj e
open Go.RowKit Pl Go.Wk
variable {ar b c n:Nat}{a w w':World}
theorem Qzs(w:World): (Instr.buildSlice 54 0 #[]).run Tryz.prog w=.ok (.slice (some ⟨w.heap.size,0,none⟩) 0 0) (w.alloc (.cells [].toArray 37)):=kr
theorem Qrr{A:Option Addr}{ps:List Pr}(hR:Rd w 1 A n (ps.map (·.1)))(hn:ps.length=n)(hmx:n<=1100000)(h1:∀ p∈ps,p.1.oneCell'=true):
  Ret Tryz.prog 78 [.slice A n c] w λv' w'=>Ext w w'/\∃ B d,v'=.slice B n d/\n<=d/\Dat w' w.heap.size (.slice B n d) ps:=by
 refine Jz Tryz.func78 Tryz.ntmps78 rfl kr rfl ?_;refine ρ ?_;refine Ir ?_;refine ρ ?_;refine ci (λh=>?_) (λh=>?_)
 .have hA:A=none:=by simpa using h
  subst hA;have U:n=0:=by
   rcases Nat.eq_zero_or_pos n with h0|h0
   .exact h0
   .obtain ⟨ad,h2,_⟩:=hR.isome h0 om;cases h2
  subst U;obtain rfl:=List.eq_nil_of_length_eq_zero hn;refine ρ ?_;exact Jq ⟨Ext.refl w,none,0,rfl,Nat.le_refl _,⟨Xa _ _ _ _,λp O=>by cases O⟩⟩
 .refine ρ ?_;refine bsl Qzs ?_;intro w1 b C a1 Z;refine ρ ?_;refine apo C ER (Z.own (n:=0) a1 rfl (Nat.zero_le _)) (hR.ext C) (λu hu=>by obtain ⟨p,O,rfl⟩:=List.mem_map.1 hu;exact h1 p O) (by unfold maxLen;omega) om ?_;intro v2 w2 o J _ _;obtain ⟨A2,c2,rfl,G,hf⟩:=Jy o;refine ρ ?_;rw [Nat.zero_add]at o G ⊢;refine Jq ⟨J,A2,c2,rfl,G,⟨?_,h1⟩⟩;rw [hn];exact o
theorem Jyx(hx:Ext a w)(hg:w.grownBy w' (some b))(hb:a.heap.size<=b): Ext a w':=Qf hx hg λk e=>by injection e with e;omega
theorem Jvs{v:Value}{ls:List Row}(h:RowsV w v ls):
  Ret Tryz.prog 46 [.int .i64 (ar:Int),v] w λu w'=>Ext w w'/\∃ rv e,u=.tuple #[rv,.int .i64 e]/\(∃ z B m d,rv=.agg #[.int .i64 z,.slice B m d])/\(ar<=32->(∀ r∈ls,r.length=ar/\r.all Xj=true)->ls.length<=65536->e=0) /\
   (e=0->ar<=32/\(∀ r∈ls,r.length=ar/\r.all Xj=true)/\∃ m,Off (λk=>k<w.heap.size) w' (λu=>RelV u rv ar m)/\m.length<=65536/\(∀ x∈m,x∈ls)/\((ls.length<=1000∨Srt [] ls)->IsSet [] ls m)):=by
 obtain ⟨ps,A,c,rfl,rfl,b8,ag,hR,a1⟩:=h;generalize hn:ps.length=n at *
 have b7:∀ i,(ps.map (·.2)).getD i []=(ps.getD i z0).2:=λi=>Jxn
 have ae:∀ p∈ps,p.1.oneCell'=true:=λp hp=>(a1 p hp).one;refine Jz Tryz.func46 Tryz.ntmps46 rfl kr rfl ?_;refine ρ ?_;refine alc Yo ?_;intro w1 b au hb hB;refine ρ ?_;refine cl (Qdm (ar:Int) w1) ?_;rintro v2 w2 ⟨ad,z',e2,rfl,ai,C⟩;refine ρ ?_;refine alc Yo ?_;intro w3 b3 aq b1 b6;refine ρ ?_;refine stb b6 ?_ (Vn (z:=z') (A:=none) (n:=0) (c:=0));intro w4 b5 ba ap;have a6:Ext w1 w4:=ap w1 (ad.trans aq) (nL ad.size b1);have J:=au.trans a6;have ab:=hB.ext a6;refine ρ ?_;refine ci (λh=>?_) (λh=>?_)
 .have a7:=Gn h;refine ρ ?_;refine bld (Jbr _) ?_;refine ρ ?_;refine stb ab ?_ Vn;intro w5 aa b9 U;refine ρ ?_;refine Zp aa ⟨U w J hb,_,e2,rfl,⟨0,none,0,0,rfl⟩,λh1 _ _=>C.2 om,λe=>absurd e a7⟩
 have hz:=Gr h;subst hz;have b2:ar<=32:=by have:=C.1 rfl;omega
 have ak:=ai rfl;subst ak;clear h ai C;refine ρ ?_;refine Qh (fun (k:Nat)=>[(0,.int .i64 (ar:Int)),(1,.slice A n c),(4,.pointer (some ⟨b,0,none⟩)),(6,.pointer (some ⟨b3,0,none⟩)),(20,.int .i64 (n:Int)),(21,.int .i64 (k:Int))])
  (λk w'=>Ext w4 w'/\k<=n/\∀ i,i<k->(ps.getD i z0).2.length=ar/\(ps.getD i z0).2.all Xj=true) (λk=>n-k) 0 sB ⟨Ext.refl _,Nat.zero_le _,λi hi=>om⟩ ?_
 rintro k w5 ⟨U,hk,hI⟩;have o:=J.trans U;refine ρ ?_;refine ci (λh=>?_) (λh=>?_)
 .have lk:k<n:=by have:=oT h;omega
  clear h;refine ρ ?_;refine dr [(0,0),(0,1),(0,2),(0,3),(0,4),(1,5),(0,6)] kr ?_;have a5:=U.drew;have aa:=b5.ext a5;have aj:=hR.ext o.drew;refine ρd ?_;refine Qw (cs:=[.int .i64 (ar:Int),.slice none 0 0]) (λj u hu=>aa.at hu) ?_;refine ρd ?_;refine dix k aj lk ?_;refine ρd ?_;refine dld (Jqr aj hn lk) ?_;refine ρd ?_;refine dcl (Xjl (A:=none) (n:=0) (c:=0) rfl ((a1 _ (Vf hn lk)).ext o.drew)) ?_;rintro u w6 ⟨O,e,rfl,C⟩;refine ⟨O,?_⟩;refine ρd ?_;refine ρ ?_;have Z:=a5.trans O;refine ci (λh=>?_) (λh=>?_)
  .have a7:=Gn h;refine ρ ?_;refine bld (Jbr _) ?_;refine ρ ?_;refine stb (ab.ext Z) ?_ Vn;intro w7 a9 a8 ao;refine ρ ?_;refine Zp a9 ⟨ao w (J.trans Z) hb,_,e,rfl,⟨0,none,0,0,rfl⟩,λ_ h2 _=>?_,λe=>absurd e a7⟩;obtain ⟨k1,k2⟩:=h2 (ps.getD k z0).2 (List.mem_map.2 ⟨_,Vf hn lk,rfl⟩);exact C.2 ⟨om,k2⟩
  .have hz:=Gr h;have am:=C.1 hz;refine ρ ?_;refine Qv (k+1) sO ⟨Z,om,λi hi=>?_⟩ om;by_cases e:i=k
   .subst e;exact ⟨om,am.2⟩
   .exact hI i om
 .have e:k=n:=by have:=oF h;omega
  subst e;refine ρ ?_;refine cl (Qrr (hR.ext o) hn ag ae) ?_;rintro u w6 ⟨O,D,d,rfl,hd,a3⟩;have G:=o.trans O;have a2:∀ j,(Value.slice D k d).ownBlock=some j->w5.heap.size<=j/\j<w6.heap.size:=by
   obtain ⟨_,_,_,_,hf⟩:=Jy a3.1;exact λj ej=>⟨(hf j ej).1,(hf j ej).2⟩
  have af:∀ p∈ps,Off (one (Value.slice D k d).ownBlock) w6 (λu=>RowV u p.1 p.2):=λp hp=>Off.old (a:=w) (λu hu=>(a1 p hp).ext hu) G (λj ej=>nL o.size (a2 j ej).1);refine ρ ?_;refine cl (Qzp (ar:=ar) a3 hn ag hd af) ?_;rintro u w7 ⟨a8,rv,e,rfl,⟨z,B,m,d',av⟩,ah,aw⟩;have ac:Ext w w7:=Qf G a8 (λj ej=>nL o.size (a2 j ej).1);have a4:=(ab.ext U).ext O;have a9:=a4.grown a8 (a4.ne_own a3.1 rfl);subst av;refine ρ ?_;refine stb a9 ?_ (Vn (z:=z) (A:=B) (n:=m) (c:=d'));intro w8 b4 ax an;refine ρ ?_;refine Zp b4 ⟨an w ac hb,_,e,rfl,⟨z,B,m,d',rfl⟩,λ_ _ h3=>ah (by rw [List.length_map,hn]at h3;exact h3),λe0=>⟨b2,λr hr=>?_,?_⟩⟩
  .obtain ⟨p,hp,rfl⟩:=List.mem_map.1 hr;obtain ⟨i,hi,rfl⟩:=List.getElem_of_mem hp;have:=hI i om;rw [Jr z0 ps hi]at this;exact this
  .obtain ⟨ms,m1,m2,m3,m4⟩:=aw e0;refine ⟨ms,?_,m2,m3,λhc=>m4 (by rw [List.length_map,hn]at hc;exact hc)⟩;have ay:b<w6.heap.size/\(Value.slice D k d).ownBlock≠some b:=⟨a4.lt,λe=>a4.ne_own a3.1 rfl e.symm⟩;refine (m1.grown ax (λj ej=>by injection ej with ej;rw [<-ej];exact ay)).mono λj _ hj=>⟨nM hj G.size,λe=>?_⟩;have:=(a2 j e).1;have:=o.size;omega
open Go.RowKit Pl Go.Wk
variable {cs:List Nat}{ls:List Row}{ar i k:Nat}{v:Value}{w:World}
theorem Jdt: ∀ (q:Row) (i:Nat) (x:V),i<q.length->Jm (q.set i x)=(Jm q).take (i*3)++x.cells++(Jm q).drop (i*3+3)
 | [],i,x,h=>by simp at h
 | v::q,0,x,_=>by
  have e:Jm (v::q)=v.cells++Jm q:=by simp [Jm]
  have e2:Jm (x::q)=x.cells++Jm q:=by simp [Jm]
  rw [List.set_cons_zero,e,e2,Nat.zero_mul,List.take_zero,List.nil_append,Nat.zero_add];congr 1
 | v::q,i+1,x,h=>by
  have ih:=Jdt q i x (by simpa using h);have e:Jm (v::q)=v.cells++Jm q:=by simp [Jm]
  have e2:Jm (v::q.set i x)=v.cells++Jm (q.set i x):=by simp [Jm]
  have hl:v.cells.length=3:=rfl;rw [List.set_cons_succ,e,e2,ih];have e3:(v.cells++Jm q).take ((i+1)*3)=v.cells++(Jm q).take (i*3):=by
   rw [List.take_append,hl,List.take_of_length_le om];congr 2;omega
  have e4:(v.cells++Jm q).drop ((i+1)*3+3)=(Jm q).drop (i*3+3):=by
   rw [List.drop_append,hl,List.drop_of_length_le om,List.nil_append];congr 1;omega
  rw [e3,e4];simp [List.append_assoc]
theorem Jdr(n:Nat): (madeCells (Value.agg #[.int .i64 0,.int .i64 0,.string ⟨#[]⟩]).cells (n*3)).toList=Jm (List.replicate n V0):=by
 apply List.ext_getElem?
 intro k;have u:(Value.agg #[.int .i64 0,.int .i64 0,.string ⟨#[]⟩]).cells = #[.int .i64 0,.int .i64 0,.string ⟨#[]⟩]:=rfl;rw [u];by_cases hk:k<n*3
 .have o:=Jdv (List.replicate n V0) (k / 3) (k % 3) (by simp;omega) om;rw [show k / 3*3+k % 3=k by omega]at o;rw [o];have e:(List.replicate n V0).getD (k / 3) V0=V0:=by
   rw [Jr V0 _ (by simp;omega)];simp
  rw [e];have C:k % 3<3:=om
  simp only [madeCells,Array.getElem?_toList,Array.getElem?_map,Array.getElem?_range,hk,if_true,Option.map_some];generalize k % 3=r at *
  have:r=0∨r=1∨r=2:=om
  rcases this with rfl|rfl|rfl<;>rfl
 .rw [List.getElem?_eq_none (by simp [madeCells];omega),List.getElem?_eq_none (by rw [Jrj];simp;omega)]
def Jt(zs:List Int): List Value:=zs.map (Value.int .i64)
def IntsV(w:World)(v:Value)(zs:List Int): Prop:=∃ A c,v=.slice A zs.length c/\zs.length<=c/\zs.length<=1100000/\Rd w 1 A zs.length (Jt zs)
theorem IntsV.ext{w w':World}{v:Value}{zs:List Int}(h:IntsV w v zs)(hx:Ext w w'): IntsV w' v zs:=by obtain ⟨A,c,G,C,u,o⟩:=h;exact ⟨A,c,G,C,u,o.ext hx⟩
theorem Jkq{zs:List Int}(h:i<zs.length): (Jt zs)[i]?=some (.int .i64 (zs.getD i 0)):=by simp [Jt,List.getD,List.getElem?_eq_getElem h]
def nz(cs:List Nat): List Int:=cs.map fun (c:Nat)=>(c:Int)
theorem Xn(h:i<cs.length): (Jt (nz cs))[i]?=some (.int .i64 (cs.getD i 0:Int)):=by simp [Jt,nz,List.getD,List.getElem?_eq_getElem h]
theorem Qq(cs:List Nat): (nz cs).length=cs.length:=by simp [nz]
def pmR(cs:List Nat)(r:Row): Row:=cs.map λc=>r.getD c V0
abbrev Zs(w:World)(base:Nat)(v:Value)(q:Row): Prop:=w.ownsRow base 47 3 v q.length (Jm q)
theorem Qr(cs:List Nat)(r:Row): (pmR cs r).length=cs.length:=by simp [pmR]
theorem Jvx{r:Row}(hk:k<cs.length): (pmR cs r).getD k V0=r.getD (cs.getD k 0) V0:=by
 rw [Jr V0 _ (by simpa [pmR] using hk),Jr 0 cs hk];simp [pmR]
theorem Jkc(h:RelV w v ar ls): Ret Tryz.prog 82 [v] w λu w'=>u=.int .i64 (ls.length:Int)/\Ext w w':=by
 obtain ⟨Z,rfl,ps,A,c,rfl,rfl,J,G,hR,C⟩:=h;refine Jz Tryz.func82 Tryz.ntmps82 rfl kr rfl ?_;refine ρ ?_;refine bx ?_;intro U b o hb O;refine ρ ?_;refine ld (O.at (i:=1) rfl) ?_;refine ρ ?_;exact Jq ⟨by rw [List.length_map],o⟩
theorem Jdz(h:RelV w v ar ls): Ret Tryz.prog 159 [v] w λu w'=>u=.int .i64 (ar:Int)/\Ext w w':=by
 obtain ⟨Z,rfl,ps,A,c,rfl,rfl,J,G,hR,C⟩:=h;refine Jz Tryz.func159 Tryz.ntmps159 rfl kr rfl ?_;refine ρ ?_;refine bx ?_;intro U b o hb O;refine ρ ?_;refine ld (O.at (i:=0) rfl) ?_;refine ρ ?_;exact Jq ⟨rfl,o⟩
theorem Jdx(h:RelV w v ar ls): Ret Tryz.prog 132 [v] w λu w'=>Ext w w'/\RowsP (λk=>k<w.heap.size) w' u ls:=by
 obtain ⟨rv,rfl,ps,A,c,rfl,rfl,ag,ae,hR,aa⟩:=h;generalize hn:ps.length=n at *
 refine Jz Tryz.func132 Tryz.ntmps132 rfl kr rfl ?_;refine ρ ?_;refine bx ?_;intro w0 b a1 hb hB;refine ρ ?_;refine ld (hB.at (i:=1) rfl) ?_;refine ρ ?_;refine mkn ER n om (by unfold maxLen;omega) ?_;intro w1 O ad a5 hO;have a7:∀ k,(Value.slice O n n).ownBlock=some k->w0.heap.size<=k/\k<w1.heap.size:=by
  obtain ⟨_,_,e,_,hf⟩:=Jy a5;exact hf
 have af:Dat w1 w0.heap.size (.slice O n n) ([]++List.replicate n (.slice none 0 0,[])):=by
  refine ⟨?_,λp Z=>?_⟩
  .rw [List.nil_append,List.length_replicate,Pr.rep];have e:(madeCells (Value.slice none 0 0).cells (n*1)).toList=List.replicate n (.slice none 0 0):=by rw [Nat.mul_one];exact Yp _ _
   rw [e]at a5;exact a5
  .rw [List.nil_append]at Z;rw [(List.mem_replicate.1 Z).2];rfl
 obtain ⟨N,hN⟩:∃ N:Nat->Prop,N=λk=>k<w0.heap.size∨(Value.slice O n n).ownBlock=some k:=⟨_,rfl⟩;refine ρ ?_;refine Je (fun (k:Nat) (C:List Pr)=>[(1,.pointer (some ⟨b,0,none⟩)),(3,.slice O n n),(10,.int .i64 (n:Int)),(11,.int .i64 (k:Int))])
  (λk C w2=>k<=n/\C.length=k/\C.map (·.2)=(ps.take k).map (·.2)/\Ext w0 w2/\w1.heap.size<=w2.heap.size/\Dat w2 w0.heap.size (.slice O n n) (C++List.replicate (n-k) (.slice none 0 0,[]))/\(∀ p∈C,Off N w2 (λu=>RowV u p.1 p.2))) (λk _=>n-k) 0 [] sB
  ⟨Nat.zero_le _,rfl,rfl,ad,Nat.le_refl _,af,λp Z=>(by cases Z)⟩ ?_
 rintro k C w2 ⟨hk,a4,a3,J,U,a9,ab⟩;have o:=a1.trans J;refine ρ ?_;refine ci (λh=>?_) (λh=>?_)
 .have lk:k<n:=by have:=oT h;omega
  refine ρ ?_;refine ld ((hB.ext J).at (i:=1) rfl) ?_;refine ρ ?_;refine ix k (hR.ext o) lk ?_;refine ρ ?_;refine ld (Jqr (hR.ext o) hn lk) ?_;refine ρ ?_;refine cl (Jzf ((aa _ (Vf hn lk)).ext o) N (λj hj=>?_)) ?_
  .subst hN;rcases hj with h'|h'
   .exact nM h' J.size
   .exact nM (a7 j h').2 U
  rintro v3 w3 ⟨a2,G⟩;have a8:=a9.ext G;have a6:(C++List.replicate (n-k) ((.slice none 0 0,[]):Pr)).length=n:=by simp;omega
  obtain ⟨s1,s2,s3⟩:=a8.store a6 lk (p:=(v3,(ps.getD k z0).2)) a2.v.one;refine ρ ?_;refine ix k (a8.rd a6) lk ?_;refine ρ ?_;refine sto (a8.cell a6 lk) s1 ?_ (hv:=a2.v.one);refine ρ ?_;have e:(C++List.replicate (n-k) ((.slice none 0 0,[]):Pr)).set k (v3,(ps.getD k z0).2)=(C++[(v3,(ps.getD k z0).2)])++List.replicate (n-(k+1)) (.slice none 0 0,[]):=by
   rw [show n-k=(n-(k+1))+1 by omega,List.replicate_succ,List.set_append_right _ _ om,a4,Nat.sub_self,List.set_cons_zero,List.append_assoc];rfl
  rw [e]at s2;have ac:∀ j,(Value.slice O n n).ownBlock=some j->N j:=λj ej=>by rw [hN];exact .inr ej
  refine Jl (k+1) (C++[(v3,(ps.getD k z0).2)]) sO ⟨om,by simp [a4],?_,Qf (J.trans G) s3 (λj hj=>(a7 j hj).1),Nat.le_trans U (nL G.size s3.size),s2,λp Z=>?_⟩ om
  .rw [List.map_append,a3,Qb z0 om,List.map_append];rfl
  .rcases List.mem_append.1 Z with h'|h'
   .exact ((ab p h').ext G).grown s3 ac
   .rw [List.mem_singleton.1 h'];exact a2.off.grown s3 ac
 .have e:k=n:=by have:=oF h;omega
  subst e;rw [Nat.sub_self,List.replicate_zero,List.append_nil]at a9;rw [List.take_of_length_le om]at a3;refine ρ ?_;refine Jq ⟨o,?_⟩;rw [<-a3];refine rowsP a9 a4 ae (Nat.le_refl _) (λj ej hj=>?_) λp Z=>(ab p Z).mono λj _ hj=>by rw [hN];exact .inl (nM hj a1.size)
  have:=(a7 j ej).1;have:=a1.size;omega
open Go.RowKit Pl Go.Wk
variable {cs:List Nat}{v vc:Value}{w:World}
theorem Qdb{r:Row}(h:RowV w v r)(hc:IntsV w vc (nz cs))(hlt:∀ c∈cs,c<r.length): Ret Tryz.prog 202 [v,vc] w λu w'=>Ext w w'/\∃ x,u=.tuple #[x,.int .i64 0]/\Off (λk=>k<w.heap.size) w' (λy=>RowV y x (pmR cs r)):=by
 obtain ⟨A,ac,rfl,ah,ag,aa⟩:=h;obtain ⟨C,cc,rfl,ae,ab,J⟩:=hc;rw [Qq]at *;refine Jz Tryz.func202 Tryz.ntmps202 rfl kr rfl ?_;refine ρ ?_;refine Qh (fun (k:Nat)=>[(0,.slice A r.length ac),(1,.slice C cs.length cc),(10,.int .i64 (cs.length:Int)),(11,.int .i64 (k:Int))]) (λk w'=>w'=w/\k<=cs.length) (λk=>cs.length-k) 0 sB ⟨rfl,Nat.zero_le _⟩ ?_;rintro k w' ⟨rfl,hk⟩;refine ρ ?_;refine ci (λh=>?_) (λh=>?_)
 .have lk:k<cs.length:=by have:=oT h;omega
  have af:=hlt _ (getD_mem' 0 cs lk);refine ρ ?_;refine ix k J lk ?_;refine ρ ?_;refine ld (J.cell (Xn lk)) ?_;refine ρ ?_;refine kf 19 ?_ ?_
  .exact dF om
  refine ρ ?_;refine ix k J lk ?_;refine ρ ?_;refine ld (J.cell (Xn lk)) ?_;refine ρ ?_;refine cf ?_ ?_
  .exact dF om
  refine ρ ?_;exact Qv (k+1) sO ⟨rfl,om⟩ om
 refine ρ ?_;refine mkn EV cs.length om (by unfold maxLen;omega) ?_;intro w4 O a6 a4 hO;rw [Jdr]at a4;have a3:Zs w4 w'.heap.size (.slice O cs.length cs.length) ([]++List.replicate cs.length V0):=by
  rw [Zs,List.nil_append,List.length_replicate];exact a4
 refine ρ ?_;refine Qh (fun (i:Nat)=>[(0,.slice A r.length ac),(1,.slice C cs.length cc),(7,.slice O cs.length cs.length),(33,.int .i64 (cs.length:Int)),(34,.int .i64 (i:Int))])
  (λi w5=>i<=cs.length/\Ext w' w5/\Zs w5 w'.heap.size (.slice O cs.length cs.length) ((pmR cs r).take i++List.replicate (cs.length-i) V0)) (λi=>cs.length-i) 0 sB
  ⟨Nat.zero_le _,a6,a3⟩ ?_
 rintro i w5 ⟨hi,U,o⟩;have G:((pmR cs r).take i++List.replicate (cs.length-i) V0).length=cs.length:=by simp [Qr];omega
 rw [Zs,G]at o;refine ρ ?_;refine ci (λh0=>?_) (λh0=>?_)
 .have li:i<cs.length:=by have:=oT h0;omega
  have Z:=J.ext U;have a1:RdR w5 A r:=Rd.ext aa U;have lc:=hlt _ (getD_mem' 0 cs li);refine ρ ?_;refine ix i Z li ?_;refine ρ ?_;refine ld (Z.cell (Xn li)) ?_;refine ρ ?_;refine ixq 3 (cs.getD i 0) a1 lc ?_;refine ρ ?_;refine lds (λj u hu=>RdR.cell a1 lc hu) ?_;refine ρ ?_;refine ixq 3 i (Rd.own o) li ?_;refine ρ ?_;refine stoE (cs:=(r.getD (cs.getD i 0) V0).cells) o li ?_ (V.one _);intro w6 a7 a9;have a5:Ext w' w6:=Qf U a9 (λk hk=>by
   obtain ⟨_,_,e,_,hf⟩:=Jy o;exact (hf k hk).1)
  refine ρ ?_;refine Qv (i+1) sO ⟨om,a5,?_⟩ om;have e:((pmR cs r).take i++List.replicate (cs.length-i) V0).set i (r.getD (cs.getD i 0) V0)=(pmR cs r).take (i+1)++List.replicate (cs.length-(i+1)) V0:=by
   have hl:((pmR cs r).take i).length=i:=by simp [Qr];omega
   rw [List.set_append_right _ _ om,hl,Nat.sub_self,show cs.length-i=(cs.length-(i+1))+1 by omega,List.replicate_succ,List.set_cons_zero,List.take_succ_eq_append_getElem (by rw [Qr];omega),List.append_assoc];rw [<-Jvx li,Jr V0 _ (by rw [Qr];omega)];rfl
  have a2:((pmR cs r).take (i+1)++List.replicate (cs.length-(i+1)) V0).length=cs.length:=by rw [<-e];simp [Qr];omega
  rw [Zs,a2,<-e,Jdt _ _ _ (by rw [G];omega)];exact a7
 .have a8:i=cs.length:=by have:=oF h0;omega
  subst a8;rw [Nat.sub_self,List.replicate_zero,List.append_nil,List.take_of_length_le (by rw [Qr];omega)]at o;refine ρ ?_;refine Yw ⟨U,_,rfl,?_⟩;obtain ⟨_,_,_,_,hf⟩:=Jy o;intro y hg;refine ⟨O,cs.length,by rw [Qr],by rw [Qr];omega,by rw [Qr];omega,?_⟩;rw [RdR,Qr];refine Vj (Rd.own o) hg λ_ ad e=>?_;subst e;have:=(hf ad.block rfl).1;omega
theorem Jrq{ar:Nat}{ls:List Row}(h:RelV w v ar ls)(hc:IntsV w vc (nz cs))(hlen:∀ r∈ls,r.length=ar)(hlt:∀ c∈cs,c<ar)(h32:cs.length<=32)(hbig:ls.length<=65536):
  Ret Tryz.prog 186 [v,vc] w λu w'=>Ext w w'/\∃ rv,u=.tuple #[rv,.int .i64 0]/\(∃ z B m d,rv=.agg #[.int .i64 z,.slice B m d])/\∃ m,Off (λk=>k<w.heap.size) w' (λx=>RelV x rv cs.length m)/\m.length<=65536/\(∀ x∈m,x∈ls.map (pmR cs))/\((ls.length<=1000∨Srt [] (ls.map (pmR cs)))->IsSet [] (ls.map (pmR cs)) m):=by
 obtain ⟨rv,rfl,ps,A,c,rfl,rfl,bf,b4,hR,ak⟩:=h;obtain ⟨C,cc,rfl,bh,bg,b7⟩:=id hc;generalize hn:ps.length=n at *
 rw [List.length_map,hn]at hbig;have af:∀ p∈ps,p.2.length=ar:=λp hp=>hlen _ (List.mem_map.2 ⟨p,hp,rfl⟩);rw [Qq]at *;refine Jz Tryz.func186 Tryz.ntmps186 rfl kr rfl ?_;refine ρ ?_;refine bx ?_;intro w1 b1 a1 bi be;refine ρ ?_;refine alc Yo ?_;intro w2 b2 aj b9 bd;have a7:=a1.trans aj;have aa:=be.ext aj;refine ρ ?_;refine cf ?_ ?_
 .exact dF om
 refine ρ ?_;refine Qh (fun (k:Nat)=>[(1,.slice C cs.length cc),(2,.pointer (some ⟨b1,0,none⟩)),(4,.pointer (some ⟨b2,0,none⟩)),(14,.int .i64 (cs.length:Int)),(15,.int .i64 (k:Int))]) (λk w'=>Ext w2 w'/\k<=cs.length) (λk=>cs.length-k) 0 sB ⟨Ext.refl _,Nat.zero_le _⟩ ?_;rintro k w3 ⟨a4,hk⟩;refine ρ ?_;refine ci (λh=>?_) (λh=>?_)
 .have lk:k<cs.length:=by have:=oT h;omega
  have ap:=hlt _ (getD_mem' 0 cs lk);clear h;refine ρ ?_;refine dr [(0,0),(0,1),(0,2),(0,3),(0,4),(0,5),(0,6),(0,7),(0,8),(0,9),(0,10),(0,11),(0,12),(0,13)] kr ?_;have ab:=a4.drew;have G:=b7.ext (a7.trans ab);refine ρd ?_;refine dix k G lk ?_;refine ρd ?_;refine dld (G.cell (Xn lk)) ?_;refine ρd ?_;refine dkf 23 ?_ ?_
  .exact dF om
  refine ρd ?_;refine dix k G lk ?_;refine ρd ?_;refine dld (G.cell (Xn lk)) ?_;refine ρd ?_;refine dld ((aa.ext ab).at (i:=0) rfl) ?_;refine ρd ?_;refine ρ ?_;refine cf ?_ ?_
  .exact dF om
  refine ρ ?_;exact Qv (k+1) sO ⟨ab,om⟩ om
 clear h hk;have U:=a7.trans a4;have a9:=aa.ext a4;refine ρ ?_;refine ld (a9.at (i:=1) rfl) ?_;refine ρ ?_;refine mkn ER n om (by unfold maxLen;omega) ?_;intro w4 O aw ae hO;have a5:∀ k,(Value.slice O n n).ownBlock=some k->w3.heap.size<=k/\k<w4.heap.size:=by
  obtain ⟨_,_,e,_,hf⟩:=Jy ae;exact hf
 have ba:Dat w4 w3.heap.size (.slice O n n) ([]++List.replicate n (.slice none 0 0,[])):=by
  refine ⟨?_,λp hp=>?_⟩
  .rw [List.nil_append,List.length_replicate,Pr.rep];have e:(madeCells (Value.slice none 0 0).cells (n*1)).toList=List.replicate n (.slice none 0 0):=by rw [Nat.mul_one];exact Yp _ _
   rw [e]at ae;exact ae
  .rw [List.nil_append]at hp;rw [(List.mem_replicate.1 hp).2];rfl
 obtain ⟨N,hN⟩:∃ N:Nat->Prop,N=λk=>k<w3.heap.size∨(Value.slice O n n).ownBlock=some k:=⟨_,rfl⟩;refine ρ ?_;refine Je (fun (k:Nat) (J:List Pr)=>[(1,.slice C cs.length cc),(2,.pointer (some ⟨b1,0,none⟩)),(4,.pointer (some ⟨b2,0,none⟩)),(7,.slice O n n),(39,.int .i64 (n:Int)),(40,.int .i64 (k:Int))])
  (λk J w5=>k<=n/\J.length=k/\J.map (·.2)=(ps.take k).map (λp=>pmR cs p.2)/\Ext w3 w5/\w4.heap.size<=w5.heap.size/\Dat w5 w3.heap.size (.slice O n n) (J++List.replicate (n-k) (.slice none 0 0,[]))/\(∀ p∈J,Off N w5 (λu=>RowV u p.1 p.2))) (λk _=>n-k) 0 [] sB
  ⟨Nat.zero_le _,rfl,rfl,aw,Nat.le_refl _,ba,λp hp=>(by cases hp)⟩ ?_
 rintro k J w5 ⟨hk,ad,ac,Z,a8,a2,aq⟩;have o:=U.trans Z;refine ρ ?_;refine ci (λh=>?_) (λh=>?_)
 .have lk:k<n:=by have:=oT h;omega
  have ay:(ps.getD k z0).2.length=ar:=af _ (Vf hn lk);refine ρ ?_;refine ld ((a9.ext Z).at (i:=1) rfl) ?_;refine ρ ?_;refine ix k (hR.ext o) lk ?_;refine ρ ?_;refine ld (Jqr (hR.ext o) hn lk) ?_;refine ρ ?_;refine cl (Qdb ((ak _ (Vf hn lk)).ext o) (hc.ext o) (λc ap=>by rw [ay];exact hlt c ap)) ?_;rintro u w6 ⟨a3,x,rfl,am⟩;have ah:=a2.ext a3;have ag:(J++List.replicate (n-k) ((.slice none 0 0,[]):Pr)).length=n:=by simp;omega
  have a1:x.oneCell'=true:=am.here.one;obtain ⟨s1,s2,s3⟩:=ah.store ag lk (p:=(x,pmR cs (ps.getD k z0).2)) a1;refine ρ ?_;refine ix k (ah.rd ag) lk ?_;refine ρ ?_;refine sto (ah.cell ag lk) s1 ?_ (hv:=a1);refine ρ ?_;have e:(J++List.replicate (n-k) ((.slice none 0 0,[]):Pr)).set k (x,pmR cs (ps.getD k z0).2)=(J++[(x,pmR cs (ps.getD k z0).2)])++List.replicate (n-(k+1)) (.slice none 0 0,[]):=by
   rw [show n-k=(n-(k+1))+1 by omega,List.replicate_succ,List.set_append_right _ _ om,ad,Nat.sub_self,List.set_cons_zero,List.append_assoc];rfl
  rw [e]at s2;have au:∀ j,(Value.slice O n n).ownBlock=some j->N j:=λj ej=>by rw [hN];exact .inr ej
  refine Jl (k+1) (J++[(x,pmR cs (ps.getD k z0).2)]) sO ⟨om,by simp [ad],?_,Qf (Z.trans a3) s3 (λj hj=>(a5 j hj).1),Nat.le_trans a8 (nL a3.size s3.size),s2,λp hp=>?_⟩ om
  .rw [List.map_append,ac,Qb z0 om,List.map_append];rfl
  .rcases List.mem_append.1 hp with h'|h'
   .exact ((aq p h').ext a3).grown s3 au
   .rw [List.mem_singleton.1 h'];refine (am.mono λj _ hj=>?_).grown s3 au;rw [hN]at hj;rcases hj with h'|h'
    .exact nM h' Z.size
    .exact nM (a5 j h').2 a8
 .have e:k=n:=by have:=oF h;omega
  subst e;rw [Nat.sub_self,List.replicate_zero,List.append_nil]at a2;rw [List.take_of_length_le om]at ac;have b5:J.map (·.2)=(ps.map (·.2)).map (pmR cs):=by rw [ac,List.map_map];rfl
  refine ρ ?_;refine cl (Qzp (ar:=cs.length) a2 ad b4 (Nat.le_refl _) (λp hp=>(aq p hp).mono λj _ hj=>by rw [hN];exact .inr hj)) ?_;rintro u w7 ⟨an,rv,e,rfl,⟨z,B,m,d',ax⟩,ao,b3⟩;have he:=ao hbig;subst he;have ai:Ext w w7:=Qf o an (λj ej=>nL U.size (a5 j ej).1);have a6:=(bd.ext a4).ext Z;have bc:=a6.grown an (a6.ne_own a2.1 rfl);subst ax;refine ρ ?_;refine stb bc ?_ (Vn (z:=z) (A:=B) (n:=m) (c:=d'));intro w8 bb b6 av;refine ρ ?_;obtain ⟨ms,m1,m2,m3,m4⟩:=b3 rfl;rw [b5]at m3 m4;refine Zp bb ⟨av w ai (nL a1.size b9),_,rfl,⟨z,B,m,d',rfl⟩,ms,?_,m2,m3,λhc=>m4 (by rw [List.length_map,hn]at hc;exact hc)⟩;have b8:b2<w5.heap.size/\(Value.slice O k k).ownBlock≠some b2:=⟨a6.lt,λe=>a6.ne_own a2.1 rfl e.symm⟩;refine (m1.grown b6 (λj ej=>by injection ej with ej;rw [<-ej];exact b8)).mono λj _ hj=>⟨nM hj o.size,λe=>?_⟩;have:=(a5 j e).1;have:=U.size;omega
open Go.RowKit Pl Go.Wk
variable {t:Bool}{bs:List Bool}{c g i j n:Nat}{A:Option Addr}{u v:Value}{w:World}
structure Atm where
 vars: List Int
 ar:Nat
 rows:List Row
abbrev V3:= Value×Value×Value
def V3.cells(t:V3): List Value:=[t.1,t.2.1,t.2.2]
def AtV(w:World)(t:V3)(a:Atm): Prop:=IntsV w t.1 a.vars/\t.2.1=.int .i64 (a.ar:Int)/\RowsV w t.2.2 a.rows
theorem AtV.ext{w w':World}{t:V3}{a:Atm}(h:AtV w t a)(hx:Ext w w'): AtV w' t a:=⟨h.1.ext hx,h.2.1,h.2.2.ext hx⟩
theorem AtV.rel{t:V3}{a:Atm}(h:AtV w t a): RelV w (.agg #[t.2.1,t.2.2]) a.ar a.rows:=⟨t.2.2,by rw [h.2.1],h.2.2⟩
theorem AtV.one{t:V3}{a:Atm}(h:AtV w t a): ∀ u∈t.cells,u.oneCell'=true:=by
 obtain ⟨⟨A,c,J,_⟩,G,⟨ps,B,d,_,C,_⟩⟩:=h;intro u o;simp only [V3.cells,List.mem_cons,List.not_mem_nil,or_false]at o;rcases o with rfl|rfl|rfl
 .rw [J];rfl
 .rw [G];rfl
 .rw [C];rfl
def v30: V3:=(undef,undef,undef)
def a0: Atm:=⟨[],0,[]⟩
abbrev TA:= V3×Atm
def ta0: TA:=(v30,a0)
def atC(ts:List TA): List Value:=ts.flatMap λp=>p.1.cells
theorem Qkx: ∀ (r:List TA) (i j:Nat),i<r.length->j<3->(atC r)[i*3+j]?=(r.getD i ta0).1.cells[j]?
 | [],i,j,h,_=>by simp at h
 | v::r,0,j,_,hj=>by
  simp only [atC,List.flatMap_cons,Nat.zero_mul,Nat.zero_add,List.getD_cons_zero];rw [List.getElem?_append_left (by simp [V3.cells];omega)]
 | v::r,i+1,j,h,hj=>by
  have ih:=Qkx r i j (by simpa using h) hj;simp only [atC,List.flatMap_cons,List.getD_cons_succ]at ih ⊢;rw [List.getElem?_append_right (by simp [V3.cells];omega),<-ih];congr 1
  simp [V3.cells];omega
def AtsV(w:World)(v:Value)(ats:List Atm): Prop:=∃ (ts:List TA) (A:Option Addr) (c:Nat),ats=ts.map (·.2)/\v=.slice A ts.length c/\ts.length<=c/\ts.length<=1100000/\Rd w 3 A ts.length (atC ts)/\∀ p∈ts,AtV w p.1 p.2
theorem AtsV.ext{w w':World}{v:Value}{ats:List Atm}(h:AtsV w v ats)(hx:Ext w w'): AtsV w' v ats:=by
 obtain ⟨ts,A,c,U,O,J,G,C,u⟩:=h;exact ⟨ts,A,c,U,O,J,G,C.ext hx,λp o=>(u p o).ext hx⟩
theorem Jwn{ts:List TA}(hR:Rd w 3 A n (atC ts))(hn:ts.length=n)(hi:i<n)(hu:(ts.getD i ta0).1.cells[j]?=some u): w.cell? ((adr A (i*3)).add j)=some u:=by
 have o:j<3:=by have:=(List.getElem?_eq_some_iff.1 hu).1;simpa [V3.cells] using this
 rw [Xh];exact hR.cell (by rw [Qkx ts i j om o];exact hu)
theorem Im{ts:List TA}(hn:ts.length=n)(hi:i<n): ts.getD i ta0∈ts:=getD_mem' ta0 ts (hn.symm ▸ hi)
def ascB(zs:List Int): Prop:=∀ j,0<j->j<zs.length->zs.getD (j-1) 0<zs.getD j 0
def Jwp(n:Int)(a:Atm): Prop:=ascB a.vars/\(∀ v∈a.vars,0<=v/\v<n)/\a.vars.length=a.ar
def Jwl(n:Int)(ats:List Atm): Prop:=0<=n/\n<=32/\ats.length<=32/\(∀ a∈ats,Jwp n a)/\∀ v:Nat,(v:Int)<n->∃ a∈ats,(v:Int)∈a.vars
theorem Qmp(hR:RdB w A bs)(hm:bs.length<=1100000): Ret Tryz.prog 183 [.slice A bs.length c,.bool t] w λu w'=>w'=w/\∃ z,u=.int .i64 z/\(0<=z↔t∈bs):=by
 refine Jz Tryz.func183 Tryz.ntmps183 rfl kr rfl ?_;refine ρ ?_;refine Qh (fun (k:Nat)=>[(0,.slice A bs.length c),(1,.bool t),(7,.int .i64 (bs.length:Int)),(8,.int .i64 (k:Int))]) (λk w'=>w'=w/\k<=bs.length/\t ∉ bs.take k) (λk=>bs.length-k) 0 sB ⟨rfl,Nat.zero_le _,by simp⟩ ?_;rintro k w' ⟨rfl,G,o⟩;refine ρ ?_;refine ci (λh=>?_) (λh=>?_)
 .have lk:k<bs.length:=by have:=oT h;omega
  refine ρ ?_;refine ix k hR lk ?_;refine ρ ?_;refine ld (RdB.cell hR lk) ?_;refine eqb ?_;refine ρ ?_;refine ci (λh=>?_) (λh=>?_)
  .refine ρ ?_;refine Jq ⟨rfl,(k:Int),rfl,⟨λ_=>?_,λ_=>om⟩⟩;rw [beq_iff_eq.1 h];exact getD_mem' false bs lk
  .refine ρ ?_;refine Qv (k+1) sO ⟨rfl,om,?_⟩ om;rw [Qb false lk,List.mem_append,List.mem_singleton];rintro (C|C)
   .exact o C
   .rw [<-C]at h;simp at h
 .refine ρ ?_;refine Jq ⟨rfl,-1,rfl,⟨λe=>om,λe=>?_⟩⟩;rw [List.take_of_length_le (by have:=oF h;omega)]at o;exact absurd e o
theorem Qpr(hR:RdB w A bs)(hm:bs.length<=1100000): Ret Tryz.prog 160 [.slice A bs.length c,.bool t] w λu w'=>w'=w/\∃ b:Bool,u=.bool b/\(b=true↔t∈bs):=by
 refine Jz Tryz.func160 Tryz.ntmps160 rfl kr rfl ?_;refine ρ ?_;refine cl (Qmp hR hm) ?_;rintro u w' ⟨rfl,z,rfl,o⟩;refine ρ ?_;exact Jq ⟨rfl,decide (0<=z),rfl,by rw [decide_eq_true_iff];exact o⟩
theorem Blk.at2{t:TypeId}{cs:List Value}(h:Blk w g t cs)(hv:cs[i+j]?=some v): w.cell? ((⟨g,i,none⟩:Addr).add j)=some v:=by rw [Vo,h.cell];exact hv
theorem Vu: Qp Tryz.prog 99=some (.agg #[.slice none 0 0,.int .i64 0,.slice none 0 0]):=kr
abbrev Ye(w:World)(base:Nat)(v:Value)(bs:List Bool): Prop:=w.ownsRow base 4 1 v bs.length (bs.map Value.bool)
theorem Jhq(h:i<bs.length): (bs.map Value.bool)[i]?=some (.bool (bs.getD i false)):=by simp [List.getD,List.getElem?_eq_getElem h]
theorem Qqk(bs:List Bool)(i k:Nat)(x:Bool)(hi:i<bs.length): (bs.set i x).getD k false=if k=i then x else bs.getD k false:=Jxv false bs i k x hi
theorem Jgb{n:Int}{ats:List Atm}(h:AtsV w v ats): Ret Tryz.prog 125 [.int .i64 n,v] w λu w'=>Ext w w'/\∃ e,u=.int .i64 e/\(e=0↔Jwl n ats):=by
 obtain ⟨ts,A,c,rfl,rfl,bq,bp,hR,bg⟩:=h;generalize hm:ts.length=m at *
 refine Jz Tryz.func125 Tryz.ntmps125 rfl kr rfl ?_;refine ρ ?_;refine Vg (fun (t:Bool)=>[(0,.int .i64 n),(1,.slice A m c),(16,.bool t)]) (λt w'=>w'=w/\(t=true↔¬ (0<=n/\n<=32))) ?_ ?_
 .refine ki 13 (λh=>?_) (λh=>?_)
  .refine ρ ?_;exact Jf true sB ⟨rfl,by have:=oT h;simp;omega⟩
  .refine ρ ?_;refine Jf _ sB ⟨rfl,?_⟩;have:=oF h;rw [decide_eq_true_iff];omega
 rintro t w' ⟨rfl,ht⟩;refine ci (λh=>?_) (λh=>?_)
 .refine ρ ?_;exact Jq ⟨Ext.refl _,3,rfl,⟨λe=>(by cases e),λe=>absurd ⟨e.1,e.2.1⟩ (ht.1 h)⟩⟩
 have hn:0<=n/\n<=32:=by
  by_cases hz:0<=n/\n<=32
  .exact hz
  .rw [ht.2 hz]at h;cases h
 obtain ⟨bc,bo⟩:=hn;obtain ⟨N,rfl⟩:=Int.eq_ofNat_of_zero_le bc;clear h ht;refine ρ ?_;refine ci (λh=>?_) (λh=>?_)
 .refine ρ ?_;refine Jq ⟨Ext.refl _,12,rfl,⟨λe=>(by cases e),λe=>?_⟩⟩;have h1:=e.2.2.1;rw [List.length_map,hm]at h1;have:=oT h;omega
 have bn:m<=32:=by have:=oF h;omega
 clear h;refine ρ ?_;refine mkn EB N om (by unfold maxLen;omega) ?_;intro w1 O b9 aw hO;have av:Ye w1 w'.heap.size (.slice O N N) (List.replicate N false):=by
  rw [Ye,List.length_replicate,List.map_replicate];have e:(madeCells (Value.bool false).cells (N*1)).toList=List.replicate N (Value.bool false):=by rw [Nat.mul_one];exact Yp _ _
  rw [e]at aw;exact aw
 refine ρ ?_;refine Je (fun (i:Nat) (J:List Bool)=>[(0,.int .i64 (N:Int)),(5,.slice O N N),(22,.slice A m c),(23,.int .i64 (m:Int)),(24,.int .i64 (i:Int))])
  (λi J w2=>i<=m/\Ext w' w2/\J.length=N/\Ye w2 w'.heap.size (.slice O N N) J/\(∀ j,j<i->Jwp N (ts.getD j ta0).2)/\∀ v:Nat,v<N->(J.getD v false=true↔∃ j,j<i/\(v:Int)∈(ts.getD j ta0).2.vars)) (λi _=>m-i) 0 (List.replicate N false) sB
  ⟨Nat.zero_le _,b9,by simp,av,λj hj=>om,λv hv=>⟨λe=>by simp [List.getD,hv]at e,λ⟨j,hj,_⟩=>om⟩⟩ ?_
 rintro i J w2 ⟨hi,ab,Z,ag,ap,o⟩;refine ρ ?_;refine ci (λh=>?_) (λh=>?_)
 .have li:i<m:=by have:=oT h;omega
  have b4:=hR.ext ab;obtain ⟨t1,t2,t3,a,hp⟩:∃ t1 t2 t3 a,ts.getD i ta0=((t1,t2,t3),a):=⟨_,_,_,_,rfl⟩;have aj:AtV w' (t1,t2,t3) a:=by have:=bg _ (Im hm li);rw [hp]at this;exact this
  have ax:a∈ts.map (·.2):=List.mem_map.2 ⟨_,Im hm li,by rw [hp]⟩
  clear h;obtain ⟨⟨D,d,e1,hd,bs,b2⟩,e2,af⟩:=id aj;simp only at e1 e2;subst e1;subst e2;obtain ⟨ps,G,gc,_,ao,_⟩:=id af;simp only at ao;subst ao;refine ρ ?_;refine ixq 3 i b4 li ?_;refine ρ ?_;refine lds (cs:=[.slice D a.vars.length d,.int .i64 (a.ar:Int),.slice G ps.length gc]) (λj u hu=>Jwn b4 hm li (by rw [hp];exact hu)) ?_;refine ρ ?_;refine alc Vu ?_;intro w3 b b8 hb hB;refine ρ ?_;refine stb hB ?_ aj.one;intro w4 ai br b7;have ad:Ext w2 w4:=b7 w2 b8 hb;have a5:=ab.trans ad;have au:=Jk ag ad;have a1:¬ Jwp N a->¬ Jwl N (ts.map (·.2)):=λh1 h2=>h1 (h2.2.2.2.1 a ax)
  refine ρ ?_;refine Qh (fun (k:Nat)=>[(0,.int .i64 (N:Int)),(5,.slice O N N),(22,.slice A m c),(23,.int .i64 (m:Int)),(24,.int .i64 (i:Int)),(7,.pointer (some ⟨b,0,none⟩)),(8,.int .i64 (k:Int))])
   (λk w5=>Ext w4 w5/\1<=k/\(k<=a.vars.length∨k=1)/\∀ j,0<j->j<k->a.vars.getD (j-1) 0<a.vars.getD j 0) (λk=>a.vars.length-k) 1 sB ⟨Ext.refl _,Nat.le_refl _,.inr rfl,λj h1 h2=>om⟩ ?_
  rintro k w5 ⟨aa,bf,be,a7⟩;have ac:=ai.ext aa;refine ρ ?_;refine ld (ac.at (i:=0) rfl) ?_;refine ρ ?_;refine ci (λh=>?_) (λh=>?_)
  .have lk:k<a.vars.length:=by have:=oT h;omega
   have ak:k-1<a.vars.length:=om
   clear h;refine ρ ?_;refine dr [(0,0),(0,1),(0,2),(0,3),(0,4),(0,5),(0,6),(0,7),(0,8),(0,9),(0,10),(0,11)] kr ?_;have a2:=aa.drew;have a4:=ai.ext a2;have C:=b2.ext (a5.trans a2);refine ρd ?_;refine dld (a4.at (i:=0) rfl) ?_;refine ρd ?_;refine dix (k-1) C ak ?_;refine ρd ?_;refine dld (C.cell (Jkq ak)) ?_;refine ρd ?_;refine dld (a4.at (i:=0) rfl) ?_;refine ρd ?_;refine dix k C lk ?_;refine ρd ?_;refine dld (C.cell (Jkq lk)) ?_;refine ρd ?_;refine ρ ?_;refine ci (λh=>?_) (λh=>?_)
   .refine ρ ?_;refine Jq ⟨a5.trans a2,16,rfl,⟨λe=>(by cases e),λe=>absurd e (a1 λh1=>?_)⟩⟩;have:=h1.1 k om lk;have:=oT h;omega
   .refine ρ ?_;refine Qv (k+1) sO ⟨a2,om,om,λj h1 h2=>?_⟩ om;by_cases U:j=k
    .subst U;have:=oF h;omega
    .exact a7 j h1 om
  have ah:ascB a.vars:=λj h1 h2=>a7 j h1 (by have:=oF h;omega);clear h a7 bf be;have an:=a5.trans aa;have aq:=Jk au aa;refine ρ ?_;refine ld (ac.at (i:=0) rfl) ?_;refine ρ ?_;refine Je (fun (q:Nat) (J:List Bool)=>[(0,.int .i64 (N:Int)),(5,.slice O N N),(22,.slice A m c),(23,.int .i64 (m:Int)),(24,.int .i64 (i:Int)),(7,.pointer (some ⟨b,0,none⟩)),(48,.slice D a.vars.length d),(49,.int .i64 (a.vars.length:Int)),(50,.int .i64 (q:Int))])
   (λq J w6=>q<=a.vars.length/\Ext w' w6/\J.length=N/\Ye w6 w'.heap.size (.slice O N N) J/\Blk w6 b 99 [.slice D a.vars.length d,.int .i64 (a.ar:Int),.slice G ps.length gc]/\(∀ j,j<q->0<=a.vars.getD j 0/\a.vars.getD j 0<N)/\∀ v:Nat,v<N->(J.getD v false=true↔(∃ j,j<i/\(v:Int)∈(ts.getD j ta0).2.vars)∨∃ j,j<q/\a.vars.getD j 0=(v:Int))) (λq _=>a.vars.length-q) 0 J sB
   ⟨Nat.zero_le _,an,Z,aq,ac,λj hj=>om,λv hv=>⟨λe=>.inl ((o v hv).1 e),λe=>(o v hv).2 (e.elim id λ⟨j,hj,_⟩=>om)⟩⟩ ?_
  clear ag au aq ac ai o Z;rintro q J w6 ⟨hq,a9,Z,a3,a4,b1,o⟩;refine ρ ?_;refine ci (λh=>?_) (λh=>?_)
  .have lq:q<a.vars.length:=by have:=oT h;omega
   have C:=b2.ext a9;have ba:a.vars.getD q 0∈a.vars:=getD_mem' 0 _ lq;clear h;refine ρ ?_;refine ix q C lq ?_;refine ρ ?_;refine ld (C.cell (Jkq lq)) ?_;refine ρ ?_;generalize hz:a.vars.getD q 0=z at *
   refine Vg (fun (t:Bool)=>[(0,.int .i64 (N:Int)),(5,.slice O N N),(22,.slice A m c),(23,.int .i64 (m:Int)),(24,.int .i64 (i:Int)),(7,.pointer (some ⟨b,0,none⟩)),(48,.slice D a.vars.length d),(49,.int .i64 (a.vars.length:Int)),(50,.int .i64 (q:Int)),(10,.int .i64 z),(60,.bool t)]) (λt w7=>w7=w6/\(t=true↔¬ (0<=z/\z<N))) ?_ ?_
   .refine ki 56 (λh=>?_) (λh=>?_)
    .refine ρ ?_;exact Jf true sB ⟨rfl,by have:=oT h;simp;omega⟩
    .refine ρ ?_;refine Jf _ sB ⟨rfl,?_⟩;have:=oF h;rw [decide_eq_true_iff];omega
   rintro t w7 ⟨rfl,ht⟩;refine ci (λh=>?_) (λh=>?_)
   .refine ρ ?_;exact Jq ⟨a9,3,rfl,⟨λe=>(by cases e),λe=>absurd e (a1 λh1=>ht.1 h (h1.2.1 z ba))⟩⟩
   have am:0<=z/\z<N:=by
    by_cases hz:0<=z/\z<N
    .exact hz
    .rw [ht.2 hz]at h;cases h
   obtain ⟨x,rfl⟩:=Int.eq_ofNat_of_zero_le am.1;have lx:x<N:=om
   rw [Ye,Z]at a3;obtain ⟨s1,s2,s3,s4,s5⟩:=Zl a3 (q:=x) om (.bool true);refine ρ ?_;refine ix x (Rd.own a3) lx ?_;refine ρ ?_;refine sto (s1.trans (Jhq om)) s2 ?_;refine ρ ?_;refine Jl (q+1) (J.set x true) sO ⟨om,Qf a9 s5 (λk hk=>by
    obtain ⟨_,_,_,_,hf⟩:=Jy a3;exact (hf k hk).1),by simpa using Z,?_,a4.grown s5 (a4.ne_own a3 rfl),λj hj=>?_,λv hv=>?_⟩ om
   .rw [Ye,List.length_set,Z,List.map_set];exact s3
   .by_cases U:j=q
    .subst U;rw [hz];exact am
    .exact b1 j om
   .rw [Qqk _ _ _ _ om];by_cases ev:v=x
    .subst ev;rw [if_pos rfl];exact ⟨λ_=>.inr ⟨q,om,hz⟩,λ_=>rfl⟩
    .rw [if_neg ev,o v hv];constructor
     .rintro (h'|⟨j,hj,U⟩)
      .exact .inl h'
      .exact .inr ⟨j,om,U⟩
     .rintro (h'|⟨j,hj,U⟩)
      .exact .inl h'
      .by_cases e2:j=q
       .subst e2;rw [hz]at U;omega
       .exact .inr ⟨j,om,U⟩
  .have eq:q=a.vars.length:=by have:=oF h;omega
   clear h;have ay:∀ v∈a.vars,0<=v/\v<N:=λv hv=>by
    obtain ⟨j,hj,rfl⟩:=List.getElem_of_mem hv;have:=b1 j om;rw [Jr 0 _ hj]at this;exact this
   refine ρ ?_;refine dr [(0,0),(0,1),(0,2),(0,3),(0,4),(1,5),(0,6)] kr ?_;have a6:=a9.drew;have b5:=a4.ext (Ext.refl w6).drew;have bj:=aj.ext a6;refine ρd ?_;refine dld (b5.at (i:=0) rfl) ?_;refine ρd ?_;refine Qw (cs:=[.int .i64 (a.ar:Int),.slice G ps.length gc]) (λj u hu=>Blk.at2 b5 (i:=0+1) (by rw [Nat.add_comm];simpa using hu)) ?_;refine ρd ?_;refine dcl (Jdz bj.rel) ?_;rintro u w8 ⟨rfl,a8⟩;refine ⟨a8,?_⟩;refine ρd ?_;refine ρ ?_;refine ci (λh=>?_) (λh=>?_)
   .refine ρ ?_;refine Jq ⟨a6.trans a8,6,rfl,⟨λe=>(by cases e),λe=>absurd e (a1 λh1=>?_)⟩⟩;have:=Gn h;have:=h1.2.2;omega
   .refine ρ ?_;have bh:a.vars.length=a.ar:=by have:=Gr h;omega
    refine Jl (i+1) J sO ⟨om,a6.trans a8,Z,Jk (Jk a3 (Ext.refl w6).drew) a8,λj hj=>?_,λv hv=>?_⟩ om
    .by_cases U:j=i
     .subst U;rw [hp];exact ⟨ah,ay,bh⟩
     .exact ap j om
    .rw [o v hv];constructor
     .rintro (⟨j,hj,U⟩|⟨j,hj,U⟩)
      .exact ⟨j,om,U⟩
      .refine ⟨i,om,?_⟩;rw [hp,<-U];exact getD_mem' 0 a.vars om
     .rintro ⟨j,hj,U⟩;by_cases e2:j=i
      .subst e2;have bm:(v:Int)∈a.vars:=by rw [hp]at U;exact U
       obtain ⟨y,hy,ey⟩:=List.getElem_of_mem bm;exact .inr ⟨y,om,by rw [Jr 0 _ hy];exact ey⟩
      .exact .inl ⟨j,om,U⟩
 .have ei:i=m:=by have:=oF h;omega
  clear h;subst Z;have bi:RdB w2 O J:=Rd.own ag;have b3:∀ a∈ts.map (·.2),Jwp J.length a:=λa ha=>by
   obtain ⟨p,hp,rfl⟩:=List.mem_map.1 ha;obtain ⟨j,hj,rfl⟩:=List.getElem_of_mem hp;have:=ap j om;rw [Jr ta0 _ hj]at this;exact this
  refine ρ ?_;refine cl (Qpr bi om) ?_;rintro u w3 ⟨rfl,t,rfl,ht⟩;refine ρ ?_;refine ci (λh=>?_) (λh=>?_)
  .refine ρ ?_;refine Jq ⟨ab,22,rfl,⟨λe=>(by cases e),λe=>?_⟩⟩;obtain ⟨x,hx,ex⟩:=List.getElem_of_mem (ht.1 h);obtain ⟨a,ha,b6⟩:=e.2.2.2.2 x om;obtain ⟨p,hp,rfl⟩:=List.mem_map.1 ha;obtain ⟨j,hj,rfl⟩:=List.getElem_of_mem hp;have:=(o x om).2 ⟨j,om,by rw [Jr ta0 _ hj];exact b6⟩;rw [Jr false J hx,ex]at this;cases this
  .refine ρ ?_;refine Jq ⟨ab,0,rfl,⟨λ_=>⟨om,om,by rw [List.length_map];omega,b3,λv hv=>?_⟩,λ_=>rfl⟩⟩;have bb:v<J.length:=om
   have ae:J.getD v false=true:=by
    cases hc:J.getD v false with
    | true=>rfl
    | false=>
     rw [Jr false J om]at hc;have:false∈J:=by rw [<-hc];exact List.getElem_mem _
     rw [ht.2 this]at h;cases h
   obtain ⟨j,hj,bd⟩:=(o v bb).1 ae;exact ⟨_,List.mem_map.2 ⟨_,Im hm om,rfl⟩,bd⟩
open Go.RowKit Pl Go.Wk
structure Inp where
 n: Int
 free:Int
 desc:List Bool
 perm:List Int
 ats:List Atm
def InC(w:World)(i:Inp)(cs:List Value): Prop:=∃ vd vp va,cs=[.int .i64 i.n,.int .i64 i.free,vd,vp,va]/\BoolsV w vd i.desc/\IntsV w vp i.perm/\AtsV w va i.ats
theorem InC.ext{w w':World}{i:Inp}{cs:List Value}(h:InC w i cs)(hx:Ext w w'): InC w' i cs:=by
 obtain ⟨u,o,C,e,O,J,G⟩:=h;exact ⟨u,o,C,e,O.ext hx,J.ext hx,G.ext hx⟩
def InV(w:World)(v:Value)(i:Inp): Prop:=∃ cs,v=.agg cs.toArray/\InC w i cs
theorem InV.ext{w w':World}{v:Value}{i:Inp}(h:InV w v i)(hx:Ext w w'): InV w' v i:=by
 obtain ⟨cs,e,h⟩:=h;exact ⟨cs,e,h.ext hx⟩
def Jzg(i:Inp): Prop:=0<=i.n/\i.n<=32/\0<=i.free/\i.free<=i.n/\(i.desc.length:Int)=i.free/\(i.perm.length:Int)=i.n-i.free/\(∀ v∈i.perm,i.free<=v/\v<i.n)/\i.perm.Nodup/\Jwl i.n i.ats
theorem Qqb{w:World}{v:Value}{inp:Inp}(h:InV w v inp)(hn64:-9223372036854775808<=inp.n/\inp.n<=9223372036854775807)(hf64:-9223372036854775808<=inp.free/\inp.free<=9223372036854775807): Ret Tryz.prog 79 [v] w λu w'=>Ext w w'/\∃ e,u=.int .i64 e/\(e=0↔Jzg inp):=by
 obtain ⟨_,rfl,vd,vp,va,rfl,af,ae,ab⟩:=h;obtain ⟨n,free,a1,perm,ats⟩:=inp;simp only at af ae ab hn64 hf64 ⊢;obtain ⟨D,dc,rfl,b4,b3,b2⟩:=id af;obtain ⟨G,gc,rfl,ay,ax,ap⟩:=id ae;obtain ⟨ts,A,c,_,rfl,_⟩:=id ab;refine Jz Tryz.func79 Tryz.ntmps79 rfl kr rfl ?_;refine ρ ?_;refine bx ?_;intro w1 b aa hb U;refine ρ ?_;refine Vg (fun (t:Bool)=>[(1,.pointer (some ⟨b,0,none⟩)),(25,.bool t)]) (λt w'=>w'=w1/\(t=true↔¬ (0<=n/\n<=32/\0<=free/\free<=n))) ?_ ?_
 .refine ld (U.at (i:=0) rfl) ?_;refine ρ ?_;refine ki 9 (λh=>?_) (λh=>?_)
  .have:=oT h;refine ρ ?_;exact Jf true sB ⟨rfl,by simp;omega⟩
  have h1:=oF h;refine ρ ?_;refine ld (U.at (i:=0) rfl) ?_;refine ρ ?_;refine ki 14 (λh=>?_) (λh=>?_)
  .have:=oT h;refine ρ ?_;exact Jf true sB ⟨rfl,by simp;omega⟩
  have h2:=oF h;refine ρ ?_;refine ld (U.at (i:=1) rfl) ?_;refine ρ ?_;refine ki 19 (λh=>?_) (λh=>?_)
  .have:=oT h;refine ρ ?_;exact Jf true sB ⟨rfl,by simp;omega⟩
  have h3:=oF h;refine ρ ?_;refine ld (U.at (i:=1) rfl) ?_;refine ρ ?_;refine ld (U.at (i:=0) rfl) ?_;refine ρ ?_;refine Jf _ sB ⟨rfl,?_⟩;rw [decide_eq_true_iff];omega
 rintro t w' ⟨rfl,ht⟩;refine ci (λh=>?_) (λh=>?_)
 .refine ρ ?_;exact Jq ⟨aa,3,rfl,⟨λe=>(by cases e),λe=>absurd ⟨e.1,e.2.1,e.2.2.1,e.2.2.2.1⟩ (ht.1 h)⟩⟩
 have hn:0<=n/\n<=32/\0<=free/\free<=n:=by
  by_cases hz:0<=n/\n<=32/\0<=free/\free<=n
  .exact hz
  .rw [ht.2 hz]at h;cases h
 obtain ⟨ao,aw,aq,b1⟩:=hn;obtain ⟨N,rfl⟩:=Int.eq_ofNat_of_zero_le ao;obtain ⟨F,rfl⟩:=Int.eq_ofNat_of_zero_le aq;clear h ht;refine ρ ?_;refine ld (U.at (i:=2) rfl) ?_;refine ρ ?_;refine ld (U.at (i:=1) rfl) ?_;refine ρ ?_;refine Vg (fun (t:Bool)=>[(1,.pointer (some ⟨b,0,none⟩)),(42,.bool t)]) (λt w2=>w2=w'/\(t=true↔¬ (a1.length=F/\perm.length+F=N))) ?_ ?_
 .refine ki 32 (λh=>?_) (λh=>?_)
  .have:=Gn h;refine ρ ?_;exact Jf true sB ⟨rfl,by simp;omega⟩
  have h1:=Gr h;refine ρ ?_;refine ld (U.at (i:=3) rfl) ?_;refine ρ ?_;refine ld (U.at (i:=0) rfl) ?_;refine ρ ?_;refine ld (U.at (i:=1) rfl) ?_;refine ρ ?_;refine Jf _ sB ⟨rfl,?_⟩;rw [bne_iff_ne];omega
 rintro t2 w2 ⟨rfl,ht⟩;refine ci (λh=>?_) (λh=>?_)
 .refine ρ ?_;refine Jq ⟨aa,1,rfl,⟨λe=>(by cases e),λe=>absurd ?_ (ht.1 h)⟩⟩;have h5:=e.2.2.2.2.1;have h6:=e.2.2.2.2.2.1;simp only at h5 h6;omega
 have ar:a1.length=F/\perm.length+F=N:=by
  by_cases hz:a1.length=F/\perm.length+F=N
  .exact hz
  .rw [ht.2 hz]at h;cases h
 obtain ⟨b5,av⟩:=ar;clear h ht;refine ρ ?_;refine ld (U.at (i:=0) rfl) ?_;refine ρ ?_;refine mkn EB N om (by unfold maxLen;omega) ?_;intro w3 O ad ah hO;have ag:Ye w3 w2.heap.size (.slice O N N) (List.replicate N false):=by
  rw [Ye,List.length_replicate,List.map_replicate];have e:(madeCells (Value.bool false).cells (N*1)).toList=List.replicate N (Value.bool false):=by rw [Nat.mul_one];exact Yp _ _
  rw [e]at ah;exact ah
 refine ρ ?_;refine ld ((U.ext ad).at (i:=3) rfl) ?_;refine ρ ?_;refine Je (fun (i:Nat) (us:List Bool)=>[(1,.pointer (some ⟨b,0,none⟩)),(3,.slice O N N),(47,.slice G perm.length gc),(48,.int .i64 (perm.length:Int)),(49,.int .i64 (i:Int))])
  (λi us w4=>i<=perm.length/\Ext w2 w4/\us.length=N/\Ye w4 w2.heap.size (.slice O N N) us/\(∀ v∈perm.take i,(F:Int)<=v/\v<N)/\(perm.take i).Nodup/\∀ v:Nat,v<N->(us.getD v false=true↔(v:Int)∈perm.take i)) (λi _=>perm.length-i) 0 (List.replicate N false) sB
  ⟨Nat.zero_le _,ad,by simp,ag,λv hv=>by simp at hv,by simp,λv hv=>⟨λe=>by simp [List.getD,hv]at e,λe=>by simp at e⟩⟩ ?_
 rintro i us w4 ⟨hi,a9,a2,J,ac,Z,a6⟩;have a5:=U.ext a9;have C:=aa.trans a9;refine ρ ?_;refine ci (λh=>?_) (λh=>?_)
 .have li:i<perm.length:=by have:=oT h;omega
  have a7:=ap.ext C;clear h;have aj:perm.getD i 0∈perm:=getD_mem' 0 perm li;have a3:perm.take (i+1)=perm.take i++[perm.getD i 0]:=Qb 0 li;have a4:perm.Nodup->perm.getD i 0 ∉ perm.take i:=λZ hm=>by
   have h1:(perm.take (i+1)).Nodup:=Z.sublist (List.take_sublist _ _);rw [a3,List.nodup_append]at h1;exact h1.2.2 _ hm _ (List.mem_singleton.2 rfl) rfl
  refine ρ ?_;refine ix i a7 li ?_;refine ρ ?_;refine ld (a7.cell (Jkq li)) ?_;refine ρ ?_;refine ld (a5.at (i:=1) rfl) ?_;refine ρ ?_;generalize hz:perm.getD i 0=z at *
  refine Vg (fun (t:Bool)=>[(1,.pointer (some ⟨b,0,none⟩)),(3,.slice O N N),(47,.slice G perm.length gc),(48,.int .i64 (perm.length:Int)),(49,.int .i64 (i:Int)),(5,.int .i64 z),(68,.bool t)]) (λt w5=>w5=w4/\(t=true↔¬ ((F:Int)<=z/\z<N/\z ∉ perm.take i))) ?_ ?_
  .refine ki 57 (λh=>?_) (λh=>?_)
   .have:=oT h;refine ρ ?_;exact Jf true sB ⟨rfl,by simp;omega⟩
   have h1:=oF h;refine ρ ?_;refine ld (a5.at (i:=0) rfl) ?_;refine ρ ?_;refine ki 63 (λh=>?_) (λh=>?_)
   .have:=oT h;refine ρ ?_;exact Jf true sB ⟨rfl,by simp;omega⟩
   have h2:=oF h;have ak:0<=z:=om
   obtain ⟨x,rfl⟩:=Int.eq_ofNat_of_zero_le ak;have lx:x<N:=om
   have ai:Rd w4 1 O N (us.map Value.bool):=by rw [Ye,a2]at J;exact Rd.own J
   refine ρ ?_;refine ix x ai lx ?_;refine ρ ?_;have am:x<us.length:=om
   refine ld (ai.cell (Jhq am)) ?_;refine ρ ?_;refine Jf _ sB ⟨rfl,?_⟩;rw [a6 x lx];constructor
   .intro o au;exact au.2.2 o
   .intro o;by_cases hm:(x:Int)∈perm.take i
    .exact hm
    .exact absurd ⟨om,om,hm⟩ o
  rintro t5 w5 ⟨rfl,ht⟩;refine ci (λh=>?_) (λh=>?_)
  .refine ρ ?_;refine Jq ⟨C,1,rfl,⟨λe=>(by cases e),λe=>absurd ?_ (ht.1 h)⟩⟩;have h7:=e.2.2.2.2.2.2.1 z aj;have h8:=a4 e.2.2.2.2.2.2.2.1;exact ⟨h7.1,h7.2,h8⟩
  have a8:(F:Int)<=z/\z<N/\z ∉ perm.take i:=by
   by_cases hz:(F:Int)<=z/\z<N/\z ∉ perm.take i
   .exact hz
   .rw [ht.2 hz]at h;cases h
  obtain ⟨x,rfl⟩:=Int.eq_ofNat_of_zero_le (show 0<=z by omega);have lx:x<N:=om
  rw [Ye,a2]at J;obtain ⟨s1,s2,s3,s4,s5⟩:=Zl J (q:=x) om (.bool true);refine ρ ?_;refine ix x (Rd.own J) lx ?_;refine ρ ?_;refine sto (s1.trans (Jhq om)) s2 ?_;refine ρ ?_;refine Jl (i+1) (us.set x true) sO ⟨om,Qf a9 s5 (λk hk=>by
    obtain ⟨_,_,_,_,hf⟩:=Jy J;exact (hf k hk).1),by simpa using a2,?_,λv hv=>?_,?_,λv hv=>?_⟩ om
  .rw [Ye,List.length_set,a2,List.map_set];exact s3
  .rw [a3,List.mem_append,List.mem_singleton]at hv;rcases hv with o|o
   .exact ac v o
   .rw [o];exact ⟨a8.1,a8.2.1⟩
  .rw [a3,List.nodup_append];refine ⟨Z,by simp,λp hp q hq e=>?_⟩;rw [List.mem_singleton]at hq;subst hq;subst e;exact a8.2.2 hp
  .rw [Qqk _ _ _ _ om,a3,List.mem_append,List.mem_singleton];by_cases ev:v=x
   .subst ev;rw [if_pos rfl];exact ⟨λ_=>.inr rfl,λ_=>rfl⟩
   .rw [if_neg ev,a6 v hv];exact ⟨λo=>.inl o,λo=>o.elim id λe=>om⟩
 .have ei:i=perm.length:=by have:=oF h;omega
  clear h;rw [ei,List.take_of_length_le (Nat.le_refl _)]at ac Z;refine ρ ?_;refine ld (a5.at (i:=0) rfl) ?_;refine ρ ?_;refine ld (a5.at (i:=4) rfl) ?_;refine ρ ?_;refine cl (Jgb (ab.ext C)) ?_;rintro u w5 ⟨an,e,rfl,he⟩;refine ρ ?_;refine Jq ⟨C.trans an,e,rfl,he.trans ⟨λo=>⟨by simp only;omega,by simp only;omega,by simp only;omega,by simp only;omega,by simp only;omega,by simp only;omega,ac,Z,o⟩,λo=>o.2.2.2.2.2.2.2.2⟩⟩
end Go.Proofs.YtebcagekopgdhaaGreatDoor
namespace Go.Proofs.YtebcagekopgdhaaGreatDoor
open Pl
variable {f:List Nat}{rs:List Row}{d i j l:Nat}{q x:Row}
def pfx(rs:List Row)(l:Nat): List Row:=ddF (rs.map (List.take l))
theorem Jss(rs:List Row)(x:Row)(l:Nat): pfx (rs++[x]) l=ddS (pfx rs l) (x.take l):=by
 unfold pfx;rw [List.map_append,List.map_cons,List.map_nil,Jhg]
theorem Qxx: ∀ (a b:Row) (l:Nat),Jw a b []<=0->Jw (a.take l) (b.take l) []<=0
 | _,_,0,_=>by simp [Jw]
 | [],[],_+1,_=>by simp [Jw]
 | [],_::_,_+1,_=>by simp [Jw]
 | _::_,[],_+1,h=>by simp [Jw]at h
 | x::a,y::b,l+1,h=>by
  simp only [List.take_succ_cons,Jw,List.drop_nil]at h ⊢;by_cases e:cmpV x y=0
  .rw [if_pos e]at h ⊢;exact Qxx a b l h
  .rw [if_neg e]at h ⊢;exact h
theorem Qcf(h:Srt [] rs)(l:Nat): Srt [] (rs.map (List.take l)):=by
 unfold Srt at h ⊢;rw [List.pairwise_map];exact h.imp λo=>Qxx _ _ l o
theorem Uu(h:Lt [] rs): Srt [] rs:=h.imp λo=>by omega
theorem Jkj(h:Srt [] rs)(l:Nat): IsSet [] (rs.map (List.take l)) (pfx rs l):=Qxj (Qcf h l)
theorem Jqw(h:Srt [] rs): q∈pfx rs l↔∃ r∈rs,r.take l=q:=by
 rw [(Jkj h l).2,List.mem_map]
theorem Qfw(h:Lt [] rs)(hl:∀ r∈rs,r.length=d): pfx rs d=rs:=by
 have e:rs.map (List.take d)=rs:=by
  conv=>rhs;rw [<-List.map_id rs]
  exact List.map_congr_left λr u=>by rw [List.take_of_length_le (by rw [hl r u];exact Nat.le_refl _)];rfl
 have o:=Jkj (Uu h) d;rw [e]at o;exact Jqq o.1 h o.2
theorem Jst: (pfx (rs++[x]) l).getLast?=some (x.take l):=by rw [Jss];exact Qxg _ _
def shr: Row->Row->Nat
 | a::x,b::y=>if a=b then shr x y+1 else 0
 | _,_=>0
theorem Jdc(y:Row): shr [] y=0:=by cases y<;>rfl
theorem Jpl: ∀ x y:Row,shr x y<=x.length/\shr x y<=y.length
 | [],y=>by rw [Jdc];simp
 | _::_,[]=>by simp [shr]
 | a::x,b::y=>by
  have:=Jpl x y;simp only [shr,List.length_cons];split<;>omega
theorem Jdb: ∀ (x y:Row) (l:Nat),x.length=y.length->(x.take l=y.take l↔l<=shr x y∨x=y)
 | [],[],l,_=>by simp
 | [],_::_,_,h=>by simp at h
 | _::_,[],_,h=>by simp at h
 | a::x,b::y,0,_=>by simp
 | a::x,b::y,l+1,h=>by
  have ih:=Jdb x y l (by simpa using h);simp only [List.take_succ_cons,List.cons.injEq,shr];by_cases e:a=b
  .rw [if_pos e,ih];constructor
   .rintro ⟨_,h'|h'⟩
    .exact .inl om
    .exact .inr ⟨e,h'⟩
   .rintro (h'|h')
    .exact ⟨e,.inl om⟩
    .exact ⟨e,.inr h'.2⟩
  .rw [if_neg e];constructor
   .rintro ⟨h',_⟩;exact absurd h' e
   .rintro (h'|h')
    .omega
    .exact absurd h'.1 e
def lvl(rs:List Row)(l:Nat): Row:=(pfx rs (l+1)).map λq=>q.getD l V0
theorem Jxl(rs:List Row)(l:Nat): (lvl rs l).length=(pfx rs (l+1)).length:=by simp [lvl]
theorem Qld(h:i<(pfx rs (l+1)).length): (lvl rs l).getD i V0=((pfx rs (l+1)).getD i []).getD l V0:=by
 rw [Jr V0 _ (by rw [Jxl];exact h),Jr [] _ h];simp [lvl]
def Fst(rs:List Row)(l:Nat)(f:List Nat): Prop:=f.length=(pfx rs (l+1)).length/\(∀ j,j<f.length->f.getD j 0<=(pfx rs (l+2)).length) /\
 ∀ j i,j<f.length->i<(pfx rs (l+2)).length->(((pfx rs (l+2)).getD i []).take (l+1)=(pfx rs (l+1)).getD j []↔f.getD j 0<=i/\(j+1<f.length->i<f.getD (j+1) 0))
def stp(rs:List Row)(x:Row): Nat:=match rs.getLast? with
 | some y=>shr y x
 | none=>0
theorem Jjf(h:Lt [] (rs++[x]))(hl:∀ r∈rs++[x],r.length=d)(h0:0<l): pfx (rs++[x]) l=if l<=stp rs x then pfx rs l else pfx rs l++[x.take l]:=by
 rw [Jss];rcases List.eq_nil_or_concat rs with rfl|⟨r,y,rfl⟩
 .rw [if_neg (by simp [stp];omega)];rfl
 .rw [List.concat_eq_append]at *;have U:(r++[y]).getLast?=some y:=by simp
  have u:Jw y x []<0:=(List.pairwise_append.1 h).2.2 y (by simp) x (by simp);have G:y≠x:=λe=>by rw [e,Va]at u;omega
  have o:y.length=x.length:=by rw [hl y (by simp),hl x (by simp)]
  have C:stp (r++[y]) x=shr y x:=by simp [stp]
  rw [C,ddS,Jst];by_cases e:y.take l=x.take l
  .rw [if_pos (by rw [e]),if_pos (((Jdb y x l o).1 e).elim id λJ=>absurd J G)]
  .rw [if_neg (λO=>e (by injection O)),if_neg (λJ=>e ((Jdb y x l o).2 (.inl J)))]
theorem Qft(h:Lt [] (rs++[x]))(hl:∀ r∈rs++[x],r.length=d)(h0:0<l)(hs:stp rs x<l): x.take l ∉ pfx rs l:=by
 have e:=Jjf h hl h0;rw [if_neg om]at e;have o:=(Jkj (Uu h) l).1;rw [e]at o;intro u;have:=(List.pairwise_append.1 o).2.2 _ u (x.take l) (by simp);rw [Va]at this;omega
theorem Qlh{l:List Row}(h:Lt [] l)(hi:i<l.length)(hj:j<l.length)(e:l.getD i []=l.getD j []): i=j:=by
 rcases Nat.lt_trichotomy i j with h'|h'|h'
 .have:=h.at h' hj;rw [e,Va]at this;omega
 .exact h'
 .have:=h.at h' hi;rw [e,Va]at this;omega
theorem Ge{α:Type}(z:α)(l:List α)(x:α)(k:Nat): (l++[x]).getD k z=if k<l.length then l.getD k z else if k=l.length then x else z:=by
 simp only [List.getD];by_cases h:k<l.length
 .rw [if_pos h,List.getElem?_append_left h]
 .rw [if_neg h,List.getElem?_append_right om];by_cases e:k=l.length
  .rw [if_pos e,e,Nat.sub_self];rfl
  .rw [if_neg e,List.getElem?_eq_none (by simp;omega)];rfl
theorem take_take'(q:Row)(l:Nat): (q.take (l+2)).take (l+1)=q.take (l+1):=by rw [List.take_take,Nat.min_eq_left om]
theorem Qfs(h:Srt [] rs)(hi:i<(pfx rs (l+2)).length): ((pfx rs (l+2)).getD i []).take (l+1)∈pfx rs (l+1):=by
 obtain ⟨r,o,e⟩:=(Jqw h).1 (getD_mem' [] _ hi);rw [<-e,take_take'];exact (Jqw h).2 ⟨r,o,rfl⟩
theorem Fst.keep(hF:Fst rs l f)(h:Lt [] (rs++[x]))(hl:∀ r∈rs++[x],r.length=d)(hs:l+1<=stp rs x): Fst (rs++[x]) l f:=by
 obtain ⟨h1,G,h3⟩:=hF;have Z:pfx (rs++[x]) (l+1)=pfx rs (l+1):=by rw [Jjf h hl om,if_pos hs]
 have u:Lt [] rs:=(List.pairwise_append.1 h).1;have o:0<(pfx rs (l+1)).length/\(pfx rs (l+1)).getD ((pfx rs (l+1)).length-1) []=x.take (l+1):=by
  have h5:=Jst (rs:=rs) (x:=x) (l:=l+1);rw [Z,List.getLast?_eq_getElem?]at h5;have h6:=(List.getElem?_eq_some_iff.1 h5);obtain ⟨h7,h8⟩:=h6;exact ⟨om,by rw [Jr [] _ h7,h8]⟩
 have J:Lt [] (pfx rs (l+1)):=(Jkj (Uu u) _).1;by_cases hs2:l+2<=stp rs x
 .have U:pfx (rs++[x]) (l+2)=pfx rs (l+2):=by rw [Jjf h hl om,if_pos hs2]
  unfold Fst;rw [Z,U];exact ⟨h1,G,h3⟩
 .have U:pfx (rs++[x]) (l+2)=pfx rs (l+2)++[x.take (l+2)]:=by rw [Jjf h hl om,if_neg hs2]
  unfold Fst;rw [Z,U];refine ⟨h1,λj C=>?_,λj i C hi=>?_⟩
  .have:=G j C;rw [List.length_append];omega
  .rw [List.length_append,List.length_singleton]at hi;rw [Ge];by_cases hi2:i<(pfx rs (l+2)).length
   .rw [if_pos hi2];exact h3 j i C hi2
   .rw [if_neg hi2,if_pos om,take_take',<-o.2];have ei:i=(pfx rs (l+2)).length:=om
    constructor
    .intro e;have O:=Qlh J om om e;exact ⟨by rw [ei];exact G j C,λh'=>om⟩
    .rintro ⟨_,h'⟩;by_cases O:j+1<f.length
     .have:=h' O;have:=G (j+1) O;omega
     .congr 1;omega
theorem Fst.more(hF:Fst rs l f)(h:Lt [] (rs++[x]))(hl:∀ r∈rs++[x],r.length=d)(hs:stp rs x<=l): Fst (rs++[x]) l (f++[(pfx rs (l+2)).length]):=by
 obtain ⟨U,J,O⟩:=hF;have u:Lt [] rs:=(List.pairwise_append.1 h).1;have e1:pfx (rs++[x]) (l+1)=pfx rs (l+1)++[x.take (l+1)]:=by rw [Jjf h hl om,if_neg om]
 have Z:pfx (rs++[x]) (l+2)=pfx rs (l+2)++[x.take (l+2)]:=by rw [Jjf h hl om,if_neg om]
 have hn:=Qft h hl (l:=l+1) om om;unfold Fst;rw [e1,Z];refine ⟨by simp [U],λj C=>?_,λj i C hi=>?_⟩
 .rw [List.length_append,List.length_singleton]at C;rw [Ge,List.length_append,List.length_singleton];by_cases hj2:j<f.length
  .rw [if_pos hj2];have:=J j hj2;omega
  .rw [if_neg hj2,if_pos om];omega
 .rw [List.length_append,List.length_singleton]at hi C;rw [Ge [],Ge [],Ge 0,Ge 0,List.length_append,List.length_singleton];by_cases hj2:j<f.length<;>by_cases hi2:i<(pfx rs (l+2)).length
  .rw [if_pos hi2,if_pos (show j<(pfx rs (l+1)).length by omega),if_pos hj2,O j i hj2 hi2];by_cases ej:j+1<f.length
   .rw [if_pos ej];exact ⟨λo=>⟨o.1,λ_=>o.2 ej⟩,λo=>⟨o.1,λ_=>o.2 om⟩⟩
   .rw [if_neg ej,if_pos om];exact ⟨λo=>⟨o.1,λ_=>hi2⟩,λo=>⟨o.1,λe=>absurd e ej⟩⟩
  .rw [if_neg hi2,if_pos (show i=(pfx rs (l+2)).length by omega),if_pos (show j<(pfx rs (l+1)).length by omega),if_pos hj2,take_take'];constructor
   .intro e;exact absurd (e ▸ getD_mem' [] _ om) hn
   .rintro ⟨_,o⟩;have G:=o om;by_cases ej:j+1<f.length
    .rw [if_pos ej]at G;have:=J (j+1) ej;omega
    .rw [if_neg ej,if_pos om]at G;omega
  .rw [if_pos hi2,if_neg (show ¬ j<(pfx rs (l+1)).length by omega),if_pos (show j=(pfx rs (l+1)).length by omega),if_neg hj2,if_pos (show j=f.length by omega)];constructor
   .intro e;exact absurd (e ▸ Qfs (Uu u) hi2) hn
   .rintro ⟨o,_⟩;omega
  .rw [if_neg hi2,if_pos (show i=(pfx rs (l+2)).length by omega),if_neg (show ¬ j<(pfx rs (l+1)).length by omega),if_pos (show j=(pfx rs (l+1)).length by omega),if_neg hj2,if_pos (show j=f.length by omega),take_take'];exact ⟨λ_=>⟨om,λe=>om⟩,λ_=>rfl⟩
def Chl(rs:List Row)(l:Nat)(f:List Nat): Prop:=f.length=(pfx rs (l+1)).length+1/\(∀ j,j<f.length->f.getD j 0<=(pfx rs (l+2)).length) /\
 ∀ j i,j+1<f.length->i<(pfx rs (l+2)).length->(((pfx rs (l+2)).getD i []).take (l+1)=(pfx rs (l+1)).getD j []↔f.getD j 0<=i/\i<f.getD (j+1) 0)
theorem Fst.close(hF:Fst rs l f): Chl rs l (f++[(pfx rs (l+2)).length]):=by
 obtain ⟨J,G,C⟩:=hF;refine ⟨by simp [J],λj u=>?_,λj i u hi=>?_⟩
 .rw [List.length_append,List.length_singleton]at u;rw [Ge];by_cases hj2:j<f.length
  .rw [if_pos hj2];exact G j hj2
  .rw [if_neg hj2,if_pos om];exact Nat.le_refl _
 .rw [List.length_append,List.length_singleton]at u;rw [Ge 0,Ge 0,if_pos om,C j i om hi];by_cases ej:j+1<f.length
  .rw [if_pos ej];exact ⟨λo=>⟨o.1,o.2 ej⟩,λo=>⟨o.1,λ_=>o.2⟩⟩
  .rw [if_neg ej,if_pos om];exact ⟨λo=>⟨o.1,hi⟩,λo=>⟨o.1,λe=>absurd e ej⟩⟩
theorem Fst.nil(l:Nat): Fst [] l []:=⟨rfl,λj o=>by simp at o,λj i o=>by simp at o⟩
theorem Jtr(h:Lt [] (rs++[x]))(hl:∀ r∈rs++[x],r.length=d)(hd:l<d): lvl (rs++[x]) l=if l+1<=stp rs x then lvl rs l else lvl rs l++[x.getD l V0]:=by
 unfold lvl;rw [Jjf h hl om];split
 .rfl
 .rw [List.map_append];have:x.length=d:=hl x (by simp);simp [List.getD]
end Go.Proofs.YtebcagekopgdhaaGreatDoor
