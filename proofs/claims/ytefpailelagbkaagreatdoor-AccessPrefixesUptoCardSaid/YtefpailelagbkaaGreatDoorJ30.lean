/- Part 30 of the proof: Div, Wt, Wt2. -/
import Derived.Test.YtefpailelagbkaaGreatDoorJ29
set_option linter.unusedVariables false
set_option maxRecDepth 100000
set_option maxHeartbeats 40000000
namespace Go.Proofs.YtefpailelagbkaaGreatDoor
open Go.RowKit Pl Go.Wk
attribute [local irreducible] WC WL QX WD WDB WP WN WG
theorem Qlq{n:Nat}(h0:n≠0)(h:n<4294967296): Jjf n=[UInt32.ofNat n]:=by
 rw [Jdq h0,show n / 4294967296=0 by omega,limbs_0]
theorem Qxx{A:Option Addr}{n c:Nat}{cs:List Value}{w:World}(hr:Rd w 1 A n cs)(h1:∀ u∈cs,u.oneCell'=true)(hb:n*4<=140737488355328):
  Ret Tryz.prog 102 [.slice A n c] w λv w'=>w'.ownsRow w.heap.size 117 1 v n cs/\Ext w w':=by
 refine Jjb Tryz.func102 Tryz.ntmps102 rfl (by kernel_rfl) rfl ?_;refine ρ ?_;refine Xjf ?_;refine ρ ?_;refine ci (λh=>?_) (λh=>?_)
 ·have hA:A=none:=by simpa using h
  subst hA;have hn:n=0:=by
   rcases Nat.eq_zero_or_pos n with h0|h0
   ·exact h0
   ·obtain ⟨ad,h2,_⟩:=hr.isome h0 (by omega);cases h2
  subst hn;have hcs:cs=[]:=List.eq_nil_of_length_eq_zero (by rw [hr.len]);subst hcs;refine ρ ?_;exact Jjq ⟨Jxj _ _ _ _,Ext.refl w⟩
 ·refine ρ ?_;refine bsl Xjz ?_;intro w1 b hx1 hb1 hk1;refine ρ ?_;refine apo hx1 EN (hk1.own (n:=0) hb1 rfl (Nat.zero_le _)) (hr.ext hx1) h1 (by unfold maxLen;omega) (by omega) ?_;intro v2 w2 ho2 hx2 _ _;refine ρ ?_;rw [Nat.zero_add,List.nil_append]at ho2;exact Jjq ⟨ho2,hx2⟩
theorem Qvl{l:List UInt32}{k:Nat}(h:k<l.length): val (l.drop k)=(l.getD k 0).toNat+4294967296*val (l.drop (k+1)):=by
 rw [List.drop_eq_getElem_cons h];simp [val,List.getD,List.getElem?_eq_getElem h]
structure DivI(l:List UInt32)(d k r:Nat)(os:List UInt32): Prop where
 len:os.length=l.length
 lt:r<d
 old:∀ j,j<k->os.getD j 0=l.getD j 0
 val:val (l.drop k)=Pl.val (os.drop k)*d+r
theorem DivI.step{l os:List UInt32}{d k r s:Nat}(h:DivI l d (k+1) r os)(hk:k<l.length)(hd:d<4294967296)(hs:s=r*4294967296+(l.getD k 0).toNat): DivI l d k (s % d) (os.set k (UInt32.ofNat (s / d)))/\s<18446744073709551616:=by
 obtain ⟨h1,h2,h3,h4⟩:=h;have hx:(l.getD k 0).toNat<4294967296:=(l.getD k 0).toNat_lt;have hsd:s<4294967296*d:=by rw [hs];omega
 have hq:s / d<4294967296:=Nat.div_lt_of_lt_mul (by rw [Nat.mul_comm];exact hsd);refine ⟨⟨by rw [List.length_set];exact h1,Nat.mod_lt _ (by omega),λj hj=>by rw [Jmx _ (by omega)];exact h3 j (by omega),?_⟩,by omega⟩;rw [Qvl hk,Qvl (l:=os.set k (UInt32.ofNat (s / d))) (k:=k) (by rw [List.length_set];omega),h4];have e1:(os.set k (UInt32.ofNat (s / d))).getD k 0=UInt32.ofNat (s / d):=by simp [List.getD,h1,hk]
 have e2:(os.set k (UInt32.ofNat (s / d))).drop (k+1)=os.drop (k+1):=List.drop_set_of_lt (by omega);rw [e1,e2,UInt32.toNat_ofNat',Nat.mod_eq_of_lt (show s / d<2^32 by omega)];have:=Nat.div_add_mod s d;generalize Pl.val (os.drop (k+1))=V at *
 rw [Nat.mul_add,Nat.add_mul,<-Nat.mul_assoc];have e3:s / d*d=d*(s / d):=Nat.mul_comm _ _;omega
theorem Xbx{r x:Nat}(hr:r<4294967296)(hx:x<4294967296): bits .or .u64 (IntKind.u64.wrap ((r:Int)*2^min (32:Int).toNat IntKind.u64.bits)) (IntKind.u64.wrap (x:Int))=((r*4294967296+x:Nat):Int):=by
 have e1:(2:Int)^min (32:Int).toNat IntKind.u64.bits=4294967296:=by decide
 have e2:IntKind.u64.wrap ((r:Int)*4294967296)=((r*4294967296:Nat):Int):=by rw [IntKind.wrap_u64];omega
 have e3:IntKind.u64.wrap (x:Int)=(x:Int):=by rw [IntKind.wrap_u64];omega
 rw [e1,e2,e3,u64_or_nat _ _ (by omega) (by omega),nat_join 32 (r*4294967296) x (by simp) (by omega)]
theorem Qfb{A:Option Addr}{L c d base:Nat}{l:List UInt32}{w:World}(hL:l.length=L)(hLm:L<=1100)(ho:w.ownsRow base 117 1 (.slice A L c) L (Nc l))(h0:0<d)(hd:d<4294967296):
  Ret Tryz.prog 103 [.slice A L c,.int .u32 (d:Int)] w λr w'=>r=.int .u32 ((val l % d:Nat):Int)/\(∃ os:List UInt32,os.length=L/\val os=val l / d/\w'.ownsRow base 117 1 (.slice A L c) L (Nc os))/\w.grownBy w' (Value.slice A L c).ownBlock:=by
 refine Jjb Tryz.func103 Tryz.ntmps103 rfl (by kernel_rfl) rfl ?_;refine ρ ?_;refine Jzk (fun (k r:Nat) (os:List UInt32)=>[(0,.slice A L c),(1,.int .u32 (d:Int)),(5,.int .u64 (r:Int)),(6,.int .i64 ((k:Int)-1))])
  (λk r os w1=>k<=L/\DivI l d k r os/\w1.ownsRow base 117 1 (.slice A L c) L (Nc os)/\w.grownBy w1 (Value.slice A L c).ownBlock) (λk _ _=>k) L 0 l sB
  ⟨Nat.le_refl _,⟨rfl,h0,λ_ _=>rfl,by rw [List.drop_of_length_le (by omega)];simp [val]⟩,ho,Jqj (Ext.refl w) _⟩ ?_
 rintro k r os w1 ⟨hk,hI,ho1,hg1⟩;have hol:os.length=L:=by rw [hI.len,hL]
 refine ρ ?_;refine ci (λh=>?_) (λh=>?_)
 ·obtain ⟨k,rfl⟩:∃ j,k=j+1:=⟨k-1,by have:=of_decide_eq_true h;omega⟩;clear h;obtain ⟨s,hs⟩:∃ s,s=r*4294967296+(l.getD k 0).toNat:=⟨_,rfl⟩;obtain ⟨hstep,hs64⟩:=hI.step (by omega) hd hs;have hx:(l.getD k 0).toNat<4294967296:=(l.getD k 0).toNat_lt;have hlt:=hI.lt;have hrd:Rd w1 1 A L (Nc os):=Rd.own ho1;have hold:=hI.old k (by omega);refine ρ ?_;refine wshl rfl rfl (by decide) rfl ?_;refine ρ ?_;refine ix k hrd (by omega) ?_;refine ρ ?_;refine ld (hrd.cell (Jzr (show k<os.length by omega))) ?_;rw [hold];refine ρ ?_;have eor:bits .or .u64 (IntKind.u64.wrap ((r:Int)*2^min (32:Int).toNat IntKind.u64.bits)) (IntKind.u64.wrap ((l.getD k 0).toNat:Int))=(s:Int):=by rw [hs];exact Xbx (by omega) hx
  refine kv 5 (u:=.int .u64 (s:Int)) (congrArg (Value.int .u64) eor) ?_;refine kv 24 (u:=.int .u64 (s:Int)) (congrArg (Value.int .u64) eor) ?_;have ed:IntKind.u64.wrap (d:Int)=(d:Int):=by rw [IntKind.wrap_u64];omega
  refine kv 26 (u:=.int .u64 (d:Int)) (congrArg (Value.int .u64) ed) ?_;refine wquo rfl rfl (by omega) rfl ?_;have hq:s / d<=s:=Nat.div_le_self _ _;have e2:IntKind.u32.wrap (IntKind.u64.wrap ((s:Int).tdiv d))=((UInt32.ofNat (s / d)).toNat:Int):=by
   have:(s:Int).tdiv d=((s / d:Nat):Int):=rfl;rw [this];generalize s / d=q at *
   rw [Qpt (by omega),Jld]
  obtain ⟨s1,s2,s3,s4,s5⟩:=Jqq ho1 (q:=k) (by omega) (.int .u32 ((UInt32.ofNat (s / d)).toNat:Int));refine ρ ?_;refine ix k hrd (by omega) ?_;rw [e2];refine sto (s1.trans (Jzr (show k<os.length by omega))) s2 ?_;refine ρ ?_;refine kv 32 (u:=.int .u64 (d:Int)) (congrArg (Value.int .u64) ed) ?_;refine wrem rfl rfl (by omega) rfl ?_;refine ρ ?_;refine Jqf k (s % d) (os.set k (UInt32.ofNat (s / d))) ?_ ⟨by omega,hstep,?_,Jjw hg1 s5⟩ (by omega)
  ·have e3:(s:Int).tmod d=((s % d:Nat):Int):=rfl;rw [e3];exact sO
  ·rw [<-Jrv];exact s3
 ·have hk0:k=0:=by have:=of_decide_eq_false h;omega
  subst hk0;obtain ⟨i1,i2,_,i4⟩:=hI;rw [List.drop_zero,List.drop_zero]at i4;have hm:r=val l % d:=by rw [i4,Nat.add_comm,Nat.add_mul_mod_self_right,Nat.mod_eq_of_lt i2]
  have hv:val os=val l / d:=by
   rw [i4,Nat.add_comm,Nat.add_mul_div_right _ _ h0,Nat.div_eq_of_lt i2,Nat.zero_add]
  refine ρ ?_;refine Jjq ⟨?_,⟨os,hol,hv,ho1⟩,hg1⟩;rw [Jld,UInt32.toNat_ofNat',Nat.mod_eq_of_lt (show r<2^32 by omega),hm]
theorem Qdf{v u:Value}{n m:Nat}{w:World}(hv:NatV w v n)(hu:NatV w u m)(hn:(Jjf n).length<=1000)(h0:0<m)(hm:m<4294967296):
  Ret Tryz.prog 66 [v,u] w λr w'=>(∃ x y,r=.tuple #[x,y,.int .i64 0]/\NatV w' x (n / m)/\NatV w' y (n % m))/\Ext w w':=by
 have l2:Jjf m=[UInt32.ofNat m]:=Qlq (by omega) hm;refine Jjb Tryz.func66 Tryz.ntmps66 rfl (by kernel_rfl) rfl ?_;refine ρ ?_;refine cl (Jlg hv) ?_;rintro v' w' ⟨⟨A,rfl,ha⟩,rfl⟩;refine ρ ?_;refine cl (Jlg hu) ?_;rintro u' w'' ⟨⟨B,rfl,hb⟩,rfl⟩;rw [l2]at hb ⊢;refine ρ ?_;refine cl (Jwl (n:=n) (m:=m) ⟨A,_,rfl,Nat.le_refl _,by omega,ha⟩ ⟨B,1,by rw [l2],by rw [l2];simp,by rw [l2];simp,by rw [l2];exact hb⟩) ?_;rintro t w' ⟨rfl,hx0⟩;refine ρ ?_;refine ci (λh=>?_) (λh=>?_)
 ·have hlt:n<m:=by
   have:=of_decide_eq_true h;unfold Qft at this;rcases Nat.lt_or_ge n m with h1|h1
   ·exact h1
   ·rw [if_neg (by omega)]at this;split at this<;>omega
  refine ρ ?_;refine cl (Qsv (ha.ext hx0) (Qpg _) (by omega)) ?_;rintro v' w1 ⟨⟨A',c',rfl,hc,hr⟩,hx⟩;refine ρ ?_;refine Qml ⟨⟨.slice none 0 0,_,rfl,?_,?_⟩,hx0.trans hx⟩
  ·rw [Nat.div_eq_of_lt hlt];exact NatV.nil _
  ·rw [Nat.mod_eq_of_lt hlt];exact ⟨A',c',rfl,hc,by omega,hr⟩
 refine ρ ?_;refine cl (Qxx (ha.ext hx0) (Qpg _) (by omega)) ?_;rintro q w1 ⟨ho,hx1⟩;obtain ⟨A',c',rfl,hc,hf⟩:=Jjd ho;have hb1:=(hb.ext hx0).ext hx1;refine ρ ?_;refine ix 0 hb1 (by simp) ?_;refine ρ ?_;refine ld (hb1.cell (Jzr (l:=[UInt32.ofNat m]) (k:=0) (by simp))) ?_;have em:(([UInt32.ofNat m].getD 0 0).toNat:Int)=(m:Int):=by
  show ((UInt32.ofNat m).toNat:Int)=m;rw [UInt32.toNat_ofNat',Nat.mod_eq_of_lt (show m<2^32 by omega)]
 rw [em];refine ρ ?_;refine cl (Qfb rfl (by omega) ho h0 hm) ?_;rintro r w2 ⟨rfl,⟨os,hol,hval,ho2⟩,hg2⟩;rw [Jqp]at hval ⊢;have hx2:Ext w'' w2:=Jjk (hx0.trans hx1) hg2 (λk e=>Nat.le_trans hx0.size (hf k e).1);have hr2:=Rd.own ho2;rw [<-hol]at hr2 hc ⊢;refine ρ ?_;refine cl (Jvw hr2 hc (by omega)) ?_;rintro t w3 ⟨rfl,rfl⟩;have:=Jfp hr2 (by omega);rw [hval]at this ⊢;have hr:n % m<m:=Nat.mod_lt _ h0;refine ρ ?_;rw [Qpt (by omega)];refine cl (Qll (n % m) (by omega) _) ?_;rintro y w4 ⟨hy,hx4⟩;refine ρ ?_;exact Qml ⟨⟨_,y,rfl,this.ext hx4,hy⟩,hx2.trans hx4⟩
end Go.Proofs.YtefpailelagbkaaGreatDoor
namespace Go.Wk
theorem dbx{P:Program}{n:Nat}{al:AL}{w:World}{Q:Exit->Act->World->Prop}{ops:Array Oper}{drest:List (Nat×Oper)}{d ty:Nat}{pos:String}{aft:Array Edge}{x:Operand}{t:Nat}{v:Value}{cs:List Value}(kk:∀ w1 b,Ext w w1->w.heap.size<=b->Blk w1 b t cs->WD P n ops Q drest ((d,.pointer (some ⟨b,0,none⟩))::al) w1)(hx:ev al x=some v:=by rfl)(hv:v.cells=cs.toArray:=by rfl)(hd:Nat.blt d n=true:=by rfl): WD P n ops Q ((1,⟨some d,.box t x,ty,pos,aft,none⟩)::drest) al w :=
 Jnh (bx (λw1 b hx1 hb1 hk1=>Jxz (Jng hx1 (kk w1 b hx1 hb1 hk1))) hx hv hd)
end Go.Wk
namespace Go.Proofs.YtefpailelagbkaaGreatDoor
open Go.RowKit Pl Go.Wk
attribute [local irreducible] WC WL QX WD WDB WP WN WG
theorem Qyt{n:Nat}(h:0<(Jjf n).length): n≠0:=λe=>by rw [e,limbs_0]at h;simp at h
def NatX(N:Nat->Prop)(w:World)(v:Value)(n:Nat): Prop:=NatV w v n/\(n≠0->∀ ad m c,v=.slice (some ad) m c->¬ N ad.block)
theorem NatX.ext{N:Nat->Prop}{w w':World}{v:Value}{n:Nat}(h:NatX N w v n)(hx:Ext w w'): NatX N w' v n:=⟨h.1.ext hx,h.2⟩
theorem NatX.gr{N:Nat->Prop}{w w':World}{v:Value}{n:Nat}(h:NatX N w v n)(hg:GrN N w w'): NatX N w' v n:=by
 obtain ⟨⟨A,c,rfl,h2,h3,h4⟩,h5⟩:=h;exact ⟨⟨A,c,rfl,h2,h3,Qzl h4 hg (λh0 ad e=>h5 (Qyt (by rw [Xdq]at h0;exact h0)) ad _ _ (by rw [e]))⟩,h5⟩
theorem NatX.nil{N:Nat->Prop}(w:World): NatX N w (.slice none 0 0) 0:=⟨NatV.nil w,λ_ ad m c e=>by cases e⟩
theorem limbs_pos'{n:Nat}(h:n≠0): 0<(Jjf n).length:=by rw [Jdq h];simp
theorem NatX.old{N N':Nat->Prop}{w:World}{v:Value}{n:Nat}(h:NatX N w v n)(hs:∀ k,N' k->N k∨w.heap.size<=k): NatX N' w v n:=⟨h.1,λh0 ad m c e hk=>by
 rcases hs _ hk with h1|h1
 ·exact h.2 h0 ad m c e h1
 ·obtain ⟨A,c',e2,_,_,hr⟩:=h.1;rw [e]at e2;injection e2 with e3 e4 e5
  subst e3;obtain ⟨ad',e7,e8⟩:=Rd.isome hr (limbs_pos' h0) (by omega);injection e7 with e7;subst e7;omega⟩
theorem Fresh.x{N:Nat->Prop}{w w':World}{v:Value}{n:Nat}(h:Fresh w v)(hn:NatV w' v n)(hN:∀ k,N k->k<w.heap.size): NatX N w' v n :=
 ⟨hn,λ_ ad m c e hk=>by have:=h ad m c e;have:=hN _ hk;omega⟩
def TrV(N:Nat->Prop)(w:World): Tr->Value->Prop
 | .nil,u=>u=.pointer none
 | .node l v x r,u=>∃ b wt pl pr st,u=.pointer (some ⟨b,0,none⟩)/\(Blk w b 174 (v.cells++[wt,pl,pr,.int .i64 ((Tr.node l v x r).ht:Int),.int .i64 ((Tr.node l v x r).sz:Int),st])/\¬ N b)/\NatX N w wt x/\NatX N w st (Tr.node l v x r).sum/\TrV N w l pl/\TrV N w r pr
theorem TrV.gr{N:Nat->Prop}{w w':World}: ∀ {t:Tr} {u:Value},TrV N w t u->GrN N w w'->TrV N w' t u
 | .nil,u,h,_=>h
 | .node l v x r,u,h,hx=>by
  obtain ⟨b,wt,pl,pr,st,h1,⟨h2,h2'⟩,h3,h4,h5,h6⟩:=h;exact ⟨b,wt,pl,pr,st,h1,⟨Jqb h2 hx h2',h2'⟩,h3.gr hx,h4.gr hx,h5.gr hx,h6.gr hx⟩
theorem TrV.ext{N:Nat->Prop}{w w':World}{t:Tr}{u:Value}(h:TrV N w t u)(hx:Ext w w'): TrV N w' t u:=h.gr (GrN.ext hx)
theorem TrV.old{N N':Nat->Prop}{w:World}(hs:∀ k,N' k->N k∨w.heap.size<=k): ∀ {t:Tr} {u:Value},TrV N w t u->TrV N' w t u
 | .nil,u,h=>h
 | .node l v x r,u,h=>by
  obtain ⟨b,wt,pl,pr,st,h1,⟨h2,h2'⟩,h3,h4,h5,h6⟩:=h;exact ⟨b,wt,pl,pr,st,h1,⟨h2,λhk=>(hs _ hk).elim h2' (λh=>by have:=h2.lt;omega)⟩,h3.old hs,h4.old hs,h5.old hs,h6.old hs⟩
theorem TrV.ptr{N:Nat->Prop}{w:World}{t:Tr}{u:Value}(h:TrV N w t u): ∃ p,u=.pointer p:=by
 cases t with
 | nil=>exact ⟨none,h⟩
 | node l v x r=>obtain ⟨b,_,_,_,_,h1,_⟩:=h;exact ⟨_,h1⟩
theorem Jyt{v:Value}{n:Nat}{w:World}(hv:NatV w v n)(hs:(Jjf n).length<=1000): Ret Tryz.prog 71 [v] w λr w'=>NatV w' r n/\Fresh w r/\Ext w w':=by
 refine Jjb Tryz.func71 Tryz.ntmps71 rfl (by kernel_rfl) rfl ?_;refine ρ ?_;refine cl (Jlg hv) ?_;rintro v' w' ⟨⟨A,rfl,ha⟩,rfl⟩;refine ρ ?_;refine cl (Qxx ha (Qpg _) (by omega)) ?_;rintro v' w1 ⟨ho,hx⟩;obtain ⟨A',c',rfl,hc,hf⟩:=Jjd ho;refine ρ ?_;refine Jjq ⟨⟨A',c',rfl,hc,by omega,Rd.own ho⟩,λad m c e=>?_,hx⟩;injection e with e1 e2 e3
 subst e1;exact (hf ad.block rfl).1
theorem Xdd: ∃ k:Nat,k=900:=⟨_,rfl⟩
noncomputable def bK: Nat:=Classical.choose Xdd
theorem Xkv: bK=900:=Classical.choose_spec Xdd
def Nb(n:Nat): Prop:=n<4294967296^bK
theorem Nb.len{n:Nat}(h:Nb n): (Jjf n).length<=1000:=by
 rcases Nat.eq_zero_or_pos n with h0|h0
 ·rw [h0,limbs_0];simp
 ·have h1:=Jgv (n:=n) (by omega);rcases Nat.lt_or_ge bK ((Jjf n).length-1) with h2|h2
  ·exact absurd (Nat.lt_of_lt_of_le h (Nat.le_trans (Nat.pow_le_pow_right (by decide) (Nat.le_of_lt h2)) h1)) (Nat.lt_irrefl _)
  ·rw [Xkv]at h2;omega
theorem Nb.le{n m:Nat}(h:Nb n)(hm:m<=n): Nb m:=Nat.lt_of_le_of_lt hm h
theorem Jzh{N:Nat->Prop}{w:World}{t:Tr}{u:Value}(h:TrV N w t u): Ret Tryz.prog 108 [u] w λr w'=>r=.int .i64 (t.ht:Int)/\w'=w:=by
 refine Jjb Tryz.func108 Tryz.ntmps108 rfl (by kernel_rfl) rfl ?_;cases t with
 | nil=>
  obtain rfl:u=.pointer none:=h;refine ρ ?_;refine pnl ?_;refine ρ ?_;exact Jjq ⟨rfl,rfl⟩
 | node l v x r=>
  obtain ⟨b,wt,pl,pr,st,rfl,⟨h2,_⟩,h3,h4,h5,h6⟩:=h;refine ρ ?_;refine pnl ?_;refine ρ ?_;refine ld (h2.at (i:=6) rfl) ?_;refine ρ ?_;exact Jjq ⟨rfl,rfl⟩
theorem Qvq{N:Nat->Prop}{w:World}{t:Tr}{u:Value}(h:TrV N w t u): Ret Tryz.prog 197 [u] w λr w'=>r=.int .i64 (t.sz:Int)/\w'=w:=by
 refine Jjb Tryz.func197 Tryz.ntmps197 rfl (by kernel_rfl) rfl ?_;cases t with
 | nil=>
  obtain rfl:u=.pointer none:=h;refine ρ ?_;refine pnl ?_;refine ρ ?_;exact Jjq ⟨rfl,rfl⟩
 | node l v x r=>
  obtain ⟨b,wt,pl,pr,st,rfl,⟨h2,_⟩,h3,h4,h5,h6⟩:=h;refine ρ ?_;refine pnl ?_;refine ρ ?_;refine ld (h2.at (i:=7) rfl) ?_;refine ρ ?_;exact Jjq ⟨rfl,rfl⟩
theorem Jvj{N:Nat->Prop}{w:World}{t:Tr}{u:Value}(h:TrV N w t u): Ret Tryz.prog 100 [u] w λr w'=>NatX N w r t.sum/\w'=w:=by
 refine Jjb Tryz.func100 Tryz.ntmps100 rfl (by kernel_rfl) rfl ?_;cases t with
 | nil=>
  obtain rfl:u=.pointer none:=h;refine ρ ?_;refine pnl ?_;refine ρ ?_;exact Jjq ⟨NatX.nil _,rfl⟩
 | node l v x r=>
  obtain ⟨b,wt,pl,pr,st,rfl,⟨h2,_⟩,h3,h4,h5,h6⟩:=h;refine ρ ?_;refine pnl ?_;refine ρ ?_;refine ld (h2.at (i:=8) rfl) ?_;refine ρ ?_;exact Jjq ⟨h4,rfl⟩
structure NatsV(w:World)(A:Option Addr)(us:List Value)(ns:List Nat): Prop where
 rd:Rd w 1 A us.length us
 len:us.length=ns.length
 nat:∀ i,i<ns.length->NatV w (us.getD i (.int .i64 0)) (ns.getD i 0)
theorem Qdd{w:World}{A:Option Addr}{c:Nat}{us:List Value}{ns:List Nat}(h:NatsV w A us ns)(hN:Nb (ns.foldl (· + ·) 0))(hl:ns.length<=1000)(hsub:∀ i,i<=ns.length->Nb ((ns.take i).foldl (· + ·) 0))(hone:∀ x∈ns,Nb x):
  Ret Tryz.prog 198 [.slice A us.length c] w λr w'=>NatV w' r (ns.foldl (· + ·) 0)/\Fresh w r/\Ext w w':=by
 have hlen:=h.len;refine Jjb Tryz.func198 Tryz.ntmps198 rfl (by kernel_rfl) rfl ?_;refine ρ ?_;refine Jjv (fun (i:Nat) (vs:Value)=>[(0,.slice A us.length c),(3,vs),(6,.int .i64 (us.length:Int)),(7,.int .i64 (i:Int))])
  (λi vs w'=>i<=ns.length/\Ext w w'/\NatV w' vs ((ns.take i).foldl (· + ·) 0)/\Fresh w vs) (λi _=>ns.length-i) 0 (.slice none 0 0) sB
  ⟨Nat.zero_le _,Ext.refl _,NatV.nil _,λad m c e=>by cases e⟩ ?_
 rintro i vs w1 ⟨hi,hx1,hs,hfr⟩;refine ρ ?_;refine ci (λh'=>?_) (λh'=>?_)
 ·have li:i<ns.length:=by have:=of_decide_eq_true h';omega
  clear h';refine ρ ?_;refine ix i (h.rd.ext hx1) (by omega) ?_;have hcell:us[i]?=some (us.getD i (.int .i64 0)):=by simp [List.getD,List.getElem?_eq_getElem (show i<us.length by omega)]
  refine ρ ?_;refine ld ((h.rd.ext hx1).cell hcell) ?_;refine ρ ?_;refine cl (Jkk hs ((h.nat i li).ext hx1) (hsub i hi).len (hone _ (by simp [List.getD,List.getElem?_eq_getElem li])).len) ?_;rintro r w2 ⟨hr,hf2,hx2⟩;refine ρ ?_;refine Jjj (i+1) r sO ⟨li,hx1.trans hx2,?_,λad m c e=>Nat.le_trans hx1.size (hf2 ad m c e)⟩ (by omega);rw [Jjm 0 li,List.foldl_append];exact hr
 have hi':i=ns.length:=by have:=of_decide_eq_false h';omega
 rw [hi',List.take_length]at hs;refine ρ ?_;exact Jjq ⟨hs,hfr,hx1⟩
theorem Xkk(v:V)(wt st:Value)(A1 A2:Option Addr)(n1 n2 c1 c2:Nat)(pl pr:Option Addr)(y z:Int)(h1:wt=.slice A1 n1 c1)(h2:st=.slice A2 n2 c2)(w:World): (Instr.build 174 #[(0,.agg (v.cells++[wt]).toArray),(1,.pointer pl),(2,.pointer pr),(3,.int .i64 y),(4,.int .i64 z),(5,st)]).run Tryz.prog w=.ok (.agg (v.cells++[wt,.pointer pl,.pointer pr,.int .i64 y,.int .i64 z,st]).toArray) w:=by
 subst h1;subst h2;kernel_rfl
theorem Xck(v1 v2 v3:Value)(A1 A2 A3:Option Addr)(n1 n2 n3 c1 c2 c3:Nat)(h1:v1=.slice A1 n1 c1)(h2:v2=.slice A2 n2 c2)(h3:v3=.slice A3 n3 c3)(w:World): (Instr.buildSlice 304 3 #[(0,v1),(1,v2),(2,v3)]).run Tryz.prog w=.ok (.slice (some ⟨w.heap.size,0,none⟩) 3 3) (w.alloc (.cells [v1,v2,v3].toArray 32)):=by
 subst h1;subst h2;subst h3;kernel_rfl
theorem Jzg{N:Nat->Prop}{w:World}{l r:Tr}{pl pr wt:Value}{v:V}{x:Nat}(hl:TrV N w l pl)(hr:TrV N w r pr)(hw:NatX N w wt x)(hN:∀ k,N k->k<w.heap.size)(hb:Nb (Tr.node l v x r).sum)(hs:(Tr.node l v x r).sz<=1000000):
  Ret Tryz.prog 181 [pl,.agg (v.cells++[wt]).toArray,pr] w λu w'=>TrV N w' (.node l v x r) u/\Ext w w':=by
 obtain ⟨ql,rfl⟩:=hl.ptr;obtain ⟨qr,rfl⟩:=hr.ptr;refine Jjb Tryz.func181 Tryz.ntmps181 rfl (by kernel_rfl) rfl ?_;refine ρ ?_;refine bx (cs:=v.cells++[wt]) ?_;intro w1 b hx1 hb1 hB;refine ρ ?_;have hxd:Ext w1 w1.drew:=(Ext.refl w1).drew;have hxw:=hx1.trans hxd;have hBd:=hB.ext hxd;have hld:=hl.ext hxw;have hrd:=hr.ext hxw;have hwd:=hw.ext hxw;have hhl:=Tr.ht_le l;have hhr:=Tr.ht_le r;simp only [Tr.sz]at hs;refine dr [(0,0),(0,1),(0,2),(0,3),(0,5),(0,9),(0,12),(0,15),(0,17),(0,18),(0,19),(1,4),(1,6),(0,7),(0,8),(1,10),(0,11),(1,13),(0,14),(1,16),(1,20),(1,21),(1,22),(0,23),(1,24),(0,25)] (by kernel_rfl) ?_;refine ρd ?_;refine Jwv (cs:=v.cells++[wt]) (λj u hu=>hBd.at hu) ?_;refine ρd ?_;refine dld (hBd.at (i:=3) rfl) ?_;refine ρd ?_;refine dcl (Jzh hld) ?_;rintro u2 w2 ⟨rfl,rfl⟩;refine ⟨Ext.refl _,?_⟩;refine ρd ?_;refine dcl (Jzh hrd) ?_;rintro u2 w2 ⟨rfl,rfl⟩;refine ⟨Ext.refl _,?_⟩
 refine ρd ?_;refine dcl (Qvq hld) ?_;rintro u2 w2 ⟨rfl,rfl⟩;refine ⟨Ext.refl _,?_⟩;refine ρd ?_;refine dcl (Qvq hrd) ?_;rintro u2 w2 ⟨rfl,rfl⟩;refine ⟨Ext.refl _,?_⟩;refine ρd ?_;refine dcl (Jvj hld) ?_;rintro ul w2 ⟨hul,rfl⟩;refine ⟨Ext.refl _,?_⟩;refine ρd ?_;refine dcl (Jvj hrd) ?_;rintro ur w2 ⟨hur,rfl⟩;refine ⟨Ext.refl _,?_⟩;obtain ⟨A1,c1,e1,_⟩:=id hul.1;obtain ⟨A2,c2,e2,_⟩:=id hwd.1;obtain ⟨A3,c3,e3,_⟩:=id hur.1;refine ρd ?_;refine dbsl (Xck _ _ _ _ _ _ _ _ _ _ _ _ e1 e2 e3) ?_;intro w3 b3 hx3 hb3 hB3;have hns:NatsV w3 (some ⟨b3,0,none⟩) [ul,wt,ur] [l.sum,x,r.sum]:=by
  refine ⟨hB3.rd (n:=3) rfl,rfl,λi hi=>?_⟩;match i,hi with
  | 0,_=>exact hul.1.ext hx3
  | 1,_=>exact hwd.1.ext hx3
  | 2,_=>exact hur.1.ext hx3
 simp only [Tr.sum]at hb;refine ρd ?_;refine dcl (Qdd (us:=[ul,wt,ur]) hns (hb.le (by simp)) (by simp) (λi hi=>hb.le ?_) (λy hy=>hb.le ?_)) ?_
 ·match i,hi with
  | 0,_=>simp
  | 1,_=>simp;omega
  | 2,_=>simp
  | 3,_=>simp
 ·simp only [List.mem_cons,List.not_mem_nil,or_false]at hy;rcases hy with rfl|rfl|rfl<;>omega
 rintro st w4 ⟨hst,hfr,hx4⟩;refine ⟨hx4,?_⟩;obtain ⟨A4,c4,e4,_⟩:=id hst;refine ρd ?_;refine dbld (Xkk v wt st A2 A4 _ _ _ _ ql qr _ _ e2 e4) ?_;refine ρd ?_;refine dbx (cs:=v.cells++[wt,.pointer ql,.pointer qr,.int .i64 _,.int .i64 _,st]) ?_;intro w5 b5 hx5 hb5 hB5;refine ρd ?_;refine ρ ?_;have e5:(if (l.ht:Int)<(r.ht:Int) then (r.ht:Int) else (l.ht:Int))+1=((Tr.node l v x r).ht:Int):=by simp only [Tr.ht];split<;>omega
 have e6:(l.sz:Int)+1+r.sz=((Tr.node l v x r).sz:Int):=by simp only [Tr.sz];omega
 rw [e5,e6]at hB5;have h345:=(hx3.trans hx4).trans hx5;have hw3:=Nat.le_trans hxw.size hx3.size;have hst':NatX N w5 st (Tr.node l v x r).sum:=by
  have:=hst.ext hx5;simp only [List.foldl_cons,List.foldl_nil,Nat.zero_add]at this;exact hfr.x this λk hk=>Nat.lt_of_lt_of_le (hN k hk) hw3
 have hnb:¬ N b5:=λhk=>by have:=hN _ hk;have:=hx4.size;omega
 exact Jjq ⟨⟨b5,wt,_,_,st,rfl,⟨hB5,hnb⟩,hwd.ext h345,hst',hld.ext h345,hrd.ext h345⟩,hxw.trans h345⟩
end Go.Proofs.YtefpailelagbkaaGreatDoor
namespace Go.Wk
theorem _root_.Go.Wk.Blk.pre{w:World}{b t:Nat}{cs ds:List Value}(h:Blk w b t (cs++ds))(j:Nat)(u:Value)(hu:cs[j]?=some u): w.cell? ((⟨b,0,none⟩:Addr).add j)=some u :=
 h.at (by rw [List.getElem?_append_left (List.getElem?_eq_some_iff.1 hu).1];exact hu)
end Go.Wk
namespace Go.Proofs.YtefpailelagbkaaGreatDoor
open Go.RowKit Pl Go.Wk
attribute [local irreducible] WC WL QX WD WDB WP WN WG
theorem Jnw{N:Nat->Prop}{w:World}{l r:Tr}{pl pr wt:Value}{v:V}{x:Nat}(hl:TrV N w l pl)(hr:TrV N w r pr)(hw:NatX N w wt x)(hN:∀ k,N k->k<w.heap.size)(hb:Nb (Tr.node l v x r).sum)(hs:(Tr.node l v x r).sz<=1000000):
  Ret Tryz.prog 182 [pl,.agg (v.cells++[wt]).toArray,pr] w λu w'=>TrV N w' (Tr.bal l v x r) u/\Ext w w':=by
 obtain ⟨ql,rfl⟩:=hl.ptr;obtain ⟨qr,rfl⟩:=hr.ptr;have hhl:=Tr.ht_le l;have hhr:=Tr.ht_le r;have hs':l.sz+1+r.sz<=1000000:=hs;have hb':Nb (l.sum+x+r.sum):=hb;refine Jjb Tryz.func182 Tryz.ntmps182 rfl (by kernel_rfl) rfl ?_;refine ρ ?_;refine bx (cs:=v.cells++[wt]) ?_;intro w1 b hx1 hb1 hB;have hl1:=hl.ext hx1;have hr1:=hr.ext hx1;have hw1:=hw.ext hx1;refine ρ ?_;refine cl (Jzh hl1) ?_;rintro u2 w2 ⟨rfl,rfl⟩;refine ρ ?_;refine cl (Jzh hr1) ?_;rintro u2 w2 ⟨rfl,rfl⟩;have hxd:Ext w2 w2.drew:=(Ext.refl w2).drew;refine ρ ?_;by_cases hc:r.ht+1<l.ht
 ·cases l with
  | nil=>simp [Tr.ht]at hc
  | node ll lv lx lr=>
   obtain ⟨bl,wl,pll,plr,sl,e1,⟨hBl,hnbl⟩,hwl,hsl,hll,hlr⟩:=id hl1;obtain rfl:ql=some ⟨bl,0,none⟩:=by injection e1
   obtain ⟨ql2,rfl⟩:=hll.ptr;obtain ⟨qr2,rfl⟩:=hlr.ptr;simp only [Tr.sum,Tr.sz]at hb' hs';have hd1:decide ((r.ht:Int)+1<((Tr.node ll lv lx lr).ht:Int))=true:=decide_eq_true (by omega);refine dr [(0,0),(0,1),(0,2),(0,3),(0,4),(0,5),(0,6),(0,7),(0,8),(0,10),(0,11),(0,12),(0,13),(1,9),(1,14),(0,15),(0,16),(0,17)] (by kernel_rfl) ?_;refine ρd ?_;refine dkt 20 hd1 ?_;refine ρd ?_;refine dld ((hBl.ext hxd).at (i:=4) rfl) ?_;refine ρd ?_;refine dld ((hBl.ext hxd).at (i:=5) rfl) ?_;refine ρd ?_;refine dcl (Jzh (hll.ext hxd)) ?_;rintro u3 w3 ⟨rfl,rfl⟩;refine ⟨Ext.refl _,?_⟩;refine ρd ?_;refine dcl (Jzh (hlr.ext hxd)) ?_;rintro u3 w3 ⟨rfl,rfl⟩;refine ⟨Ext.refl _,?_⟩;refine ρd ?_;refine ρ ?_;refine ci (λhc2=>?_) (λhc2=>?_)
   ·have hc2:lr.ht<=ll.ht:=by have:=of_decide_eq_true hc2;omega
    have hxd2:Ext w2 w2.drew.drew:=hxd.drew;have hBl2:=hBl.ext hxd2;refine ρ ?_;refine dr [(0,0),(0,1),(0,2),(0,3),(0,4),(0,5),(0,6),(0,7),(0,8),(0,9),(0,10),(0,11),(0,12),(0,13),(1,14),(1,15),(0,16)] (by kernel_rfl) ?_;refine ρd ?_;refine dld (hBl2.at (i:=4) rfl) ?_;refine ρd ?_;refine Jwv (cs:=lv.cells++[wl]) (Blk.pre (cs:=lv.cells++[wl]) hBl2) ?_;refine ρd ?_;refine dld (hBl2.at (i:=5) rfl) ?_;refine ρd ?_;refine Jwv (cs:=v.cells++[wt]) (λj u hu=>(hB.ext hxd2).at hu) ?_;refine ρd ?_;refine dcl (Jzg (hlr.ext hxd2) (hr1.ext hxd2) (hw1.ext hxd2) (λk hk=>Nat.lt_of_lt_of_le (hN k hk) (hx1.trans hxd2).size) (hb'.le (by simp only [Tr.sum];omega)) (by simp only [Tr.sz];omega)) ?_;rintro uj w4 ⟨hj,hx4⟩;refine ⟨hx4,?_⟩;have hx24:=hxd2.trans hx4;refine ρd ?_;refine dcl (Jzg (hll.ext hx24) hj (hwl.ext hx24) (λk hk=>Nat.lt_of_lt_of_le (hN k hk) (hx1.trans hx24).size) (hb'.le (by simp only [Tr.sum];omega)) (by simp only [Tr.sz];omega)) ?_
    rintro uk w5 ⟨hk,hx5⟩;refine ⟨hx5,?_⟩;refine ρd ?_;refine ρ ?_;refine Jjq ⟨?_,(hx1.trans hx24).trans hx5⟩;have e:Tr.bal (.node ll lv lx lr) v x r=.node ll lv lx (.node lr v x r):=by simp only [Tr.bal,if_pos hc,if_pos hc2]
    rw [e];exact hk
   have hc2:ll.ht<lr.ht:=by have:=of_decide_eq_false hc2;omega
   refine ρ ?_;refine ct hd1 ?_;cases lr with
   | nil=>simp [Tr.ht]at hc2
   | node ml mv mx mr=>
    obtain ⟨bm,wm,pml,pmr,sm,e2,⟨hBm,hnbm⟩,hwm,hsm,hml,hmr⟩:=id hlr;obtain rfl:qr2=some ⟨bm,0,none⟩:=by injection e2
    obtain ⟨qm1,rfl⟩:=hml.ptr;obtain ⟨qm2,rfl⟩:=hmr.ptr;simp only [Tr.sum,Tr.sz]at hb' hs';refine ρ ?_;refine ld ((hBl.ext hxd).at (i:=5) rfl) ?_;refine ρ ?_;have hxd2:Ext w2 w2.drew.drew:=hxd.drew;have hBl2:=hBl.ext hxd2;have hBm2:=hBm.ext hxd2;refine dr [(0,0),(0,1),(0,2),(0,3),(0,4),(0,5),(0,6),(0,7),(0,8),(0,9),(0,10),(0,11),(0,13),(0,14),(0,15),(0,16),(0,17),(0,18),(0,19),(0,20),(0,21),(0,22),(1,12),(1,23),(1,24),(0,25)] (by kernel_rfl) ?_;refine ρd ?_;refine dld (hBl2.at (i:=4) rfl) ?_;refine ρd ?_;refine Jwv (cs:=lv.cells++[wl]) (Blk.pre (cs:=lv.cells++[wl]) hBl2) ?_;refine ρd ?_;refine dld (hBm2.at (i:=4) rfl) ?_;refine ρd ?_;refine Jwv (cs:=mv.cells++[wm]) (Blk.pre (cs:=mv.cells++[wm]) hBm2) ?_;refine ρd ?_;refine dld (hBm2.at (i:=5) rfl) ?_;refine ρd ?_;refine Jwv (cs:=v.cells++[wt]) (λj u hu=>(hB.ext hxd2).at hu) ?_;refine ρd ?_;refine dcl (Jzg (hll.ext hxd2) (hml.ext hxd2) (hwl.ext hxd2) (λk hk=>Nat.lt_of_lt_of_le (hN k hk) (hx1.trans hxd2).size) (hb'.le (by simp only [Tr.sum];omega)) (by simp only [Tr.sz];omega)) ?_
    rintro uj w4 ⟨hj,hx4⟩;refine ⟨hx4,?_⟩;have hx24:=hxd2.trans hx4;refine ρd ?_;refine dcl (Jzg (hmr.ext hx24) (hr1.ext hx24) (hw1.ext hx24) (λk hk=>Nat.lt_of_lt_of_le (hN k hk) (hx1.trans hx24).size) (hb'.le (by simp only [Tr.sum];omega)) (by simp only [Tr.sz];omega)) ?_;rintro uk w5 ⟨hk,hx5⟩;refine ⟨hx5,?_⟩;have hx25:=hx24.trans hx5;refine ρd ?_;refine dcl (Jzg (hj.ext hx5) hk (hwm.ext hx25) (λk hk=>Nat.lt_of_lt_of_le (hN k hk) (hx1.trans hx25).size) (hb'.le (by simp only [Tr.sum];omega)) (by simp only [Tr.sz];omega)) ?_;rintro uo w6 ⟨ho,hx6⟩;refine ⟨hx6,?_⟩;refine ρd ?_;refine ρ ?_;refine Jjq ⟨?_,(hx1.trans hx25).trans hx6⟩;have e:Tr.bal (.node ll lv lx (.node ml mv mx mr)) v x r=.node (.node ll lv lx ml) mv mx (.node mr v x r):=by simp only [Tr.bal,if_pos hc,if_neg (Nat.not_le.2 hc2)]
    rw [e];exact ho
 ·refine dr [(0,0),(0,1),(0,2),(0,3),(0,4),(0,5),(0,6),(0,7),(0,8),(0,10),(0,11),(0,12),(0,13),(1,9),(1,14),(0,15),(0,16),(0,17)] (by kernel_rfl) ?_;refine ρd ?_;have hd1:decide ((r.ht:Int)+1<(l.ht:Int))=false:=decide_eq_false (by omega);refine dkf 20 hd1 ?_;refine ρd ?_;refine ρ ?_;refine cf hd1 ?_;refine ρ ?_;by_cases hd:l.ht+1<r.ht
  ·cases r with
   | nil=>simp [Tr.ht]at hd
   | node rl rv rx rr=>
    obtain ⟨br,wr,prl,prr,sr,e1,⟨hBr,hnbr⟩,hwr,hsr,hrl,hrr⟩:=id hr1;obtain rfl:qr=some ⟨br,0,none⟩:=by injection e1
    obtain ⟨qr1,rfl⟩:=hrl.ptr;obtain ⟨qr2,rfl⟩:=hrr.ptr;simp only [Tr.sum,Tr.sz]at hb' hs';have hxd2:Ext w2 w2.drew.drew:=hxd.drew;have hd2:decide ((l.ht:Int)+1<((Tr.node rl rv rx rr).ht:Int))=true:=decide_eq_true (by omega);refine dr [(0,0),(0,1),(0,2),(0,3),(0,4),(0,5),(0,6),(0,7),(0,8),(0,10),(0,11),(0,12),(0,13),(1,9),(1,14),(0,15),(0,16),(0,17)] (by kernel_rfl) ?_;refine ρd ?_;refine dkt 88 hd2 ?_;refine ρd ?_;refine dld ((hBr.ext hxd2).at (i:=5) rfl) ?_;refine ρd ?_;refine dld ((hBr.ext hxd2).at (i:=4) rfl) ?_;refine ρd ?_;refine dcl (Jzh (hrr.ext hxd2)) ?_;rintro u3 w3 ⟨rfl,rfl⟩;refine ⟨Ext.refl _,?_⟩;refine ρd ?_;refine dcl (Jzh (hrl.ext hxd2)) ?_;rintro u3 w3 ⟨rfl,rfl⟩;refine ⟨Ext.refl _,?_⟩;refine ρd ?_;refine ρ ?_;refine ci (λhc2=>?_) (λhc2=>?_)
    ·have hc2:rl.ht<=rr.ht:=by have:=of_decide_eq_true hc2;omega
     have hxd3:Ext w2 w2.drew.drew.drew:=hxd2.drew;have hBr2:=hBr.ext hxd3;refine ρ ?_;refine dr [(0,0),(0,1),(0,2),(0,3),(0,4),(0,5),(0,7),(0,8),(0,9),(0,10),(0,11),(0,12),(0,13),(0,14),(1,6),(1,15),(0,16)] (by kernel_rfl) ?_;refine ρd ?_;refine Jwv (cs:=v.cells++[wt]) (λj u hu=>(hB.ext hxd3).at hu) ?_;refine ρd ?_;refine dld (hBr2.at (i:=4) rfl) ?_;refine ρd ?_;refine Jwv (cs:=rv.cells++[wr]) (Blk.pre (cs:=rv.cells++[wr]) hBr2) ?_;refine ρd ?_;refine dld (hBr2.at (i:=5) rfl) ?_;refine ρd ?_;refine dcl (Jzg (hl1.ext hxd3) (hrl.ext hxd3) (hw1.ext hxd3) (λk hk=>Nat.lt_of_lt_of_le (hN k hk) (hx1.trans hxd3).size) (hb'.le (by simp only [Tr.sum];omega)) (by simp only [Tr.sz];omega)) ?_;rintro uj w4 ⟨hj,hx4⟩;refine ⟨hx4,?_⟩;have hx24:=hxd3.trans hx4;refine ρd ?_;refine dcl (Jzg hj (hrr.ext hx24) (hwr.ext hx24) (λk hk=>Nat.lt_of_lt_of_le (hN k hk) (hx1.trans hx24).size) (hb'.le (by simp only [Tr.sum];omega)) (by simp only [Tr.sz];omega)) ?_
     rintro uk w5 ⟨hk,hx5⟩;refine ⟨hx5,?_⟩;refine ρd ?_;refine ρ ?_;refine Jjq ⟨?_,(hx1.trans hx24).trans hx5⟩;have e:Tr.bal l v x (.node rl rv rx rr)=.node (.node l v x rl) rv rx rr:=by simp only [Tr.bal,if_neg hc,if_pos hd,if_pos hc2]
     rw [e];exact hk
    have hc2:rr.ht<rl.ht:=by have:=of_decide_eq_false hc2;omega
    refine ρ ?_;refine ct hd2 ?_;cases rl with
    | nil=>simp [Tr.ht]at hc2
    | node ml mv mx mr=>
     obtain ⟨bm,wm,pml,pmr,sm,e2,⟨hBm,hnbm⟩,hwm,hsm,hml,hmr⟩:=id hrl;obtain rfl:qr1=some ⟨bm,0,none⟩:=by injection e2
     obtain ⟨qm1,rfl⟩:=hml.ptr;obtain ⟨qm2,rfl⟩:=hmr.ptr;simp only [Tr.sum,Tr.sz]at hb' hs';refine ρ ?_;refine ld ((hBr.ext hxd2).at (i:=4) rfl) ?_;refine ρ ?_;have hxd3:Ext w2 w2.drew.drew.drew:=hxd2.drew;have hBr2:=hBr.ext hxd3;have hBm2:=hBm.ext hxd3;refine dr [(0,0),(0,1),(0,2),(0,3),(0,4),(0,5),(0,7),(0,8),(0,9),(0,10),(0,11),(0,12),(0,13),(0,14),(0,15),(0,16),(0,17),(0,18),(0,19),(0,20),(0,21),(0,22),(1,6),(1,23),(1,24),(0,25)] (by kernel_rfl) ?_;refine ρd ?_;refine Jwv (cs:=v.cells++[wt]) (λj u hu=>(hB.ext hxd3).at hu) ?_;refine ρd ?_;refine dld (hBm2.at (i:=4) rfl) ?_;refine ρd ?_;refine Jwv (cs:=mv.cells++[wm]) (Blk.pre (cs:=mv.cells++[wm]) hBm2) ?_;refine ρd ?_;refine dld (hBm2.at (i:=5) rfl) ?_;refine ρd ?_;refine Jwv (cs:=rv.cells++[wr]) (Blk.pre (cs:=rv.cells++[wr]) hBr2) ?_;refine ρd ?_;refine dld (hBr2.at (i:=5) rfl) ?_;refine ρd ?_;refine dcl (Jzg (hl1.ext hxd3) (hml.ext hxd3) (hw1.ext hxd3) (λk hk=>Nat.lt_of_lt_of_le (hN k hk) (hx1.trans hxd3).size) (hb'.le (by simp only [Tr.sum];omega)) (by simp only [Tr.sz];omega)) ?_
     rintro uj w4 ⟨hj,hx4⟩;refine ⟨hx4,?_⟩;have hx24:=hxd3.trans hx4;refine ρd ?_;refine dcl (Jzg (hmr.ext hx24) (hrr.ext hx24) (hwr.ext hx24) (λk hk=>Nat.lt_of_lt_of_le (hN k hk) (hx1.trans hx24).size) (hb'.le (by simp only [Tr.sum];omega)) (by simp only [Tr.sz];omega)) ?_;rintro uk w5 ⟨hk,hx5⟩;refine ⟨hx5,?_⟩;have hx25:=hx24.trans hx5;refine ρd ?_;refine dcl (Jzg (hj.ext hx5) hk (hwm.ext hx25) (λk hk=>Nat.lt_of_lt_of_le (hN k hk) (hx1.trans hx25).size) (hb'.le (by simp only [Tr.sum];omega)) (by simp only [Tr.sz];omega)) ?_;rintro uo w6 ⟨ho,hx6⟩;refine ⟨hx6,?_⟩;refine ρd ?_;refine ρ ?_;refine Jjq ⟨?_,(hx1.trans hx25).trans hx6⟩;have e:Tr.bal l v x (.node (.node ml mv mx mr) rv rx rr)=.node (.node l v x ml) mv mx (.node mr rv rx rr):=by simp only [Tr.bal,if_neg hc,if_pos hd,if_neg (Nat.not_le.2 hc2)]
     rw [e];exact ho
  ·refine dr [(0,0),(0,1),(0,2),(0,3),(0,4),(0,5),(0,6),(0,7),(0,8),(0,10),(0,11),(0,12),(0,13),(1,9),(1,14),(0,15),(0,16),(0,17)] (by kernel_rfl) ?_;refine ρd ?_;have hd2:decide ((l.ht:Int)+1<(r.ht:Int))=false:=decide_eq_false (by omega);refine dkf 88 hd2 ?_;refine ρd ?_;refine ρ ?_;refine cf hd2 ?_;have hxd2:Ext w2 w2.drew.drew:=hxd.drew;refine ρ ?_;refine lds (cs:=v.cells++[wt]) (λj u hu=>(hB.ext hxd2).at hu) ?_;refine ρ ?_;refine cl (Jzg (hl1.ext hxd2) (hr1.ext hxd2) (hw1.ext hxd2) (λk hk=>Nat.lt_of_lt_of_le (hN k hk) (hx1.trans hxd2).size) hb hs) ?_;rintro uj w4 ⟨hj,hx4⟩;refine ρ ?_;refine Jjq ⟨?_,(hx1.trans hxd2).trans hx4⟩;have e:Tr.bal l v x r=.node l v x r:=by simp only [Tr.bal,if_neg hc,if_neg hd]
   rw [e];exact hj
end Go.Proofs.YtefpailelagbkaaGreatDoor
