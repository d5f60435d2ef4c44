/- Part 31 of the proof: Wt4, Wt5, Ix. -/
import Derived.Test.YtefpailelagbkaaGreatDoorJ30
set_option linter.unusedVariables false
set_option maxRecDepth 100000
set_option maxHeartbeats 40000000
namespace Go.Proofs.YtefpailelagbkaaGreatDoor
open Go.RowKit Pl Go.Wk
attribute [local irreducible] WC WL QX WD WDB WP WN WG
theorem walk_any{N:Nat->Prop}{J:Tr->World->Prop}{D:World->Prop}{fid:FuncId}{cap:Array Value}{d:Bool}{p:Value}{t:Tr}{w:World}(hp:TrV N w t p)(hj:J t w)(hht:t.ht<=1000000)(hx:∀ s w w',J s w->Ext w w'->J s w')(hnil:∀ w,J .nil w->D w)(hcall:∀ l v x r u w,TrV N w (.node l v x r) u->J (.node l v x r) w->Ret Tryz.prog fid ((#[]:Array Value).toList++[u]++cap.toList) w λz w'=>∃ c,z=.int .i64 c/\GrN N w w'/\(c<0->J l w')/\(0<c->J r w')/\(c=0->D w')):
  Ret Tryz.prog 97 [.agg #[.bool d,p],.func (.func fid) #[] cap] w λz w'=>(∃ k:Nat,z=.int .i64 (k:Int)/\k<=t.ht)/\D w'/\GrN N w w':=by
 obtain ⟨q,rfl⟩:=hp.ptr;refine Jjb Tryz.func97 Tryz.ntmps97 rfl (by kernel_rfl) rfl ?_;refine ρ ?_;refine bx (cs:=[.bool d,.pointer q]) ?_;intro w1 b hx1 hb hB;refine ρ ?_;refine ld (hB.at (i:=1) rfl) ?_;refine ρ ?_;refine Jzk (fun (k:Nat) (s:Tr) (q:Option Addr)=>[(1,.func (.func fid) #[] cap),(5,.int .i64 (k:Int)),(6,.pointer q)])
  (λk s q w'=>k+s.ht<=t.ht/\TrV N w' s (.pointer q)/\J s w'/\GrN N w w') (λ_ s _=>s.sz) 0 t q sB
  ⟨by omega,hp.ext hx1,hx _ _ _ hj hx1,GrN.ext hx1⟩ ?_
 rintro k s q2 w2 ⟨hk,hs,hjs,hg2⟩;refine ρ ?_;cases s with
 | nil=>
  obtain rfl:q2=none:=by have:Value.pointer q2=.pointer none:=hs;injection this
  refine pnn ?_;refine ρ ?_;refine Jjq ⟨⟨k,rfl,by omega⟩,hnil _ hjs,hg2⟩
 | node l v x r=>
  obtain ⟨bn,wn,pl,pr,sn,e,⟨hBn,hnbn⟩,hwn,hsn,hl,hr⟩:=id hs;obtain rfl:q2=some ⟨bn,0,none⟩:=by injection e
  obtain ⟨ql,rfl⟩:=hl.ptr;obtain ⟨qr,rfl⟩:=hr.ptr;have hht1:l.ht+1<=(Tr.node l v x r).ht:=by simp only [Tr.ht];omega
  have hht2:r.ht+1<=(Tr.node l v x r).ht:=by simp only [Tr.ht];omega
  have hsz1:l.sz<(Tr.node l v x r).sz:=by simp only [Tr.sz];omega
  have hsz2:r.sz<(Tr.node l v x r).sz:=by simp only [Tr.sz];omega
  refine pnn ?_;refine ρ ?_;refine clv (hcall l v x r _ w2 hs hjs) ?_;rintro z w3 ⟨c,rfl,hg3,k1,k2,k3⟩;have hg:=hg2.trans hg3;have hBn3:=Jqb hBn hg3 hnbn;refine ρ ?_;refine ci (λhc=>?_) (λhc=>?_)
  ·have hc:=of_decide_eq_true hc;refine ρ ?_;refine ld (hBn3.at (i:=4) rfl) ?_;refine ρ ?_;exact Jqf (k+1) l ql sO ⟨by omega,hl.gr hg3,k1 hc,hg⟩ (by omega)
  have hc:=of_decide_eq_false hc;refine ρ ?_;refine ci (λhc2=>?_) (λhc2=>?_)
  ·have hc2:=of_decide_eq_true hc2;refine ρ ?_;refine ld (hBn3.at (i:=5) rfl) ?_;refine ρ ?_;exact Jqf (k+1) r qr sO ⟨by omega,hr.gr hg3,k2 hc2,hg⟩ (by omega)
  have hc2:=of_decide_eq_false hc2;refine ρ ?_;refine Jjq ⟨⟨k+1,rfl,by omega⟩,k3 (by omega),hg⟩
structure BefB(bT bV bS bF:Nat)(d:Bool)(q:Option Addr)(v:V)(w:World)(sv:Value)(f:Bool): Prop where
 tb:Blk w bT 126 [.bool d,.pointer q]
 vb:Blk w bV 71 v.cells
 sb:Blk w bS 32 [sv]
 fb:Blk w bF 4 [.bool f]
theorem BefB.ext{bT bV bS bF:Nat}{d:Bool}{q:Option Addr}{v:V}{w w':World}{sv:Value}{f:Bool}(h:BefB bT bV bS bF d q v w sv f)(hx:Ext w w'): BefB bT bV bS bF d q v w' sv f :=
 ⟨h.tb.ext hx,h.vb.ext hx,h.sb.ext hx,h.fb.ext hx⟩
def BefJ(bT bV bS bF:Nat)(d:Bool)(q:Option Addr)(v:V)(t:Tr)(s:Tr)(w:World): Prop :=
 ∃ sv m,BefB bT bV bS bF d q v w sv false/\NatX (λk=>k=bS∨k=bF) w sv m/\m+Tr.befT d v s=Tr.befT d v t/\Tr.hasT d v s=Tr.hasT d v t/\m+s.sum<=t.sum
def BefD(bT bV bS bF:Nat)(d:Bool)(q:Option Addr)(v:V)(t:Tr)(w:World): Prop :=
 ∃ sv,BefB bT bV bS bF d q v w sv (Tr.hasT d v t)/\NatX (λk=>k=bS∨k=bF) w sv (Tr.befT d v t)
theorem before1_any{bT bV bS bF:Nat}{d:Bool}{q:Option Addr}{v:V}{t:Tr}(hne:bT≠bS/\bT≠bF/\bV≠bS/\bV≠bF/\bS≠bF)(hb:Nb t.sum):
  ∀ l a x r u w,TrV (λk=>k=bS∨k=bF) w (.node l a x r) u->BefJ bT bV bS bF d q v t (.node l a x r) w ->
  Ret Tryz.prog 98 ((#[]:Array Value).toList++[u]++(#[.pointer (some ⟨bT,0,none⟩),.pointer (some ⟨bV,0,none⟩),.pointer (some ⟨bS,0,none⟩),.pointer (some ⟨bF,0,none⟩)]:Array Value).toList) w λz w'=>∃ c,z=.int .i64 c/\GrN (λk=>k=bS∨k=bF) w w'/\(c<0->BefJ bT bV bS bF d q v t l w')/\(0<c->BefJ bT bV bS bF d q v t r w')/\(c=0->BefD bT bV bS bF d q v t w'):=by
 obtain ⟨n1,n2,n3,n4,n5⟩:=hne;rintro l a x r u w hs ⟨sv,m,hB,hm,e1,e2,e3⟩;obtain ⟨bn,wn,pl,pr,sn,rfl,⟨hBn,hnbn⟩,hwn,hsn,hl,hr⟩:=id hs;obtain ⟨ql,rfl⟩:=hl.ptr;obtain ⟨qr,rfl⟩:=hr.ptr;simp only [Tr.sum]at e3;refine Jjb Tryz.func98 Tryz.ntmps98 rfl (by kernel_rfl) rfl ?_;refine ρ ?_;have hxd:Ext w w.drew:=(Ext.refl w).drew;have hBd:=hB.ext hxd;have hBnd:=hBn.ext hxd;refine dr [(0,0),(0,1),(0,2),(0,3),(0,4),(0,5),(0,6),(1,7),(0,8)] (by kernel_rfl) ?_;refine ρd ?_;refine Jvb (cs:=[.bool d,.pointer q]) (λj u hu=>hBd.tb.at hu) ?_;refine ρd ?_;refine Jvb (cs:=v.cells) (λj u hu=>hBd.vb.at hu) ?_;refine ρd ?_;refine Jvb (cs:=a.cells) (Blk.pre (cs:=a.cells) hBnd) ?_;refine ρd ?_;refine dcl (cmpT_any (a:=v) (b:=a)) ?_;rintro u w1 ⟨rfl,hx1⟩;refine ⟨hx1,?_⟩;refine ρd ?_;have hx01:=hxd.trans hx1;have hB1:=hB.ext hx01;have hm1:=hm.ext hx01;refine ρ ?_;refine ci (λhc=>?_) (λhc=>?_)
 ·have hc:=of_decide_eq_true hc;refine ρ ?_;refine Jjq ⟨neg d (Jqh v a),rfl,GrN.ext hx01,λ_=>⟨sv,m,hB1,hm1,?_,?_,by omega⟩,λh=>by omega,λh=>by omega⟩
  ·rw [<-e1,Tr.befT,if_pos hc]
  ·rw [<-e2,Tr.hasT,if_pos hc]
 have hc:=of_decide_eq_false hc;have hxd1:Ext w1 w1.drew:=(Ext.refl w1).drew;have hx0d:=hx01.trans hxd1;have hBn1:=hBn.ext hx0d;have hB1d:=hB1.ext hxd1;refine ρ ?_;refine drN (λ_=>False) 10 [(0,0),(0,1),(0,2),(0,3),(0,4),(1,5),(1,6),(2,7)] (by kernel_rfl) ?_;refine ρn ?_;refine nld (Jjg (hB1d.sb.at (i:=0) rfl) (λe=>e)) ?_;refine ρn ?_;refine nld (Jjg (hBn1.at (i:=4) rfl) (λe=>e)) ?_;refine ρn ?_;refine nop ?_;refine cl (Jvn (hl.ext hx0d)) ?_;rintro ul w2 ⟨hul,rfl⟩;refine ρ ?_;refine Jql (GrN.refl _ _) ?_;refine ρn ?_;refine nop ?_;refine cl (Jkn (hm.ext hx0d).1 hul.1 (hb.le (by omega)).len (hb.le (by omega)).len) ?_;rintro us w3 ⟨hus,hfr,hx3⟩;refine ρ ?_;refine Jql (GrN.ext hx3) ?_;refine ρn ?_;refine Jkm ?_;obtain ⟨A3,c3,rfl,hc3,_⟩:=id hus;refine stb1 (hB1d.ext hx3).sb ?_ rfl;intro w4 hS4 hg4 hx4;refine ρ ?_;have hB3:=hB1d.ext hx3;have hx03:=hx0d.trans hx3;have hNw:∀ k,(k=bS∨k=bF)->k<w1.drew.heap.size:=λk hk=>hk.elim (λe=>by rw [e];exact hB1d.sb.lt) (λe=>by rw [e];exact hB1d.fb.lt)
 have hm3:NatX (λk=>k=bS∨k=bF) w3 (.slice A3 (Jjf (m+l.sum)).length c3) (m+l.sum):=hfr.x hus hNw;have hg34:GrN (λk=>k=bS∨k=bF) w3 w4:=GrN.by hg4 λk hk=>.inl (by injection hk with hk;exact hk.symm)
 have hm4:=hm3.gr hg34;have hB4:BefB bT bV bS bF d q v w4 (.slice A3 (Jjf (m+l.sum)).length c3) false:=⟨hB3.tb.grown hg4 (by simpa using n1),hB3.vb.grown hg4 (by simpa using n3),hS4,hB3.fb.grown hg4 (by simpa using n5.symm)⟩;have hg04:GrN (λk=>k=bS∨k=bF) w w4:=(GrN.ext hx03).trans hg34;refine ci (λhc0=>?_) (λhc0=>?_)
 ·have hc0:neg d (Jqh v a)=0:=Jqj hc0;refine ρ ?_;refine stb1 hB4.fb ?_ rfl;intro w5 hF5 hg5 hx5;refine ρ ?_;have hg45:GrN (λk=>k=bS∨k=bF) w4 w5:=GrN.by hg5 λk hk=>.inr (by injection hk with hk;exact hk.symm)
  refine Jjq ⟨0,rfl,hg04.trans hg45,λh=>by omega,λh=>by omega,λ_=>⟨_,⟨hB4.tb.grown hg5 (by simpa using n2),hB4.vb.grown hg5 (by simpa using n4),hB4.sb.grown hg5 (by simpa using n5),?_⟩,?_⟩⟩
  ·rw [<-e2,Tr.hasT,if_neg hc,if_pos hc0];exact hF5
  ·rw [<-e1,Tr.befT,if_neg hc,if_pos hc0];exact hm4.gr hg45
 have hc0:neg d (Jqh v a)≠0:=Jqk hc0;have hxd4:Ext w4 w4.drew:=(Ext.refl w4).drew;have hB4d:=hB4.ext hxd4;have hBn4:=(Jqb hBn hg04 hnbn).ext hxd4;refine ρ ?_;refine drN (λ_=>False) 10 [(0,0),(0,1),(0,2),(0,3),(0,4),(0,5),(1,6),(2,7)] (by kernel_rfl) ?_;refine ρn ?_;refine nld (Jjg (hB4d.sb.at (i:=0) rfl) (λe=>e)) ?_;refine ρn ?_;refine nld (Jjg (hBn4.at (i:=3) rfl) (λe=>e)) ?_;refine ρn ?_;refine nop ?_;refine cl (Jkn (hm4.ext hxd4).1 ((hwn.gr hg04).ext hxd4).1 (hb.le (by omega)).len (hb.le (by omega)).len) ?_;rintro us2 w5 ⟨hus2,hfr2,hx5⟩;refine ρ ?_;refine Jql (GrN.ext hx5) ?_;refine ρn ?_;refine Jkm ?_;obtain ⟨A5,c5,rfl,hc5,_⟩:=id hus2;refine stb1 (hB4d.ext hx5).sb ?_ rfl;intro w6 hS6 hg6 hx6;refine ρ ?_;have hB5:=hB4d.ext hx5;have hm5:NatX (λk=>k=bS∨k=bF) w5 (.slice A5 (Jjf (m+l.sum+x)).length c5) (m+l.sum+x):=hfr2.x hus2 λk hk=>Nat.lt_of_lt_of_le (hNw k hk) (Nat.le_trans hx3.size (hg34.trans (GrN.ext hxd4)).size)
 have hg56:GrN (λk=>k=bS∨k=bF) w5 w6:=GrN.by hg6 λk hk=>.inl (by injection hk with hk;exact hk.symm)
 have hg06:GrN (λk=>k=bS∨k=bF) w w6:=((hg04.trans (GrN.ext hxd4)).trans (GrN.ext hx5)).trans hg56;refine Jjq ⟨neg d (Jqh v a),rfl,hg06,λh=>by omega,λh=>⟨_,m+l.sum+x,⟨hB5.tb.grown hg6 (by simpa using n1),hB5.vb.grown hg6 (by simpa using n3),hS6,hB5.fb.grown hg6 (by simpa using n5.symm)⟩,hm5.gr hg56,?_,?_,by omega⟩,λh=>by omega⟩
 ·rw [<-e1,Tr.befT,if_neg hc,if_neg hc0];omega
 ·rw [<-e2,Tr.hasT,if_neg hc,if_neg hc0]
end Go.Proofs.YtefpailelagbkaaGreatDoor
namespace Go.Wk
theorem finC4{P:Program}{n:Nat}{al:AL}{w:World}{tt:TT}[h:Tab P tt]{fn:Func}{Φ:Value->World->Prop}{c t t1 t2 t3 b:Nat}{k:TK}{cs:List Value}{x y z:Value}(hb:Blk w b t cs)(hp:Φ (.tuple #[.agg cs.toArray,x,y,z]) w)(hr:fn.results = #[.cell c t,.tmp t1,.tmp t2,.tmp t3]:=by rfl)(ht:tk tt t=some k:=by rfl)(hk:k.desc=.invalid:=by rfl)(hs:k.size=cs.length:=by rfl)(hc:lk al c=some (.pointer (some ⟨b,0,none⟩)):=by rfl)(h1:lk al t1=some x:=by rfl)(h2:lk al t2=some y:=by rfl)(h3:lk al t3=some z:=by rfl):
  QX n (Body P fn Φ) .ret al w :=
 doneR (rs:=[.cell c t,.tmp t1,.tmp t2,.tmp t3]) (vs:=[.agg cs.toArray,x,y,z]) hr ⟨⟨_,hc,Jwr h.ok ht hk hs (λj u hu=>hb.at hu)⟩,h1,h2,h3,trivial⟩ rfl hp
end Go.Wk
namespace Go.Proofs.YtefpailelagbkaaGreatDoor
open Go.RowKit Pl Go.Wk
attribute [local irreducible] WC WL QX WD WDB WP WN WG
theorem zNat: Jxd Tryz.prog 32=some (.slice none 0 0):=by kernel_rfl
theorem zBool: Jxd Tryz.prog 4=some (.bool false):=by kernel_rfl
theorem before_any{N:Nat->Prop}{w:World}{d:Bool}{p:Value}{t:Tr}{v:V}(h:TrV N w t p)(hb:Nb t.sum)(hs:t.sz<=1000000):
  Ret Tryz.prog 63 [.agg #[.bool d,p],v.val] w λu w'=>∃ sv,∃ k:Nat,u=.tuple #[sv,.bool (Tr.hasT d v t),.int .i64 (k:Int)]/\k<=t.ht/\NatV w' sv (Tr.befT d v t)/\Ext w w':=by
 obtain ⟨q,rfl⟩:=h.ptr;refine Jjb Tryz.func63 Tryz.ntmps63 rfl (by kernel_rfl) rfl ?_;refine ρ ?_;refine bx (cs:=[.bool d,.pointer q]) ?_;intro w1 bT hx1 hbT hT;refine ρ ?_;refine bx (cs:=v.cells) ?_;intro w2 bV hx2 hbV hV;refine ρ ?_;refine alc (cs:=[.slice none 0 0]) zNat ?_;intro w3 bS hx3 hbS hS;refine ρ ?_;refine alc (cs:=[.bool false]) zBool ?_;intro w4 bF hx4 hbF hF;refine ρ ?_;refine stb1 hF ?_ rfl;intro w5 hF5 hg5 hx5;have lT:=hT.lt;have lV:=hV.lt;have lS:=hS.lt;have s12:=hx2.size;have s23:=hx3.size;have s34:=hx4.size;have nT:bT≠bS/\bT≠bF/\bV≠bS/\bV≠bF/\bS≠bF:=⟨by omega,by omega,by omega,by omega,by omega⟩;obtain ⟨n1,n2,n3,n4,n5⟩:=nT;have hx35:Ext w3 w5:=hx5 w3 hx4 hbF;have hx05:Ext w w5:=((hx1.trans hx2).trans hx3).trans hx35;have hT5:=((hT.ext hx2).ext hx3).ext hx35;have hV5:=(hV.ext hx3).ext hx35;have hS5:=hS.ext hx35;have s01:=hx1.size;have hN:TrV (λk=>k=bS∨k=bF) w5 t (.pointer q):=(h.old (N':=λk=>k=bS∨k=bF) λk hk=>.inr (by rcases hk with rfl|rfl<;>omega)).ext hx05
 have hht:=Tr.ht_le t;refine ρ ?_;refine lds (cs:=[.bool d,.pointer q]) (λj u hu=>hT5.at hu) ?_;refine ρ ?_;refine cl (walk_any (N:=λk=>k=bS∨k=bF) (J:=BefJ bT bV bS bF d q v t) (D:=BefD bT bV bS bF d q v t) hN ⟨_,0,⟨hT5,hV5,hS5,hF5⟩,NatX.nil _,by omega,rfl,by omega⟩ (by omega) ?_ ?_ (before1_any ⟨n1,n2,n3,n4,n5⟩ hb)) ?_
 ·rintro s w w' ⟨sv,m,a1,a2,a3,a4,a5⟩ hx;exact ⟨sv,m,a1.ext hx,a2.ext hx,a3,a4,a5⟩
 ·rintro w ⟨sv,m,a1,a2,a3,a4,a5⟩;simp only [Tr.befT,Tr.hasT,Nat.add_zero]at a3 a4;refine ⟨sv,?_,?_⟩
  ·rw [<-a4];exact a1
  ·rw [<-a3];exact a2
 rintro z w6 ⟨⟨k,rfl,hk⟩,⟨sv,hB6,hn6⟩,hg6⟩;have hx06:Ext w w6:=hg6.old hx05 λk hk=>by rcases hk with rfl|rfl<;>omega
 have hxd:Ext w6 w6.drew:=(Ext.refl w6).drew;have hB6d:=hB6.ext hxd;refine ρ ?_;refine dr [(0,0),(0,1),(0,2),(0,3),(0,4),(0,5)] (by kernel_rfl) ?_;refine ρd ?_;refine dld (hB6d.sb.at (i:=0) rfl) ?_;refine ρd ?_;refine dld (hB6d.fb.at (i:=0) rfl) ?_;refine ρd ?_;refine ρ ?_;exact fin3 ⟨sv,k,rfl,hk,(hn6.ext hxd).1,hx06.trans hxd⟩
structure FndB(bS bK bV bR:Nat)(w:World)(sv kv:Value)(v:V): Prop where
 sb:Blk w bS 32 [sv]
 kb:Blk w bK 32 [kv]
 vb:Blk w bV 71 v.cells
 rb:Blk w bR 71 V0.cells
theorem FndB.ext{bS bK bV bR:Nat}{w w':World}{sv kv:Value}{v:V}(h:FndB bS bK bV bR w sv kv v)(hx:Ext w w'): FndB bS bK bV bR w' sv kv v:=⟨h.sb.ext hx,h.kb.ext hx,h.vb.ext hx,h.rb.ext hx⟩
def FndJ(bS bK bV bR:Nat)(kv:Value)(k:Nat)(t:Tr)(s:Tr)(w:World): Prop :=
 ∃ sv m v,FndB bS bK bV bR w sv kv v/\NatX (λj=>j=bS∨j=bV∨j=bR) w sv m/\NatX (λj=>j=bS∨j=bV∨j=bR) w kv k/\m<=k/\k<m+s.sum/\m+s.sum<=t.sum/\Tr.findT k t=((Tr.findT (k-m) s).1,m+(Tr.findT (k-m) s).2)
def FndD(bS bK bV bR:Nat)(kv:Value)(k:Nat)(t:Tr)(w:World): Prop :=
 ∃ sv,FndB bS bK bV bR w sv kv (Tr.findT k t).1/\NatX (λj=>j=bS∨j=bV∨j=bR) w sv (Tr.findT k t).2
theorem cmpN_lt{a b:Nat}: cmpN a b<0↔a<b:=by
 unfold cmpN;split
 ·omega
 ·split<;>omega
theorem find1_any{bS bK bV bR k:Nat}{kv:Value}{t:Tr}(hne:bS≠bK/\bS≠bV/\bK≠bV/\bS≠bR/\bV≠bR)(hb:Nb t.sum):
  ∀ l a x r u w,TrV (λj=>j=bS∨j=bV∨j=bR) w (.node l a x r) u->FndJ bS bK bV bR kv k t (.node l a x r) w ->
  Ret Tryz.prog 105 ((#[]:Array Value).toList++[u]++(#[.pointer (some ⟨bS,0,none⟩),.pointer (some ⟨bK,0,none⟩),.pointer (some ⟨bV,0,none⟩)]:Array Value).toList) w λz w'=>∃ c,z=.int .i64 c/\GrN (λj=>j=bS∨j=bV∨j=bR) w w'/\(c<0->FndJ bS bK bV bR kv k t l w')/\(0<c->FndJ bS bK bV bR kv k t r w')/\(c=0->FndD bS bK bV bR kv k t w'):=by
 obtain ⟨n1,n2,n3,n4,n5⟩:=hne;rintro l a x r u w hs ⟨sv,m,v,hB,hm,hk,e1,e2,e3,e4⟩;obtain ⟨bn,wn,pl,pr,sn,rfl,⟨hBn,hnbn⟩,hwn,hsn,hl,hr⟩:=id hs;obtain ⟨ql,rfl⟩:=hl.ptr;obtain ⟨qr,rfl⟩:=hr.ptr;simp only [Tr.sum]at e2 e3;refine Jjb Tryz.func105 Tryz.ntmps105 rfl (by kernel_rfl) rfl ?_;refine ρ ?_;have hxd:Ext w w.drew:=(Ext.refl w).drew;have hBd:=hB.ext hxd;have hBnd:=hBn.ext hxd;refine dr [(0,0),(0,1),(0,2),(0,3),(0,4),(1,5),(1,6),(0,7)] (by kernel_rfl) ?_;refine ρd ?_;refine dld (hBd.sb.at (i:=0) rfl) ?_;refine ρd ?_;refine dld (hBnd.at (i:=4) rfl) ?_;refine ρd ?_;refine dcl (Jvn (hl.ext hxd)) ?_;rintro ul w1 ⟨hul,rfl⟩;refine ⟨Ext.refl _,?_⟩;refine ρd ?_;refine dcl (Jkn (hm.ext hxd).1 hul.1 (hb.le (by omega)).len (hb.le (by omega)).len) ?_;rintro us w2 ⟨hus,hfr,hx2⟩;refine ⟨hx2,?_⟩;refine ρd ?_;have hx02:=hxd.trans hx2;have hB2:=hB.ext hx02;refine ρ ?_;refine ld (hB2.kb.at (i:=0) rfl) ?_
 refine ρ ?_;refine cl (Jwp (hk.ext hx02).1 hus) ?_;rintro u w3 ⟨rfl,hx3⟩;have hx03:=hx02.trans hx3;have hB3:=hB2.ext hx3;have hNw:∀ j,(j=bS∨j=bV∨j=bR)->j<w.drew.heap.size:=λj hj=>hj.elim (λe=>by rw [e];exact hBd.sb.lt) (λe=>e.elim (λe=>by rw [e];exact hBd.vb.lt) (λe=>by rw [e];exact hBd.rb.lt));have hus3:NatX (λj=>j=bS∨j=bV∨j=bR) w3 us (m+l.sum):=hfr.x (hus.ext hx3) hNw;refine ρ ?_;refine ci (λhc=>?_) (λhc=>?_)
 ·have hc:k<m+l.sum:=cmpN_lt.1 (of_decide_eq_true hc);refine ρ ?_;refine Jjq ⟨-1,rfl,GrN.ext hx03,λ_=>⟨sv,m,v,hB3,hm.ext hx03,hk.ext hx03,e1,hc,by omega,?_⟩,λh=>by omega,λh=>by omega⟩;rw [e4,Tr.findT,if_pos (by omega)]
 have hc:¬ k<m+l.sum:=λh=>of_decide_eq_false hc (cmpN_lt.2 h);refine ρ ?_;refine ld ((hBn.ext hx03).at (i:=3) rfl) ?_;refine ρ ?_;refine cl (Jkn hus3.1 (hwn.ext hx03).1 (hb.le (by omega)).len (hb.le (by omega)).len) ?_;rintro ua w4 ⟨hua,hfa,hx4⟩;have hB4:=hB3.ext hx4;refine ρ ?_;refine ld (hB4.kb.at (i:=0) rfl) ?_;refine ρ ?_;refine cl (Jwp ((hk.ext hx03).ext hx4).1 hua) ?_;rintro u w5 ⟨rfl,hx5⟩;have hx05:=(hx03.trans hx4).trans hx5;have hB5:=hB4.ext hx5;have hua5:NatX (λj=>j=bS∨j=bV∨j=bR) w5 ua (m+l.sum+x):=hfa.x (hua.ext hx5) λj hj=>Nat.lt_of_lt_of_le (hNw j hj) (hx2.trans hx3).size;obtain ⟨A1,c1,ea,_⟩:=id hua5.1;obtain ⟨A2,c2,es,_⟩:=id hus3.1;have oa:ua.oneCell'=true:=by rw [ea];rfl
 have os:us.oneCell'=true:=by rw [es];rfl
 refine ρ ?_;refine ci (λhc2=>?_) (λhc2=>?_)
 ·have hc2:m+l.sum+x<=k:=by
   have:=of_decide_eq_true hc2;rcases Nat.lt_or_ge k (m+l.sum+x) with h|h
   ·have:=cmpN_lt.2 h;omega
   ·exact h
  refine ρ ?_;refine stb1 hB5.sb ?_ oa;intro w6 hS6 hg6 hx6;refine ρ ?_;have hg56:GrN (λj=>j=bS∨j=bV∨j=bR) w5 w6:=GrN.by hg6 λj hj=>.inl (by injection hj with hj;exact hj.symm)
  refine Jjq ⟨1,rfl,(GrN.ext hx05).trans hg56,λh=>by omega,λ_=>⟨ua,m+l.sum+x,v,⟨hS6,hB5.kb.grown hg6 (by simpa using n1.symm),hB5.vb.grown hg6 (by simpa using n2.symm),hB5.rb.grown hg6 (by simpa using n4.symm)⟩,hua5.gr hg56,(hk.ext hx05).gr hg56,hc2,by omega,by omega,?_⟩,λh=>by omega⟩;rw [e4,Tr.findT,if_neg (by omega),if_pos (by omega),show k-m-(l.sum+x)=k-(m+l.sum+x) by omega];simp only [Prod.mk.injEq,true_and];omega
 have hc2:k<m+l.sum+x:=by
  rcases Nat.lt_or_ge k (m+l.sum+x) with h|h
  ·exact h
  ·exact absurd (Int.not_lt.1 λh'=>by have:=cmpN_lt.1 h';omega) (of_decide_eq_false hc2)
 have e5:Tr.findT k t=(a,m+l.sum):=by rw [e4,Tr.findT,if_neg (by omega),if_neg (by omega)]
 refine ρ ?_;refine lds (cs:=a.cells) (Blk.pre (cs:=a.cells) (hBn.ext hx05)) ?_;refine ρ ?_;refine stb (cs':=a.cells) hB5.vb ?_ (V.one a);intro w6 hV6 hg6 hx6;refine ρ ?_;refine stb1 (hB5.sb.grown hg6 (by simpa using n2)) ?_ os;intro w7 hS7 hg7 hx7;refine ρ ?_;have hg56:GrN (λj=>j=bS∨j=bV∨j=bR) w5 w6:=GrN.by hg6 λj hj=>.inr (.inl (by injection hj with hj;exact hj.symm))
 have hg67:GrN (λj=>j=bS∨j=bV∨j=bR) w6 w7:=GrN.by hg7 λj hj=>.inl (by injection hj with hj;exact hj.symm)
 refine Jjq ⟨0,rfl,((GrN.ext hx05).trans hg56).trans hg67,λh=>by omega,λh=>by omega,λ_=>⟨us,⟨hS7,(hB5.kb.grown hg6 (by simpa using n3)).grown hg7 (by simpa using n1.symm),?_,(hB5.rb.grown hg6 (by simpa using n5.symm)).grown hg7 (by simpa using n4.symm)⟩,?_⟩⟩
 ·rw [e5];exact hV6.grown hg7 (by simpa using n2.symm)
 ·rw [e5];exact (((hus3.ext hx4).ext hx5).gr hg56).gr hg67
theorem find_any{N:Nat->Prop}{w:World}{d:Bool}{p kv:Value}{t:Tr}{k:Nat}(h:TrV N w t p)(hkv:NatV w kv k)(hk:k<t.sum)(hb:Nb t.sum)(hs:t.sz<=1000000):
  Ret Tryz.prog 67 [.agg #[.bool d,p],kv] w λu w'=>∃ sv,∃ n:Nat,u=.tuple #[(Tr.findT k t).1.val,sv,.int .i64 (n:Int),.int .i64 0]/\n<=t.ht/\NatV w' sv (Tr.findT k t).2/\Ext w w':=by
 obtain ⟨q,rfl⟩:=h.ptr;obtain ⟨Ak,ck,ek,_⟩:=id hkv;refine Jjb Tryz.func67 Tryz.ntmps67 rfl (by kernel_rfl) rfl ?_;refine ρ ?_;refine bx (cs:=[.bool d,.pointer q]) ?_;intro w1 bT hx1 hbT hT;refine ρ ?_;refine bx (cs:=[kv]) ?_ (hv:=by rw [ek];rfl);intro w2 bK hx2 hbK hK;refine ρ ?_;refine alc (cs:=V0.cells) zVal ?_;intro w3 bR hx3 hbR hR;have hx03:=(hx1.trans hx2).trans hx3;have hxd:Ext w3 w3.drew:=(Ext.refl w3).drew;have hx0d:=hx03.trans hxd;have hT3:=(hT.ext hx2).ext hx3;have hK3:=hK.ext hx3;refine ρ ?_;refine dr [(0,0),(0,1),(0,2),(1,3),(1,4),(0,5)] (by kernel_rfl) ?_;refine ρd ?_;refine dld ((hK3.ext hxd).at (i:=0) rfl) ?_;refine ρd ?_;refine dld ((hT3.ext hxd).at (i:=1) rfl) ?_;refine ρd ?_;refine dcl (Jvn (h.ext hx0d)) ?_;rintro ut w4 ⟨hut,rfl⟩;refine ⟨Ext.refl _,?_⟩;refine ρd ?_;refine dcl (Jwp (hkv.ext hx0d) hut.1) ?_;rintro u w4 ⟨rfl,hx4⟩;refine ⟨hx4,?_⟩;refine ρd ?_
 have hxc:¬ (0<=cmpN k t.sum):=Int.not_le.2 (cmpN_lt.2 hk);refine ρ ?_;refine cf (decide_eq_false hxc) ?_;have hx04:=hx0d.trans hx4;refine ρ ?_;refine alc (cs:=V0.cells) zVal ?_;intro w5 bV hx5 hbV hV;refine ρ ?_;refine alc (cs:=[.slice none 0 0]) zNat ?_;intro w6 bS hx6 hbS hS;have lT:=hT.lt;have lK:=hK.lt;have lR:=hR.lt;have lV:=hV.lt;have s01:=hx1.size;have s12:=hx2.size;have s23:=hx3.size;have s34:=(hxd.trans hx4).size;have s45:=hx5.size;have s56:=hx6.size;have n1:bS≠bK:=by omega
 have n2:bS≠bV:=by omega
 have n3:bK≠bV:=by omega
 have n4:bS≠bR:=by omega
 have n5:bV≠bR:=by omega
 have hx36:Ext w3 w6:=((hxd.trans hx4).trans hx5).trans hx6;have hx06:Ext w w6:=hx03.trans hx36;have hT6:=hT3.ext hx36;have hK6:=hK3.ext hx36;have hV6:=hV.ext hx6;have hN:TrV (λk=>k=bS∨k=bV∨k=bR) w6 t (.pointer q):=(h.old (N':=λk=>k=bS∨k=bV∨k=bR) λk hk=>.inr (by rcases hk with rfl|rfl|rfl<;>omega)).ext hx06;have hkn:NatX (λk=>k=bS∨k=bV∨k=bR) w kv k:=NatX.old (N:=λ_=>False) ⟨hkv,λ_ _ _ _ _ h=>h⟩ λk hk=>.inr (by rcases hk with rfl|rfl|rfl<;>omega);have hht:=Tr.ht_le t;refine ρ ?_;refine lds (cs:=[.bool d,.pointer q]) (λj u hu=>hT6.at hu) ?_;refine ρ ?_;refine cl (walk_any (N:=λk=>k=bS∨k=bV∨k=bR) (J:=FndJ bS bK bV bR kv k t) (D:=FndD bS bK bV bR kv k t) hN ⟨_,0,V0,⟨hS,hK6,hV6,hR.ext hx36⟩,NatX.nil _,hkn.ext hx06,by omega,by omega,by omega,by simp⟩ (by omega) ?_ ?_ (find1_any ⟨n1,n2,n3,n4,n5⟩ hb)) ?_
 ·rintro s w w' ⟨sv,m,v,a1,a2,a3,a4⟩ hx;exact ⟨sv,m,v,a1.ext hx,a2.ext hx,a3.ext hx,a4⟩
 ·rintro w ⟨sv,m,v,a1,a2,a3,a4,a5,_⟩;simp only [Tr.sum]at a5;omega
 rintro z w7 ⟨⟨n,rfl,hn⟩,⟨sv,hB7,hn7⟩,hg7⟩;have hx07:Ext w w7:=hg7.old hx06 λk hk=>by rcases hk with rfl|rfl|rfl<;>omega
 refine ρ ?_;refine drN (λk=>k=bR) 10 [(0,0),(0,1),(0,2),(1,3),(0,4),(0,5),(0,6)] (by kernel_rfl) ?_;have hxe:Ext w7 w7.drew:=(Ext.refl w7).drew;have hBe:=hB7.ext hxe;refine ρn ?_;refine nlds (cs:=(Tr.findT k t).1.cells) (λw' hg j u hu=>(Jqb hBe.vb hg n5).at hu) ?_;refine ρn ?_;refine nld (Jjg (hBe.sb.at (i:=0) rfl) n4) ?_;refine ρn ?_;refine nop ?_;refine stb (cs':=(Tr.findT k t).1.cells) (hB7.rb.ext hxe) ?_ (V.one _);intro w8 hR8 hg8 hx8;refine ρ ?_;refine Jql (GrN.by hg8 λj hj=>by injection hj with hj;exact hj.symm) ?_;refine ρn ?_;refine ρ ?_;have hg8':GrN (λk=>k=bS∨k=bV∨k=bR) w7.drew w8:=GrN.by hg8 λj hj=>.inr (.inr (by injection hj with hj;exact hj.symm))
 exact finC4 hR8 ⟨sv,n,rfl,hn,((hn7.ext hxe).gr hg8').1,hx8 w (hx07.trans hxe) (Nat.le_trans (hx1.trans hx2).size hbR)⟩
end Go.Proofs.YtefpailelagbkaaGreatDoor
namespace Go.Wk
open Maps
theorem dmlk{P:Program}{n:Nat}{al:AL}{w:World}{Q:Exit->Act->World->Prop}{ops:Array Oper}{drest:List (Nat×Oper)}{d ty:Nat}{pos:String}{aft:Array Edge}{tt:TT}[hT:Tab P tt]{t k e b m:Nat}{kd:TK}{f:Lit->Option Value}{x y:Operand}{key z:Value}{kl:Lit}(K:Keyed P k)(hM:MapS P k w b m f)(hz:Jxd P e=some z)(hkey:keyOf P k key=some kl)(kk:WD P n ops Q drest ((d,(f kl).getD z)::al) w)(ht:tk tt t=some kd:=by rfl)(hk:kd.desc=.map k e:=by rfl)(hx:ev al x=some (.map (some b)):=by rfl)(hy:ev al y=some key:=by rfl)(hd:Nat.blt d n=true:=by rfl):
  WD P n ops Q ((0,⟨some d,.lookup t x y false,ty,pos,aft,none⟩)::drest) al w :=
 dy (λw' hw a ha=>by
  have:=((hM.ext hw).look K (tk_is hT.ok ht hk rfl) (run_zeroV hz w') hkey).2;simp [execOp,ha.ev hx,ha.ev hy,this]) hd kk
end Go.Wk
namespace Go.Proofs.YtefpailelagbkaaGreatDoor
open Go.RowKit Pl Go.Wk
attribute [local irreducible] WC WL QX WD WDB WP WN WG
theorem Jwx{w w':World}(hx:Ext w w'){p:Addr}{u:Value}(h:w.cell? p=some u): w'.cell? p=some u:=by
 have hlt:p.block<w.heap.size:=by
  rcases Nat.lt_or_ge p.block w.heap.size with h1|h1
  ·exact h1
  ·unfold World.cell? at h;rw [Array.getElem?_eq_none h1]at h;simp at h
 rw [hx.cell hlt];exact h
theorem KS: Maps.Keyed Tryz.prog 9:=Maps.string_keyed Tryz.underlying9
def FitR(r:Row): Prop:=r.length<=32/\∀ v∈r,fitI v/\v.bytes.length<=24
theorem FitR.len{r:Row}(h:FitR r): (idn r).length<=2880:=by have:=idn_len h.2;have:=h.1;omega
theorem FitR.pm{r:Row}{cs:List Nat}(h:FitR r)(hc:∀ c∈cs,c<r.length)(hl:cs.length<=32): FitR (pmR cs r) :=
 ⟨by rw [Jqz];exact hl,λv hv=>by
  obtain ⟨c,h1,rfl⟩:=List.mem_map.1 hv;exact h.2 _ (getD_mem' V0 r (hc c h1))⟩
theorem Qqp{r:Row}(h:FitR r): keyOf Tryz.prog 9 (.string (str (idn r)))=some (.string (idn r)) :=
 WideMaps.keyOf_string_mk Tryz.underlying9 (by have:=h.len;show (idn r).toArray.size<=maxLen;rw [List.size_toArray];unfold maxLen;omega)
def ChG(w:World)(cs:List Value)(p:Nat×List Nat): Prop:=∃ A c,cs=[.int .i64 (p.1:Int),.slice A p.2.length c]/\p.2.length<=c/\p.2.length<=32/\Rd w 1 A p.2.length (Jzx (nz p.2))
def DnV(AR:Nat->Prop)(T:Row->Nat)(w:World)(x:Value): Prop:=∃ mb m fm,x=.map (some mb)/\m<=1000000/\(MapS Tryz.prog 9 w mb m fm/\¬ AR mb)/\(∀ k:Row,fm (.string (idn k))=if 0<T k then some (.bool true) else none)/\∀ kl,fm kl≠none->∃ k:Row,kl=.string (idn k)
def DnT(AR:Nat->Prop)(T:Row->Nat)(w:World)(x:Value): Prop:=∃ mb m fm,x=.map (some mb)/\m<=1000000/\(MapS Tryz.prog 9 w mb m fm/\¬ AR mb)/\∀ k:Row,(fm (.string (idn k))=none/\T k=0)∨∃ y,fm (.string (idn k))=some y/\0<T k/\NatX AR w y (T k)
theorem DnV.gr{AR:Nat->Prop}{T:Row->Nat}{w w':World}{x:Value}(h:DnV AR T w x)(hg:GrN AR w w'): DnV AR T w' x:=by
 obtain ⟨mb,m,fm,h1,h2,⟨h3,h4⟩,h5⟩:=h;exact ⟨mb,m,fm,h1,h2,⟨h3.gr hg h4,h4⟩,h5⟩
theorem DnT.gr{AR:Nat->Prop}{T:Row->Nat}{w w':World}{x:Value}(h:DnT AR T w x)(hg:GrN AR w w'): DnT AR T w' x:=by
 obtain ⟨mb,m,fm,h1,h2,⟨h3,h4⟩,h5⟩:=h;refine ⟨mb,m,fm,h1,h2,⟨h3.gr hg h4,h4⟩,λk=>?_⟩;rcases h5 k with h6|⟨y,h6,h7,h8⟩
 ·exact .inl h6
 ·exact .inr ⟨y,h6,h7,h8.gr hg⟩
def wtL(T:Nat->Row->Nat)(x:Row): List (Nat×List Nat)->Nat
 | []=>1
 | p::l=>T p.1 (pmR p.2 x)*wtL T x l
theorem wtL_app(T:Nat->Row->Nat)(x:Row): ∀ l m,wtL T x (l++m)=wtL T x l*wtL T x m
 | [],m=>by rw [List.nil_append,wtL,Nat.one_mul]
 | p::l,m=>by rw [List.cons_append,wtL,wtL,wtL_app T x l m,Nat.mul_assoc]
theorem wtL_zero{T:Nat->Row->Nat}{x:Row}{l:List (Nat×List Nat)}{p:Nat×List Nat}(hp:p∈l)(h0:T p.1 (pmR p.2 x)=0): wtL T x l=0:=by
 obtain ⟨a,b,rfl⟩:=List.append_of_mem hp;rw [wtL_app,wtL,h0,Nat.zero_mul,Nat.mul_zero]
theorem wtL_le{T:Nat->Row->Nat}{x:Row}: ∀ {l:List (Nat×List Nat)},(∀ p∈l,T p.1 (pmR p.2 x)<=4294967296^20)->wtL T x l<=(4294967296^20)^l.length
 | [],_=>by simp [wtL]
 | p::l,h=>by
  rw [wtL,List.length_cons,Nat.pow_succ,Nat.mul_comm];exact Nat.mul_le_mul (wtL_le λq hq=>h q (List.mem_cons_of_mem _ hq)) (h p List.mem_cons_self)
theorem Nb.pow{n k:Nat}(h:n<=(4294967296^20)^k)(hk:k<=32): Nb n:=by
 refine Nat.lt_of_le_of_lt h ?_;rw [<-Nat.pow_mul];exact Nat.pow_lt_pow_right (by decide) (by rw [bK_eq];omega)
theorem zChild: Jxd Tryz.prog 239=some (.agg #[.int .i64 0,.slice none 0 0]):=by kernel_rfl
theorem one_child{a:Int}{A:Option Addr}{n c:Nat}: ∀ u∈[Value.int .i64 a,.slice A n c],u.oneCell'=true:=λu hu=>by
 simp only [List.mem_cons,List.not_mem_nil,or_false]at hu;rcases hu with rfl|rfl<;>rfl
theorem Jxv(n:Nat)(h:n<18446744073709551616)(w:World): Ret Tryz.prog 18 [.int .u64 (n:Int)] w λv w'=>NatV w' v n/\Fresh w v/\Ext w w':=by
 refine Jjb Tryz.func18 Tryz.ntmps18 rfl (by kernel_rfl) rfl ?_;refine ρ ?_;refine wshr rfl rfl (by decide) rfl ?_;refine ρ ?_;refine bsl (bsN _ _) ?_;intro w1 b hx1 hb1 hk1;rw [u32lo,u32hi]at hk1;have hr:Rd w1 1 (some ⟨b,0,none⟩) 2 (Nc [UInt32.ofNat n,UInt32.ofNat (n / 4294967296)]):=hk1.rd rfl;refine ρ ?_;refine cl (Jyc (l:=[UInt32.ofNat n,UInt32.ofNat (n / 4294967296)]) (c:=2) hr (Nat.le_refl _) (by simp)) ?_;rintro v w2 ⟨rfl,rfl⟩;have:=trim_rd hr (by simp);rw [val_two n h]at this ⊢;refine ρ ?_;exact Jjq ⟨this,λad _ _ e=>by injection e with e;injection e with e;subst e;exact hb1,hx1⟩
theorem weight_any{B0:Nat}{AR:Nat->Prop}{T:Nat->Row->Nat}{w:World}{b f:Nat}{cs:List Value}{VA TA:Option Addr}{n cv ct:Nat}{va ta:List Value}{vch vx:Value}{chs:List (Nat×List Nat)}{x:Row}(hTB:TB B0 w)(hB:Blk w b 158 cs)(c1:cs[1]?=some (.int .i64 (f:Int)))(c7:cs[7]?=some (.slice VA n cv))(c8:cs[8]?=some (.slice TA n ct))(hV:Rd w 1 VA n va)(hTa:Rd w 1 TA n ta)(hch:GV 2 ChG w vch chs)(hlen:chs.length<=32)(hn:∀ p∈chs,p.1<n/\∀ c∈p.2,c<x.length)(hx:RowV w vx x)(hfit:FitR x)(hdv:∀ p∈chs,f<=p.1->DnV AR (T p.1) w (va.getD p.1 (.map none)))(hdt:∀ p∈chs,p.1<f->DnT AR (T p.1) w (ta.getD p.1 (.map none)))(hT1:∀ p∈chs,f<=p.1->∀ k,T p.1 k<=1)(hTb:∀ p∈chs,∀ k,T p.1 k<=4294967296^20):
  Ret Tryz.prog 127 [.pointer (some ⟨b,0,none⟩),vch,vx] w λu w'=>NatV w' u (wtL T x chs)/\Fresh w u/\Ext w w':=by
 obtain ⟨A,c,cc,rfl,hc1,hc2,hcR,hce⟩:=hch.parts;refine Jjb Tryz.func127 Tryz.ntmps127 rfl (by kernel_rfl) rfl ?_;refine ρ ?_;refine cl (Jxv 1 (by decide) _) ?_;rintro vp w1 ⟨hp1,hf1,hx1⟩;refine ρ ?_;refine Jjv (fun (i:Nat) (vp:Value)=>[(0,.pointer (some ⟨b,0,none⟩)),(2,vx),(7,vp),(12,.slice A chs.length c),(13,.int .i64 (chs.length:Int)),(14,.int .i64 (i:Int))])
  (λi vp w'=>i<=chs.length/\Ext w w'/\NatV w' vp (wtL T x (chs.take i))/\Fresh w vp) (λi _=>chs.length-i) 0 vp sB
  ⟨Nat.zero_le _,hx1,by rw [List.take_zero];exact hp1,hf1⟩ ?_
 rintro i vp w2 ⟨hi,hx2,hp2,hf2⟩;refine ρ ?_;refine ci (λh=>?_) (λh=>?_)
 ·have li:i<chs.length:=by have:=of_decide_eq_true h;omega
  clear h;obtain ⟨ce,hcl,⟨CA,cC,rfl,hcC,hcC2,hCR⟩,hcell⟩:=hce i li;have hmem:chs[i]∈chs:=List.getElem_mem li;have hpk:wtL T x (chs.take (i+1))=wtL T x (chs.take i)*T chs[i].1 (pmR chs[i].2 x):=by
   rw [List.take_succ_eq_append_getElem li,wtL_app,wtL,wtL,Nat.mul_one]
  have hle:wtL T x (chs.take i)<=(4294967296^20)^i:=by
   have:=wtL_le (T:=T) (x:=x) (l:=chs.take i) λp hp=>hTb p (List.mem_of_mem_take hp) _;rw [List.length_take,Nat.min_eq_left hi]at this;exact this
  have hnb:Nb (wtL T x (chs.take i)):=Nb.pow hle (by omega);have hTq:Nb (T chs[i].1 (pmR chs[i].2 x)):=Nb.pow (k:=1) (by rw [Nat.pow_one];exact hTb _ hmem _) (by omega);generalize hq:chs[i]=q at *
  obtain ⟨ch,cols⟩:=q;simp only at hcC hcC2 hCR hcell hpk hTq;have hn1:=hn _ hmem;simp only at hn1;refine ρ ?_;refine ixq 2 i (hcR.ext hx2) li ?_;refine ρ ?_;have hcell2:∀ j u,([.int .i64 (ch:Int),.slice CA cols.length cC]:List Value)[j]?=some u->w2.cell? ((adr A (i*2)).add j)=some u:=λj u hu=>Jwx hx2 (hcell j u hu);refine lds (cs:=[.int .i64 (ch:Int),.slice CA cols.length cC]) hcell2 ?_;refine ρ ?_;refine alc (cs:=[.int .i64 0,.slice none 0 0]) zChild ?_;intro w3 bc hx3 hbc hBc;refine ρ ?_;refine stb (cs':=[.int .i64 (ch:Int),.slice CA cols.length cC]) hBc ?_ one_child;intro w4 hBc4 hg4 hx4;have hx24:Ext w2 w4:=hx4 w2 hx3 hbc;have hx04:=hx2.trans hx24;refine ρ ?_;refine ld (hBc4.at (i:=1) rfl) ?_;refine ρ ?_;refine cl (pick_any (cs:=cols) (hx.ext hx04) (hCR.ext hx04) hn1.2 (by omega)) ?_;rintro vk w5 ⟨hk5,hx5⟩;have hx05:=hx04.trans hx5;have hfk:FitR (pmR cols x):=hfit.pm hn1.2 hcC2;obtain ⟨KA,kc,rfl,hkc,hkm,hkR⟩:=id hk5
  refine ρ ?_;refine cl (Jzp (r:=pmR cols x) (hTB.ext hx05) hkR (λv hv=>(hfk.2 v hv).1) (by have:=hfk.len;omega) (by have:=hfk.1;omega)) ?_;rintro u w6 ⟨rfl,hx6⟩;have hx06:=hx05.trans hx6;have hxd:Ext w6 w6.drew:=(Ext.refl w6).drew;have hBcd:=((hBc4.ext hx5).ext hx6).ext hxd;have hBd:=hB.ext (hx06.trans hxd);refine ρ ?_;refine dr [(0,0),(0,1),(0,2),(0,3),(0,4),(0,5),(0,6),(0,7)] (by kernel_rfl) ?_;refine ρd ?_;refine dld (hBcd.at (i:=0) rfl) ?_;refine ρd ?_;refine dld (hBd.at (i:=1) c1) ?_;refine ρd ?_;refine ρ ?_;have hxd2:Ext w6 w6.drew.drew:=hxd.drew;have hx0e:=hx06.trans hxd2;refine ci (λh=>?_) (λh=>?_)
  ·have lf:ch<f:=by have:=of_decide_eq_true h;omega
   obtain ⟨mb,m,fm,e1,e2,⟨e3,e4⟩,e5⟩:=hdt _ hmem lf;simp only at e1 e5;have hta:ta[ch]?=some (.map (some mb)):=by
    rw [<-e1];have hl:=hTa.1;simp [List.getD,List.getElem?_eq_getElem (show ch<ta.length by omega)]
   refine ρ ?_;refine dr [(0,0),(0,1),(0,2),(0,3),(0,4),(0,5),(0,6),(0,7),(0,8),(0,9),(0,10),(1,11),(0,12)] (by kernel_rfl) ?_;refine ρd ?_;refine dld ((hB.ext hx0e).at (i:=8) c8) ?_;refine ρd ?_;refine dld ((((hBc4.ext hx5).ext hx6).ext hxd2).at (i:=0) rfl) ?_;refine ρd ?_;refine dix ch (hTa.ext hx0e) hn1.1 ?_;refine ρd ?_;refine dld ((hTa.ext hx0e).cell hta) ?_;refine ρd ?_;refine dmlk KS (e3.ext hx0e) zNat (Qqp hfk) ?_;have hval:NatV w6.drew.drew ((fm (.string (idn (pmR cols x)))).getD (.slice none 0 0)) (T ch (pmR cols x)):=by
    rcases e5 (pmR cols x) with ⟨h6,h7⟩|⟨y,h6,h7,h8⟩
    ·rw [h6,h7];exact NatV.nil _
    ·rw [h6];exact h8.1.ext hx0e
   refine ρd ?_;refine dcl (Qjr (hp2.ext ((hx24.trans hx5).trans hx6 |>.trans hxd2)) hval hnb.len hTq.len) ?_;rintro vr w7 ⟨hr7,hfr7,hx7⟩;refine ⟨hx7,?_⟩;refine ρd ?_;refine ρ ?_;refine Jjj (i+1) vr sO ⟨li,hx0e.trans hx7,?_,λad m c e=>Nat.le_trans hx0e.size (hfr7 ad m c e)⟩ (by omega);rw [hpk];exact hr7
  ·have lf:f<=ch:=by have:=of_decide_eq_false h;omega
   obtain ⟨mb,m,fm,e1,e2,⟨e3,e4⟩,e5,e6⟩:=hdv _ hmem lf;simp only at e1 e5;have hta:va[ch]?=some (.map (some mb)):=by
    rw [<-e1];have hl:=hV.1;simp [List.getD,List.getElem?_eq_getElem (show ch<va.length by omega)]
   refine ρ ?_;refine dr [(0,0),(0,1),(0,2),(0,3),(0,4),(0,5),(0,6),(0,7),(0,8),(0,9),(0,10)] (by kernel_rfl) ?_;refine ρd ?_;refine dld ((hB.ext hx0e).at (i:=7) c7) ?_;refine ρd ?_;refine dld ((((hBc4.ext hx5).ext hx6).ext hxd2).at (i:=0) rfl) ?_;refine ρd ?_;refine dix ch (hV.ext hx0e) hn1.1 ?_;refine ρd ?_;refine dld ((hV.ext hx0e).cell hta) ?_;refine ρd ?_;refine dmlk KS (e3.ext hx0e) zBool (Qqp hfk) ?_;rw [e5];by_cases h0:0<T ch (pmR cols x)
   ·rw [if_pos h0];have h1:=hT1 _ hmem lf (pmR cols x);simp only at h1;refine ρd ?_;refine ρ ?_;refine Jjj (i+1) vp sO ⟨li,hx0e,?_,hf2⟩ (by omega);rw [hpk,show T ch (pmR cols x)=1 by omega,Nat.mul_one];exact hp2.ext ((hx24.trans hx5).trans hx6 |>.trans hxd2)
   ·rw [if_neg h0];refine ρd ?_;refine ρ ?_;have hfn:Fresh w (.slice none 0 0):=λad m c e=>by cases e
    refine Jjq ⟨?_,hfn,hx0e⟩;rw [wtL_zero hmem (show T ch (pmR cols x)=0 by omega)];exact NatV.nil _
 have hi':i=chs.length:=by have:=of_decide_eq_false h;omega
 rw [hi',List.take_length]at hp2;refine ρ ?_;exact Jjq ⟨hp2,hf2,hx2⟩
end Go.Proofs.YtefpailelagbkaaGreatDoor
