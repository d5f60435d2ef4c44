/- Part 31. -/
import Derived.Test.YtebcagekopgdhaaGreatDoorB30
set_option linter.unusedVariables false
set_option maxRecDepth 100000
set_option maxHeartbeats 40000000
namespace Go.Proofs.YtebcagekopgdhaaGreatDoor
open Go.RowKit Pl Go.Wk
attribute [local irreducible] WC WL QX WD WDB WP WN WG
theorem Jhr{N:Nat->Prop}{J:Tr->World->Prop}{D:World->Prop}{fid:FuncId}{cap:Array Value}{d:Bool}{p:Value}{t:Tr}{w:World}(hp:TrV N w t p)(hj:J t w)(hht:t.ht<=1000000)(hx:∀ s w w',J s w->Ext w w'->J s w')(hnil:∀ w,J .nil w->D w)(hcall:∀ l v x r u w,TrV N w (.node l v x r) u->J (.node l v x r) w->Ret Tryz.prog fid ((#[]:Array Value).toList++[u]++cap.toList) w λz w'=>∃ c,z=.int .i64 c/\GrN N w w'/\(c<0->J l w')/\(0<c->J r w')/\(c=0->D w')):
  Ret Tryz.prog 151 [.agg #[.bool d,p],.func (.func fid) #[] cap] w λz w'=>(∃ k:Nat,z=.int .i64 (k:Int)/\k<=t.ht)/\D w'/\GrN N w w':=by
 obtain ⟨q,rfl⟩:=hp.ptr;refine Jz Tryz.func151 Tryz.ntmps151 rfl kr rfl ?_;refine ρ ?_;refine bx ?_;intro w1 b O hb hB;refine ρ ?_;refine ld (hB.at (i:=1) rfl) ?_;refine ρ ?_;refine Xr (fun (k:Nat) (s:Tr) (q:Option Addr)=>[(1,.func (.func fid) #[] cap),(5,.int .i64 (k:Int)),(6,.pointer q)])
  (λk s q w'=>k+s.ht<=t.ht/\TrV N w' s (.pointer q)/\J s w'/\GrN N w w') (λ_ s _=>s.sz) 0 t q sB
  ⟨om,hp.ext O,hx _ _ _ hj O,GrN.ext O⟩ ?_
 rintro k s q2 w2 ⟨hk,hs,a1,a2⟩;refine ρ ?_;cases s with
 | nil=>
  obtain rfl:q2=none:=by have:Value.pointer q2=.pointer none:=hs;injection this
  refine pnn ?_;refine ρ ?_;refine Jj ⟨⟨k,rfl,om⟩,hnil _ a1,a2⟩
 | node l v x r=>
  obtain ⟨bn,wn,pl,pr,sn,e,⟨a3,Z⟩,a8,a9,hl,hr⟩:=id hs;obtain rfl:q2=some ⟨bn,0,none⟩:=by injection e
  obtain ⟨ql,rfl⟩:=hl.ptr;obtain ⟨qr,rfl⟩:=hr.ptr;have a7:l.ht+1<=(Tr.node l v x r).ht:=by simp only [Tr.ht];omega
  have a6:r.ht+1<=(Tr.node l v x r).ht:=by simp only [Tr.ht];omega
  have a5:l.sz<(Tr.node l v x r).sz:=by simp only [Tr.sz];omega
  have a4:r.sz<(Tr.node l v x r).sz:=by simp only [Tr.sz];omega
  refine pnn ?_;refine ρ ?_;refine clv (hcall l v x r _ w2 hs a1) ?_;rintro z w3 ⟨c,rfl,C,k1,k2,k3⟩;have hg:=a2.trans C;have G:=Jd a3 C Z;refine ρ ?_;refine ci (λU=>?_) (λU=>?_)
  .have U:=oT U;refine ρ ?_;refine ld (G.at (i:=4) rfl) ?_;refine ρ ?_;exact Qa (k+1) l ql sO ⟨om,hl.gr C,k1 U,hg⟩ om
  have U:=oF U;refine ρ ?_;refine ci (λo=>?_) (λo=>?_)
  .have o:=oT o;refine ρ ?_;refine ld (G.at (i:=5) rfl) ?_;refine ρ ?_;exact Qa (k+1) r qr sO ⟨om,hr.gr C,k2 o,hg⟩ om
  have o:=oF o;refine ρ ?_;refine Jj ⟨⟨k+1,rfl,om⟩,k3 om,hg⟩
structure BefB(bT bV bS bF:Nat)(d:Bool)(q:Option Addr)(v:V)(w:World)(sv:Value)(f:Bool): Prop where
 tb:Blk w bT 138 [.bool d,.pointer q]
 vb:Blk w bV 47 v.cells
 sb:Blk w bS 29 [sv]
 fb:Blk w bF 4 [.bool f]
theorem BefB.ext{bT bV bS bF:Nat}{d:Bool}{q:Option Addr}{v:V}{w w':World}{sv:Value}{f:Bool}(h:BefB bT bV bS bF d q v w sv f)(hx:Ext w w'): BefB bT bV bS bF d q v w' sv f :=
 ⟨h.tb.ext hx,h.vb.ext hx,h.sb.ext hx,h.fb.ext hx⟩
def BefJ(bT bV bS bF:Nat)(d:Bool)(q:Option Addr)(v:V)(t:Tr)(s:Tr)(w:World): Prop :=
 ∃ sv m,BefB bT bV bS bF d q v w sv false/\NatX (λk=>k=bS∨k=bF) w sv m/\m+Tr.befT d v s=Tr.befT d v t/\Tr.hasT d v s=Tr.hasT d v t/\m+s.sum<=t.sum
def BefD(bT bV bS bF:Nat)(d:Bool)(q:Option Addr)(v:V)(t:Tr)(w:World): Prop :=
 ∃ sv,BefB bT bV bS bF d q v w sv (Tr.hasT d v t)/\NatX (λk=>k=bS∨k=bF) w sv (Tr.befT d v t)
theorem Qpf{bT bV bS bF:Nat}{d:Bool}{q:Option Addr}{v:V}{t:Tr}(hne:bT≠bS/\bT≠bF/\bV≠bS/\bV≠bF/\bS≠bF)(hb:Nb t.sum):
  ∀ l a x r u w,TrV (λk=>k=bS∨k=bF) w (.node l a x r) u->BefJ bT bV bS bF d q v t (.node l a x r) w ->
  Ret Tryz.prog 152 ((#[]:Array Value).toList++[u]++(#[.pointer (some ⟨bT,0,none⟩),.pointer (some ⟨bV,0,none⟩),.pointer (some ⟨bS,0,none⟩),.pointer (some ⟨bF,0,none⟩)]:Array Value).toList) w λz w'=>∃ c,z=.int .i64 c/\GrN (λk=>k=bS∨k=bF) w w'/\(c<0->BefJ bT bV bS bF d q v t l w')/\(0<c->BefJ bT bV bS bF d q v t r w')/\(c=0->BefD bT bV bS bF d q v t w'):=by
 obtain ⟨n1,n2,n3,n4,n5⟩:=hne;rintro l a x r u w hs ⟨sv,m,hB,hm,e1,e2,e3⟩;obtain ⟨bn,wn,pl,pr,sn,rfl,⟨ae,ak⟩,ax,bb,hl,hr⟩:=id hs;obtain ⟨ql,rfl⟩:=hl.ptr;obtain ⟨qr,rfl⟩:=hr.ptr;simp only [Tr.sum]at e3;refine Jz Tryz.func152 Tryz.ntmps152 rfl kr rfl ?_;refine ρ ?_;have ad:Ext w w.drew:=(Ext.refl w).drew;have av:=hB.ext ad;have aq:=ae.ext ad;refine dr [(0,0),(0,1),(0,2),(0,3),(0,4),(0,5),(0,6),(1,7),(0,8)] kr ?_;refine ρd ?_;refine Qk (cs:=[.bool d,.pointer q]) (λj u hu=>av.tb.at hu) ?_;refine ρd ?_;refine Qk (cs:=v.cells) (λj u hu=>av.vb.at hu) ?_;refine ρd ?_;refine Qk (cs:=a.cells) (Blk.pre (cs:=a.cells) aq) ?_;refine ρd ?_;refine dcl (Qjd (a:=v) (b:=a)) ?_;rintro u w1 ⟨rfl,ah⟩;refine ⟨ah,?_⟩;refine ρd ?_;have U:=ad.trans ah;have aw:=hB.ext U;have b3:=hm.ext U;refine ρ ?_;refine ci (λhc=>?_) (λhc=>?_)
 .have hc:=oT hc;refine ρ ?_;refine Jj ⟨neg d (cmpV v a),rfl,GrN.ext U,λ_=>⟨sv,m,aw,b3,?_,?_,om⟩,λh=>om,λh=>om⟩
  .rw [<-e1,Tr.befT,if_pos hc]
  .rw [<-e2,Tr.hasT,if_pos hc]
 have hc:=oF hc;have a9:Ext w1 w1.drew:=(Ext.refl w1).drew;have O:=U.trans a9;have au:=ae.ext O;have G:=aw.ext a9;refine ρ ?_;refine drN (λ_=>False) 10 [(0,0),(0,1),(0,2),(0,3),(0,4),(1,5),(1,6),(2,7)] kr ?_;refine ρn ?_;refine nld (Jm (G.sb.at (i:=0) rfl) (λe=>e)) ?_;refine ρn ?_;refine nld (Jm (au.at (i:=4) rfl) (λe=>e)) ?_;refine ρn ?_;refine nop ?_;refine cl (Jjm (hl.ext O)) ?_;rintro ul w2 ⟨ay,rfl⟩;refine ρ ?_;refine Je (GrN.refl _ _) ?_;refine ρn ?_;refine nop ?_;refine cl (Jqj (hm.ext O).1 ay.1 (hb.le om).len (hb.le om).len) ?_;rintro us w3 ⟨aj,b4,a2⟩;refine ρ ?_;refine Je (GrN.ext a2) ?_;refine ρn ?_;refine Xv ?_;obtain ⟨A3,c3,rfl,bd,_⟩:=id aj;refine Ij (G.ext a2).sb ?_ rfl;intro w4 b6 a8 ba;refine ρ ?_;have ag:=G.ext a2;have ai:=O.trans a2;have ap:∀ k,(k=bS∨k=bF)->k<w1.drew.heap.size:=λk J=>J.elim (λe=>by rw [e];exact G.sb.lt) (λe=>by rw [e];exact G.fb.lt)
 have b2:NatX (λk=>k=bS∨k=bF) w3 (.slice A3 (Jq (m+l.sum)).length c3) (m+l.sum):=b4.x aj ap;have a3:GrN (λk=>k=bS∨k=bF) w3 w4:=GrN.by a8 λk J=>.inl (by injection J with J;exact J.symm)
 have am:=b2.gr a3;have a5:BefB bT bV bS bF d q v w4 (.slice A3 (Jq (m+l.sum)).length c3) false:=⟨ag.tb.grown a8 (by simpa using n1),ag.vb.grown a8 (by simpa using n3),b6,ag.fb.grown a8 (by simpa using n5.symm)⟩;have Z:GrN (λk=>k=bS∨k=bF) w w4:=(GrN.ext ai).trans a3;refine ci (λC=>?_) (λC=>?_)
 .have C:neg d (cmpV v a)=0:=Xf C;refine ρ ?_;refine Ij a5.fb ?_ rfl;intro w5 b7 a7 a1;refine ρ ?_;have ac:GrN (λk=>k=bS∨k=bF) w4 w5:=GrN.by a7 λk J=>.inr (by injection J with J;exact J.symm)
  refine Jj ⟨0,rfl,Z.trans ac,λh=>om,λh=>om,λ_=>⟨_,⟨a5.tb.grown a7 (by simpa using n2),a5.vb.grown a7 (by simpa using n4),a5.sb.grown a7 (by simpa using n5),?_⟩,?_⟩⟩
  .rw [<-e2,Tr.hasT,if_neg hc,if_pos C];exact b7
  .rw [<-e1,Tr.befT,if_neg hc,if_pos C];exact am.gr ac
 have C:neg d (cmpV v a)≠0:=Xg C;have o:Ext w4 w4.drew:=(Ext.refl w4).drew;have a4:=a5.ext o;have ar:=(Jd ae Z ak).ext o;refine ρ ?_;refine drN (λ_=>False) 10 [(0,0),(0,1),(0,2),(0,3),(0,4),(0,5),(1,6),(2,7)] kr ?_;refine ρn ?_;refine nld (Jm (a4.sb.at (i:=0) rfl) (λe=>e)) ?_;refine ρn ?_;refine nld (Jm (ar.at (i:=3) rfl) (λe=>e)) ?_;refine ρn ?_;refine nop ?_;refine cl (Jqj (am.ext o).1 ((ax.gr Z).ext o).1 (hb.le om).len (hb.le om).len) ?_;rintro b8 w5 ⟨aa,ao,a1⟩;refine ρ ?_;refine Je (GrN.ext a1) ?_;refine ρn ?_;refine Xv ?_;obtain ⟨A5,c5,rfl,bc,_⟩:=id aa;refine Ij (a4.ext a1).sb ?_ rfl;intro w6 b5 a6 b9;refine ρ ?_;have af:=a4.ext a1;have b1:NatX (λk=>k=bS∨k=bF) w5 (.slice A5 (Jq (m+l.sum+x)).length c5) (m+l.sum+x):=ao.x aa λk J=>nM (ap k J) (nL a2.size (a3.trans (GrN.ext o)).size);have ab:GrN (λk=>k=bS∨k=bF) w5 w6:=GrN.by a6 λk J=>.inl (by injection J with J;exact J.symm)
 have an:GrN (λk=>k=bS∨k=bF) w w6:=((Z.trans (GrN.ext o)).trans (GrN.ext a1)).trans ab;refine Jj ⟨neg d (cmpV v a),rfl,an,λh=>om,λh=>⟨_,m+l.sum+x,⟨af.tb.grown a6 (by simpa using n1),af.vb.grown a6 (by simpa using n3),b5,af.fb.grown a6 (by simpa using n5.symm)⟩,b1.gr ab,?_,?_,om⟩,λh=>om⟩
 .rw [<-e1,Tr.befT,if_neg hc,if_neg C];omega
 .rw [<-e2,Tr.hasT,if_neg hc,if_neg C]
end Go.Proofs.YtebcagekopgdhaaGreatDoor
namespace Go.Wk
theorem finC4{P:Program}{n:Nat}{al:AL}{w:World}{tt:TT}[h:Tab P tt]{fn:Func}{Φ:Value->World->Prop}{c t t1 t2 t3 b:Nat}{k:TK}{cs:List Value}{x y z:Value}(hb:Blk w b t cs)(hp:Φ (.tuple #[.agg cs.toArray,x,y,z]) w)(hr:fn.results = #[.cell c t,.tmp t1,.tmp t2,.tmp t3]:=by rfl)(ht:tk tt t=some k:=by rfl)(hk:k.desc=.invalid:=by rfl)(hs:k.size=cs.length:=by rfl)(hc:lk al c=some (.pointer (some ⟨b,0,none⟩)):=by rfl)(h1:lk al t1=some x:=by rfl)(h2:lk al t2=some y:=by rfl)(h3:lk al t3=some z:=by rfl):
  QX n (Vh P fn Φ) .ret al w :=
 Jqz (rs:=[.cell c t,.tmp t1,.tmp t2,.tmp t3]) (vs:=[.agg cs.toArray,x,y,z]) hr ⟨⟨_,hc,Iz h.ok ht hk hs (λj u o=>hb.at o)⟩,h1,h2,h3,trivial⟩ rfl hp
end Go.Wk
namespace Go.Proofs.YtebcagekopgdhaaGreatDoor
open Go.RowKit Pl Go.Wk
attribute [local irreducible] WC WL QX WD WDB WP WN WG
theorem zNat: Qt Tryz.prog 29=some (.slice none 0 0):=kr
theorem Jgm: Qt Tryz.prog 4=some (.bool false):=kr
theorem Qpd{N:Nat->Prop}{w:World}{d:Bool}{p:Value}{t:Tr}{v:V}(h:TrV N w t p)(hb:Nb t.sum)(hs:t.sz<=1000000):
  Ret Tryz.prog 98 [.agg #[.bool d,p],v.val] w λu w'=>∃ sv,∃ k:Nat,u=.tuple #[sv,.bool (Tr.hasT d v t),.int .i64 (k:Int)]/\k<=t.ht/\NatV w' sv (Tr.befT d v t)/\Ext w w':=by
 obtain ⟨q,rfl⟩:=h.ptr;refine Jz Tryz.func98 Tryz.ntmps98 rfl kr rfl ?_;refine ρ ?_;refine bx ?_;intro w1 bT a9 au hT;refine ρ ?_;refine bx (cs:=v.cells) ?_;intro w2 bV a7 ar hV;refine ρ ?_;refine alc zNat ?_;intro w3 U C av hS;refine ρ ?_;refine alc Jgm ?_;intro w4 Z a8 af hF;refine ρ ?_;refine Ij hF ?_ rfl;intro w5 ai aq ac;have lT:=hT.lt;have lV:=hV.lt;have lS:=hS.lt;have an:=a7.size;have am:=C.size;have ak:=a8.size;have nT:bT≠U/\bT≠Z/\bV≠U/\bV≠Z/\U≠Z:=⟨om,om,om,om,om⟩;obtain ⟨n1,n2,n3,n4,n5⟩:=nT;have o:Ext w3 w5:=ac w3 a8 af;have G:Ext w w5:=((a9.trans a7).trans C).trans o;have ab:=((hT.ext a7).ext C).ext o;have ag:=(hV.ext C).ext o;have ah:=hS.ext o;have ao:=a9.size;have hN:TrV (λk=>k=U∨k=Z) w5 t (.pointer q):=(h.old (N':=λk=>k=U∨k=Z) λk hk=>.inr (by rcases hk with rfl|rfl<;>omega)).ext G;have ap:=Tr.ht_le t;refine ρ ?_;refine ldW ab ?_
 refine ρ ?_;refine cl (Jhr (N:=λk=>k=U∨k=Z) (J:=BefJ bT bV U Z d q v t) (D:=BefD bT bV U Z d q v t) hN ⟨_,0,⟨ab,ag,ah,ai⟩,NatX.nil _,om,rfl,om⟩ om ?_ ?_ (Qpf ⟨n1,n2,n3,n4,n5⟩ hb)) ?_
 .rintro s w w' ⟨sv,m,a1,a2,a3,a4,a5⟩ hx;exact ⟨sv,m,a1.ext hx,a2.ext hx,a3,a4,a5⟩
 .rintro w ⟨sv,m,a1,a2,a3,a4,a5⟩;simp only [Tr.befT,Tr.hasT,Nat.add_zero]at a3 a4;refine ⟨sv,?_,?_⟩
  .rw [<-a4];exact a1
  .rw [<-a3];exact a2
 rintro z w6 ⟨⟨k,rfl,hk⟩,⟨sv,aj,ad⟩,ae⟩;have aa:Ext w w6:=ae.old G λk hk=>by rcases hk with rfl|rfl<;>omega
 have a6:Ext w6 w6.drew:=(Ext.refl w6).drew;have O:=aj.ext a6;refine ρ ?_;refine dr [(0,0),(0,1),(0,2),(0,3),(0,4),(0,5)] kr ?_;refine ρd ?_;refine dld (O.sb.at (i:=0) rfl) ?_;refine ρd ?_;refine dld (O.fb.at (i:=0) rfl) ?_;refine ρd ?_;refine ρ ?_;exact Ux ⟨sv,k,rfl,hk,(ad.ext a6).1,aa.trans a6⟩
structure FndB(bS bK bV bR:Nat)(w:World)(sv kv:Value)(v:V): Prop where
 sb:Blk w bS 29 [sv]
 kb:Blk w bK 29 [kv]
 vb:Blk w bV 47 v.cells
 rb:Blk w bR 47 V0.cells
theorem FndB.ext{bS bK bV bR:Nat}{w w':World}{sv kv:Value}{v:V}(h:FndB bS bK bV bR w sv kv v)(hx:Ext w w'): FndB bS bK bV bR w' sv kv v:=⟨h.sb.ext hx,h.kb.ext hx,h.vb.ext hx,h.rb.ext hx⟩
def FndJ(bS bK bV bR:Nat)(kv:Value)(k:Nat)(t:Tr)(s:Tr)(w:World): Prop :=
 ∃ sv m v,FndB bS bK bV bR w sv kv v/\NatX (λj=>j=bS∨j=bV∨j=bR) w sv m/\NatX (λj=>j=bS∨j=bV∨j=bR) w kv k/\m<=k/\k<m+s.sum/\m+s.sum<=t.sum/\Tr.findT k t=((Tr.findT (k-m) s).1,m+(Tr.findT (k-m) s).2)
def FndD(bS bK bV bR:Nat)(kv:Value)(k:Nat)(t:Tr)(w:World): Prop :=
 ∃ sv,FndB bS bK bV bR w sv kv (Tr.findT k t).1/\NatX (λj=>j=bS∨j=bV∨j=bR) w sv (Tr.findT k t).2
theorem cmpN_lt{a b:Nat}: Yl a b<0↔a<b:=by
 unfold Yl;split
 .omega
 .split<;>omega
theorem Qhn{bS bK bV bR k:Nat}{kv:Value}{t:Tr}(hne:bS≠bK/\bS≠bV/\bK≠bV/\bS≠bR/\bV≠bR)(hb:Nb t.sum):
  ∀ l a x r u w,TrV (λj=>j=bS∨j=bV∨j=bR) w (.node l a x r) u->FndJ bS bK bV bR kv k t (.node l a x r) w ->
  Ret Tryz.prog 155 ((#[]:Array Value).toList++[u]++(#[.pointer (some ⟨bS,0,none⟩),.pointer (some ⟨bK,0,none⟩),.pointer (some ⟨bV,0,none⟩)]:Array Value).toList) w λz w'=>∃ c,z=.int .i64 c/\GrN (λj=>j=bS∨j=bV∨j=bR) w w'/\(c<0->FndJ bS bK bV bR kv k t l w')/\(0<c->FndJ bS bK bV bR kv k t r w')/\(c=0->FndD bS bK bV bR kv k t w'):=by
 obtain ⟨n1,n2,n3,n4,n5⟩:=hne;rintro l a x r u w hs ⟨sv,m,v,hB,hm,hk,e1,e2,e3,e4⟩;obtain ⟨bn,wn,pl,pr,sn,rfl,⟨ac,av⟩,am,ax,hl,hr⟩:=id hs;obtain ⟨ql,rfl⟩:=hl.ptr;obtain ⟨qr,rfl⟩:=hr.ptr;simp only [Tr.sum]at e2 e3;refine Jz Tryz.func155 Tryz.ntmps155 rfl kr rfl ?_;refine ρ ?_;have a1:Ext w w.drew:=(Ext.refl w).drew;have a8:=hB.ext a1;have ag:=ac.ext a1;refine dr [(0,0),(0,1),(0,2),(0,3),(0,4),(1,5),(1,6),(0,7)] kr ?_;refine ρd ?_;refine dld (a8.sb.at (i:=0) rfl) ?_;refine ρd ?_;refine dld (ag.at (i:=4) rfl) ?_;refine ρd ?_;refine dcl (Jjm (hl.ext a1)) ?_;rintro ul w1 ⟨an,rfl⟩;refine ⟨Ext.refl _,?_⟩;refine ρd ?_;refine dcl (Jqj (hm.ext a1).1 an.1 (hb.le om).len (hb.le om).len) ?_;rintro us w2 ⟨ad,ao,ab⟩;refine ⟨ab,?_⟩;refine ρd ?_;have a2:=a1.trans ab;have aj:=hB.ext a2;refine ρ ?_;refine ld (aj.kb.at (i:=0) rfl) ?_;refine ρ ?_;refine cl (Jqh (hk.ext a2).1 ad) ?_
 rintro u w3 ⟨rfl,a6⟩;have o:=a2.trans a6;have ai:=aj.ext a6;have af:∀ j,(j=bS∨j=bV∨j=bR)->j<w.drew.heap.size:=λj O=>O.elim (λe=>by rw [e];exact a8.sb.lt) (λe=>e.elim (λe=>by rw [e];exact a8.vb.lt) (λe=>by rw [e];exact a8.rb.lt));have a3:NatX (λj=>j=bS∨j=bV∨j=bR) w3 us (m+l.sum):=ao.x (ad.ext a6) af;refine ρ ?_;refine ci (λhc=>?_) (λhc=>?_)
 .have hc:k<m+l.sum:=cmpN_lt.1 (oT hc);refine ρ ?_;refine Jj ⟨-1,rfl,GrN.ext o,λ_=>⟨sv,m,v,ai,hm.ext o,hk.ext o,e1,hc,om,?_⟩,λh=>om,λh=>om⟩;rw [e4,Tr.findT,if_pos om]
 have hc:¬ k<m+l.sum:=λh=>oF hc (cmpN_lt.2 h);refine ρ ?_;refine ld ((ac.ext o).at (i:=3) rfl) ?_;refine ρ ?_;refine cl (Jqj a3.1 (am.ext o).1 (hb.le om).len (hb.le om).len) ?_;rintro ua w4 ⟨ae,ap,a5⟩;have ah:=ai.ext a5;refine ρ ?_;refine ld (ah.kb.at (i:=0) rfl) ?_;refine ρ ?_;refine cl (Jqh ((hk.ext o).ext a5).1 ae) ?_;rintro u w5 ⟨rfl,a4⟩;have U:=(o.trans a5).trans a4;have J:=ah.ext a4;have a9:NatX (λj=>j=bS∨j=bV∨j=bR) w5 ua (m+l.sum+x):=ap.x (ae.ext a4) λj O=>nM (af j O) (ab.trans a6).size;obtain ⟨A1,c1,ea,_⟩:=id a9.1;obtain ⟨A2,c2,es,_⟩:=id a3.1;have oa:ua.oneCell'=true:=by rw [ea];rfl
 have os:us.oneCell'=true:=by rw [es];rfl
 refine ρ ?_;refine ci (λZ=>?_) (λZ=>?_)
 .have Z:m+l.sum+x<=k:=by
   have:=oT Z;rcases Nat.lt_or_ge k (m+l.sum+x) with h|h
   .have:=cmpN_lt.2 h;omega
   .exact h
  refine ρ ?_;refine Ij J.sb ?_ oa;intro w6 au G ak;refine ρ ?_;have C:GrN (λj=>j=bS∨j=bV∨j=bR) w5 w6:=GrN.by G λj O=>.inl (by injection O with O;exact O.symm)
  refine Jj ⟨1,rfl,(GrN.ext U).trans C,λh=>om,λ_=>⟨ua,m+l.sum+x,v,⟨au,J.kb.grown G (by simpa using n1.symm),J.vb.grown G (by simpa using n2.symm),J.rb.grown G (by simpa using n4.symm)⟩,a9.gr C,(hk.ext U).gr C,Z,om,om,?_⟩,λh=>om⟩;rw [e4,Tr.findT,if_neg om,if_pos om,show k-m-(l.sum+x)=k-(m+l.sum+x) by omega];simp only [Prod.mk.injEq,true_and];omega
 have Z:k<m+l.sum+x:=by
  rcases Nat.lt_or_ge k (m+l.sum+x) with h|h
  .exact h
  .exact absurd (Int.not_lt.1 λh'=>by have:=cmpN_lt.1 h';omega) (oF Z)
 have e5:Tr.findT k t=(a,m+l.sum):=by rw [e4,Tr.findT,if_neg om,if_neg om]
 refine ρ ?_;refine lds (cs:=a.cells) (Blk.pre (cs:=a.cells) (ac.ext U)) ?_;refine ρ ?_;refine stb (cs':=a.cells) J.vb ?_ (V.one a);intro w6 aq G ak;refine ρ ?_;refine Ij (J.sb.grown G (by simpa using n2)) ?_ os;intro w7 ar a7 aw;refine ρ ?_;have C:GrN (λj=>j=bS∨j=bV∨j=bR) w5 w6:=GrN.by G λj O=>.inr (.inl (by injection O with O;exact O.symm))
 have aa:GrN (λj=>j=bS∨j=bV∨j=bR) w6 w7:=GrN.by a7 λj O=>.inl (by injection O with O;exact O.symm)
 refine Jj ⟨0,rfl,((GrN.ext U).trans C).trans aa,λh=>om,λh=>om,λ_=>⟨us,⟨ar,(J.kb.grown G (by simpa using n3)).grown a7 (by simpa using n1.symm),?_,(J.rb.grown G (by simpa using n5.symm)).grown a7 (by simpa using n4.symm)⟩,?_⟩⟩
 .rw [e5];exact aq.grown a7 (by simpa using n2.symm)
 .rw [e5];exact (((a3.ext a5).ext a4).gr C).gr aa
theorem Qhm{N:Nat->Prop}{w:World}{d:Bool}{p kv:Value}{t:Tr}{k:Nat}(h:TrV N w t p)(hkv:NatV w kv k)(hk:k<t.sum)(hb:Nb t.sum)(hs:t.sz<=1000000):
  Ret Tryz.prog 101 [.agg #[.bool d,p],kv] w λu w'=>∃ sv,∃ n:Nat,u=.tuple #[(Tr.findT k t).1.val,sv,.int .i64 (n:Int),.int .i64 0]/\n<=t.ht/\NatV w' sv (Tr.findT k t).2/\Ext w w':=by
 obtain ⟨q,rfl⟩:=h.ptr;obtain ⟨Ak,ck,ek,_⟩:=id hkv;refine Jz Tryz.func101 Tryz.ntmps101 rfl kr rfl ?_;refine ρ ?_;refine bx ?_;intro w1 bT ac ba hT;refine ρ ?_;refine bx (cs:=[kv]) ?_ (hv:=by rw [ek];rfl);intro w2 bK a9 bc hK;refine ρ ?_;refine alc (cs:=V0.cells) Gq ?_;intro w3 bR a8 au hR;have aa:=(ac.trans a9).trans a8;have C:Ext w3 w3.drew:=(Ext.refl w3).drew;have G:=aa.trans C;have ah:=(hT.ext a9).ext a8;have ai:=hK.ext a8;refine ρ ?_;refine dr [(0,0),(0,1),(0,2),(1,3),(1,4),(0,5)] kr ?_;refine ρd ?_;refine dld ((ai.ext C).at (i:=0) rfl) ?_;refine ρd ?_;refine dld ((ah.ext C).at (i:=1) rfl) ?_;refine ρd ?_;refine dcl (Jjm (h.ext G)) ?_;rintro ut w4 ⟨ao,rfl⟩;refine ⟨Ext.refl _,?_⟩;refine ρd ?_;refine dcl (Jqh (hkv.ext G) ao.1) ?_;rintro u w4 ⟨rfl,a7⟩;refine ⟨a7,?_⟩;refine ρd ?_;have am:¬ (0<=Yl k t.sum):=Int.not_le.2 (cmpN_lt.2 hk);refine ρ ?_
 refine cf (dF am) ?_;have b1:=G.trans a7;refine ρ ?_;refine alc (cs:=V0.cells) Gq ?_;intro w5 U ad b9 hV;refine ρ ?_;refine alc zNat ?_;intro w6 Z ab bb hS;have lT:=hT.lt;have lK:=hK.lt;have lR:=hR.lt;have lV:=hV.lt;have b7:=ac.size;have b6:=a9.size;have b5:=a8.size;have b4:=(C.trans a7).size;have b3:=ad.size;have b2:=ab.size;have n1:Z≠bK:=om
 have n2:Z≠U:=om
 have n3:bK≠U:=om
 have n4:Z≠bR:=om
 have n5:U≠bR:=om
 have o:Ext w3 w6:=((C.trans a7).trans ad).trans ab;have O:Ext w w6:=aa.trans o;have aw:=ah.ext o;have ay:=ai.ext o;have av:=hV.ext ab;have hN:TrV (λk=>k=Z∨k=U∨k=bR) w6 t (.pointer q):=(h.old (N':=λk=>k=Z∨k=U∨k=bR) λk hk=>.inr (by rcases hk with rfl|rfl|rfl<;>omega)).ext O;have aq:NatX (λk=>k=Z∨k=U∨k=bR) w kv k:=NatX.old (N:=λ_=>False) ⟨hkv,λ_ _ _ _ _ h=>h⟩ λk hk=>.inr (by rcases hk with rfl|rfl|rfl<;>omega);have b8:=Tr.ht_le t;refine ρ ?_;refine ldW aw ?_;refine ρ ?_;refine cl (Jhr (N:=λk=>k=Z∨k=U∨k=bR) (J:=FndJ Z bK U bR kv k t) (D:=FndD Z bK U bR kv k t) hN ⟨_,0,V0,⟨hS,ay,av,hR.ext o⟩,NatX.nil _,aq.ext O,om,om,om,by simp⟩ om ?_ ?_ (Qhn ⟨n1,n2,n3,n4,n5⟩ hb)) ?_
 .rintro s w w' ⟨sv,m,v,a1,a2,a3,a4⟩ hx;exact ⟨sv,m,v,a1.ext hx,a2.ext hx,a3.ext hx,a4⟩
 .rintro w ⟨sv,m,v,a1,a2,a3,a4,a5,_⟩;simp only [Tr.sum]at a5;omega
 rintro z w7 ⟨⟨n,rfl,hn⟩,⟨sv,ak,ap⟩,ar⟩;have ae:Ext w w7:=ar.old O λk hk=>by rcases hk with rfl|rfl|rfl<;>omega
 refine ρ ?_;refine drN (λk=>k=bR) 10 [(0,0),(0,1),(0,2),(1,3),(0,4),(0,5),(0,6)] kr ?_;have a6:Ext w7 w7.drew:=(Ext.refl w7).drew;have aj:=ak.ext a6;refine ρn ?_;refine Xd (cs:=(Tr.findT k t).1.cells) (λw' hg j u hu=>(Jd aj.vb hg n5).at hu) ?_;refine ρn ?_;refine nld (Jm (aj.sb.at (i:=0) rfl) n4) ?_;refine ρn ?_;refine nop ?_;refine stb (cs':=(Tr.findT k t).1.cells) (ak.rb.ext a6) ?_ (V.one _);intro w8 ax ag an;refine ρ ?_;refine Je (GrN.by ag λj hj=>by injection hj with hj;exact hj.symm) ?_;refine ρn ?_;refine ρ ?_;have af:GrN (λk=>k=Z∨k=U∨k=bR) w7.drew w8:=GrN.by ag λj hj=>.inr (.inr (by injection hj with hj;exact hj.symm))
 exact finC4 ax ⟨sv,n,rfl,hn,((ap.ext a6).gr af).1,an w (ae.trans a6) (nL (ac.trans a9).size au)⟩
end Go.Proofs.YtebcagekopgdhaaGreatDoor
namespace Go.Wk
open Maps
theorem dmlk{P:Program}{n:Nat}{al:AL}{w:World}{Q:Exit->Act->World->Prop}{ops:Array Oper}{drest:List (Nat×Oper)}{d ty:Nat}{pos:String}{aft:Array Edge}{tt:TT}[hT:Tab P tt]{t k e b m:Nat}{kd:TK}{f:Lit->Option Value}{x y:Operand}{key z:Value}{kl:Lit}(K:Keyed P k)(hM:MapS P k w b m f)(hz:Qt P e=some z)(hkey:keyOf P k key=some kl)(kk:WD P n ops Q drest ((d,(f kl).getD z)::al) w)(ht:tk tt t=some kd:=by rfl)(hk:kd.desc=.map k e:=by rfl)(hx:ev al x=some (.map (some b)):=by rfl)(hy:ev al y=some key:=by rfl)(hd:Nat.blt d n=true:=by rfl):
  WD P n ops Q ((0,⟨some d,.lookup t x y false,ty,pos,aft,none⟩)::drest) al w :=
 dy (λw' u a o=>by
  have:=((hM.ext u).look K (Vw hT.ok ht hk rfl) (Jbr hz w') hkey).2;simp [execOp,o.ev hx,o.ev hy,this]) hd kk
end Go.Wk
namespace Go.Proofs.YtebcagekopgdhaaGreatDoor
open Go.RowKit Pl Go.Wk
attribute [local irreducible] WC WL QX WD WDB WP WN WG
theorem Uv{w w':World}(hx:Ext w w'){p:Addr}{u:Value}(h:w.cell? p=some u): w'.cell? p=some u:=by
 have o:p.block<w.heap.size:=by
  rcases Nat.lt_or_ge p.block w.heap.size with h1|h1
  .exact h1
  .unfold World.cell? at h;rw [Array.getElem?_eq_none h1]at h;simp at h
 rw [hx.cell o];exact h
theorem KS: Maps.Keyed Tryz.prog 9:=Maps.string_keyed Tryz.underlying9
def FitR(r:Row): Prop:=r.length<=32/\∀ v∈r,Va v/\v.bytes.length<=24
theorem FitR.len{r:Row}(h:FitR r): (idn r).length<=2880:=by have:=Jsn h.2;have:=h.1;omega
theorem FitR.pm{r:Row}{cs:List Nat}(h:FitR r)(hc:∀ c∈cs,c<r.length)(hl:cs.length<=32): FitR (pmR cs r) :=
 ⟨by rw [Qh];exact hl,λv o=>by
  obtain ⟨c,u,rfl⟩:=List.mem_map.1 o;exact h.2 _ (getD_mem' V0 r (hc c u))⟩
theorem Ua{r:Row}(h:FitR r): keyOf Tryz.prog 9 (.string (str (idn r)))=some (.string (idn r)) :=
 WideMaps.keyOf_string_mk Tryz.underlying9 (by have:=h.len;show (idn r).toArray.size<=maxLen;rw [List.size_toArray];unfold maxLen;omega)
def ChG(w:World)(cs:List Value)(p:Nat×List Nat): Prop:=∃ A c,cs=[.int .i64 (p.1:Int),.slice A p.2.length c]/\p.2.length<=c/\p.2.length<=32/\Rd w 1 A p.2.length (Js (nz p.2))
def DnV(AR:Nat->Prop)(T:Row->Nat)(w:World)(x:Value): Prop:=∃ mb m fm,x=.map (some mb)/\m<=1000000/\(MapS Tryz.prog 9 w mb m fm/\¬ AR mb)/\(∀ k:Row,fm (.string (idn k))=if 0<T k then some (.bool true) else none)/\∀ kl,fm kl≠none->∃ k:Row,kl=.string (idn k)
def DnT(AR:Nat->Prop)(T:Row->Nat)(w:World)(x:Value): Prop:=∃ mb m fm,x=.map (some mb)/\m<=1000000/\(MapS Tryz.prog 9 w mb m fm/\¬ AR mb)/\∀ k:Row,(fm (.string (idn k))=none/\T k=0)∨∃ y,fm (.string (idn k))=some y/\0<T k/\NatX AR w y (T k)
theorem DnV.gr{AR:Nat->Prop}{T:Row->Nat}{w w':World}{x:Value}(h:DnV AR T w x)(hg:GrN AR w w'): DnV AR T w' x:=by
 obtain ⟨u,m,fm,O,J,⟨G,o⟩,C⟩:=h;exact ⟨u,m,fm,O,J,⟨G.gr hg o,o⟩,C⟩
theorem DnT.gr{AR:Nat->Prop}{T:Row->Nat}{w w':World}{x:Value}(h:DnT AR T w x)(hg:GrN AR w w'): DnT AR T w' x:=by
 obtain ⟨u,m,fm,O,J,⟨G,o⟩,C⟩:=h;refine ⟨u,m,fm,O,J,⟨G.gr hg o,o⟩,λk=>?_⟩;rcases C k with h6|⟨y,h6,h7,h8⟩
 .exact .inl h6
 .exact .inr ⟨y,h6,h7,h8.gr hg⟩
def wtL(T:Nat->Row->Nat)(x:Row): List (Nat×List Nat)->Nat
 | []=>1
 | p::l=>T p.1 (pmR p.2 x)*wtL T x l
theorem Jxn(T:Nat->Row->Nat)(x:Row): ∀ l m,wtL T x (l++m)=wtL T x l*wtL T x m
 | [],m=>by rw [List.nil_append,wtL,Nat.one_mul]
 | p::l,m=>by rw [List.cons_append,wtL,wtL,Jxn T x l m,Nat.mul_assoc]
theorem Qzl{T:Nat->Row->Nat}{x:Row}{l:List (Nat×List Nat)}{p:Nat×List Nat}(hp:p∈l)(h0:T p.1 (pmR p.2 x)=0): wtL T x l=0:=by
 obtain ⟨a,b,rfl⟩:=List.append_of_mem hp;rw [Jxn,wtL,h0,Nat.zero_mul,Nat.mul_zero]
theorem Jym{T:Nat->Row->Nat}{x:Row}: ∀ {l:List (Nat×List Nat)},(∀ p∈l,T p.1 (pmR p.2 x)<=4294967296^20)->wtL T x l<=(4294967296^20)^l.length
 | [],_=>by simp [wtL]
 | p::l,h=>by
  rw [wtL,List.length_cons,Nat.pow_succ,Nat.mul_comm];exact Nat.mul_le_mul (Jym λq hq=>h q (List.mem_cons_of_mem _ hq)) (h p mC)
theorem Nb.pow{n k:Nat}(h:n<=(4294967296^20)^k)(hk:k<=32): Nb n:=by
 refine Nat.lt_of_le_of_lt h ?_;rw [<-Nat.pow_mul];exact Nat.pow_lt_pow_right (by decide) (by rw [Jfw];omega)
theorem Qzh: Qt Tryz.prog 247=some (.agg #[.int .i64 0,.slice none 0 0]):=kr
theorem Qcq{a:Int}{A:Option Addr}{n c:Nat}: ∀ u∈[Value.int .i64 a,.slice A n c],u.oneCell'=true:=λu o=>by
 simp only [List.mem_cons,List.not_mem_nil,or_false]at o;rcases o with rfl|rfl<;>rfl
theorem Jcq(n:Nat)(h:n<18446744073709551616)(w:World): Ret Tryz.prog 16 [.int .u64 (n:Int)] w λv w'=>NatV w' v n/\Fresh w v/\Ext w w':=by
 refine Jz Tryz.func16 Tryz.ntmps16 rfl kr rfl ?_;refine ρ ?_;refine Yw rfl rfl (by decide) rfl ?_;refine ρ ?_;refine bsl (bsN _ _) ?_;intro J b u C o;rw [Yt,Jlb]at o;have G:Rd J 1 (some ⟨b,0,none⟩) 2 (Nc [UInt32.ofNat n,UInt32.ofNat (n / 4294967296)]):=o.rd rfl;refine ρ ?_;refine cl (Kt (l:=[UInt32.ofNat n,UInt32.ofNat (n / 4294967296)]) (c:=2) G (Nat.le_refl _) (by simp)) ?_;rintro v O ⟨rfl,rfl⟩;have:=Jjl G (by simp);rw [Jht n h]at this ⊢;refine ρ ?_;exact Jj ⟨this,λU _ _ e=>by injection e with e;injection e with e;subst e;exact C,u⟩
theorem Jhn{B0:Nat}{AR:Nat->Prop}{T:Nat->Row->Nat}{w:World}{b f:Nat}{cs:List Value}{VA TA:Option Addr}{n cv ct:Nat}{va ta:List Value}{vch vx:Value}{chs:List (Nat×List Nat)}{x:Row}(hTB:TB B0 w)(hB:Blk w b 157 cs)(c1:cs[1]?=some (.int .i64 (f:Int)))(c7:cs[7]?=some (.slice VA n cv))(c8:cs[8]?=some (.slice TA n ct))(hV:Rd w 1 VA n va)(hTa:Rd w 1 TA n ta)(hch:GV 2 ChG w vch chs)(hlen:chs.length<=32)(hn:∀ p∈chs,p.1<n/\∀ c∈p.2,c<x.length)(hx:RowV w vx x)(hfit:FitR x)(hdv:∀ p∈chs,f<=p.1->DnV AR (T p.1) w (va.getD p.1 (.map none)))(hdt:∀ p∈chs,p.1<f->DnT AR (T p.1) w (ta.getD p.1 (.map none)))(hT1:∀ p∈chs,f<=p.1->∀ k,T p.1 k<=1)(hTb:∀ p∈chs,∀ k,T p.1 k<=4294967296^20):
  Ret Tryz.prog 133 [.pointer (some ⟨b,0,none⟩),vch,vx] w λu w'=>NatV w' u (wtL T x chs)/\Fresh w u/\Ext w w':=by
 obtain ⟨A,c,cc,rfl,bh,bg,b6,b5⟩:=hch.parts;refine Jz Tryz.func133 Tryz.ntmps133 rfl kr rfl ?_;refine ρ ?_;refine cl (Jcq 1 (by decide) _) ?_;rintro vp w1 ⟨av,b4,ar⟩;refine ρ ?_;refine Jt (fun (i:Nat) (vp:Value)=>[(0,.pointer (some ⟨b,0,none⟩)),(2,vx),(7,vp),(12,.slice A chs.length c),(13,.int .i64 (chs.length:Int)),(14,.int .i64 (i:Int))])
  (λi vp w'=>i<=chs.length/\Ext w w'/\NatV w' vp (wtL T x (chs.take i))/\Fresh w vp) (λi _=>chs.length-i) 0 vp sB
  ⟨Nat.zero_le _,ar,by rw [List.take_zero];exact av,b4⟩ ?_
 rintro i vp w2 ⟨hi,a7,a8,ak⟩;refine ρ ?_;refine ci (λh=>?_) (λh=>?_)
 .have li:i<chs.length:=by have:=oT h;omega
  clear h;obtain ⟨ce,bf,⟨CA,cC,rfl,b7,ac,an⟩,a6⟩:=b5 i li;have G:chs[i]∈chs:=List.getElem_mem li;have ag:wtL T x (chs.take (i+1))=wtL T x (chs.take i)*T chs[i].1 (pmR chs[i].2 x):=by
   rw [List.take_succ_eq_append_getElem li,Jxn,wtL,wtL,Nat.mul_one]
  have ax:wtL T x (chs.take i)<=(4294967296^20)^i:=by
   have:=Jym (T:=T) (x:=x) (l:=chs.take i) λp hp=>hTb p (List.mem_of_mem_take hp) _;rw [List.length_take,Nat.min_eq_left hi]at this;exact this
  have aw:Nb (wtL T x (chs.take i)):=Nb.pow ax om;have am:Nb (T chs[i].1 (pmR chs[i].2 x)):=Nb.pow (k:=1) (by rw [Nat.pow_one];exact hTb _ G _) om;generalize hq:chs[i]=q at *
  obtain ⟨U,C⟩:=q;simp only at b7 ac an a6 ag am;have a4:=hn _ G;simp only at a4;refine ρ ?_;refine ixq 2 i (b6.ext a7) li ?_;refine ρ ?_;have a9:∀ j u,([.int .i64 (U:Int),.slice CA C.length cC]:List Value)[j]?=some u->w2.cell? ((adr A (i*2)).add j)=some u:=λj u hu=>Uv a7 (a6 j u hu);refine lds (cs:=[.int .i64 (U:Int),.slice CA C.length cC]) a9 ?_;refine ρ ?_;refine alc Qzh ?_;intro w3 bc aq b8 ba;refine ρ ?_;refine stW ba ?_;intro w4 O be ap;have a2:Ext w2 w4:=ap w2 aq b8;have a3:=a7.trans a2;refine ρ ?_;refine ld (O.at (i:=1) rfl) ?_;refine ρ ?_;refine cl (Jpf (cs:=C) (hx.ext a3) (an.ext a3) a4.2 om) ?_;rintro vk w5 ⟨b1,a1⟩;have ab:=a3.trans a1;have a5:FitR (pmR C x):=hfit.pm a4.2 ac;obtain ⟨KA,kc,rfl,bd,bb,ay⟩:=id b1;refine ρ ?_;refine cl (Jqs (r:=pmR C x) (hTB.ext ab) ay (λv hv=>(a5.2 v hv).1) (by have:=a5.len;omega) (by have:=a5.1;omega)) ?_;rintro u w6 ⟨rfl,Z⟩
  have aa:=ab.trans Z;have ae:Ext w6 w6.drew:=(Ext.refl w6).drew;have ao:=((O.ext a1).ext Z).ext ae;have b9:=hB.ext (aa.trans ae);refine ρ ?_;refine dr [(0,0),(0,1),(0,2),(0,3),(0,4),(0,5),(0,6),(0,7)] kr ?_;refine ρd ?_;refine dld (ao.at (i:=0) rfl) ?_;refine ρd ?_;refine dld (b9.at (i:=1) c1) ?_;refine ρd ?_;refine ρ ?_;have J:Ext w6 w6.drew.drew:=ae.drew;have o:=aa.trans J;refine ci (λh=>?_) (λh=>?_)
  .have lf:U<f:=by have:=oT h;omega
   obtain ⟨mb,m,fm,e1,e2,⟨e3,e4⟩,e5⟩:=hdt _ G lf;simp only at e1 e5;have af:ta[U]?=some (.map (some mb)):=by
    rw [<-e1];have hl:=hTa.1;simp [List.getD,List.getElem?_eq_getElem (show U<ta.length by omega)]
   refine ρ ?_;refine dr [(0,0),(0,1),(0,2),(0,3),(0,4),(0,5),(0,6),(0,7),(0,8),(0,9),(0,10),(1,11),(0,12)] kr ?_;refine ρd ?_;refine dld ((hB.ext o).at (i:=8) c8) ?_;refine ρd ?_;refine dld ((((O.ext a1).ext Z).ext J).at (i:=0) rfl) ?_;refine ρd ?_;refine dix U (hTa.ext o) a4.1 ?_;refine ρd ?_;refine dld ((hTa.ext o).cell af) ?_;refine ρd ?_;refine dmlk KS (e3.ext o) zNat (Ua a5) ?_;have ai:NatV w6.drew.drew ((fm (.string (idn (pmR C x)))).getD (.slice none 0 0)) (T U (pmR C x)):=by
    rcases e5 (pmR C x) with ⟨h6,h7⟩|⟨y,h6,h7,h8⟩
    .rw [h6,h7];exact NatV.nil _
    .rw [h6];exact h8.1.ext o
   refine ρd ?_;refine dcl (Jwx (a8.ext ((a2.trans a1).trans Z |>.trans J)) ai aw.len am.len) ?_;rintro vr w7 ⟨au,aj,ah⟩;refine ⟨ah,?_⟩;refine ρd ?_;refine ρ ?_;refine Jg (i+1) vr sO ⟨li,o.trans ah,?_,λad m c e=>nL o.size (aj ad m c e)⟩ om;rw [ag];exact au
  .have lf:f<=U:=by have:=oF h;omega
   obtain ⟨mb,m,fm,e1,e2,⟨e3,e4⟩,e5,e6⟩:=hdv _ G lf;simp only at e1 e5;have af:va[U]?=some (.map (some mb)):=by
    rw [<-e1];have hl:=hV.1;simp [List.getD,List.getElem?_eq_getElem (show U<va.length by omega)]
   refine ρ ?_;refine dr [(0,0),(0,1),(0,2),(0,3),(0,4),(0,5),(0,6),(0,7),(0,8),(0,9),(0,10)] kr ?_;refine ρd ?_;refine dld ((hB.ext o).at (i:=7) c7) ?_;refine ρd ?_;refine dld ((((O.ext a1).ext Z).ext J).at (i:=0) rfl) ?_;refine ρd ?_;refine dix U (hV.ext o) a4.1 ?_;refine ρd ?_;refine dld ((hV.ext o).cell af) ?_;refine ρd ?_;refine dmlk KS (e3.ext o) Jgm (Ua a5) ?_;rw [e5];by_cases h0:0<T U (pmR C x)
   .rw [if_pos h0];have h1:=hT1 _ G lf (pmR C x);simp only at h1;refine ρd ?_;refine ρ ?_;refine Jg (i+1) vp sO ⟨li,o,?_,ak⟩ om;rw [ag,show T U (pmR C x)=1 by omega,Nat.mul_one];exact a8.ext ((a2.trans a1).trans Z |>.trans J)
   .rw [if_neg h0];refine ρd ?_;refine ρ ?_;have b3:Fresh w (.slice none 0 0):=λad m c e=>by cases e
    refine Jj ⟨?_,b3,o⟩;rw [Qzl G (show T U (pmR C x)=0 by omega)];exact NatV.nil _
 have b2:i=chs.length:=by have:=oF h;omega
 rw [b2,List.take_length]at a8;refine ρ ?_;exact Jj ⟨a8,ak,a7⟩
end Go.Proofs.YtebcagekopgdhaaGreatDoor
