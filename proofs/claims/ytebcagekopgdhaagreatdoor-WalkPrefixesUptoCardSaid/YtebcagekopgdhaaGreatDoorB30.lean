/- Part 30. -/
import Derived.Test.YtebcagekopgdhaaGreatDoorB29
set_option linter.unusedVariables false
set_option maxRecDepth 100000
set_option maxHeartbeats 40000000
namespace Go.Wk
theorem dbx{P:Program}{n:Nat}{al:AL}{w:World}{Q:Exit->Act->World->Prop}{ops:Array Oper}{drest:List (Nat×Oper)}{d ty:Nat}{pos:String}{aft:Array Edge}{x:Operand}{t:Nat}{v:Value}{cs:List Value}(kk:∀ w1 b,Ext w w1->w.heap.size<=b->Blk w1 b t cs->WD P n ops Q drest ((d,.pointer (some ⟨b,0,none⟩))::al) w1)(hx:ev al x=some v:=by rfl)(hv:v.cells=cs.toArray:=by rfl)(hd:Nat.blt d n=true:=by rfl): WD P n ops Q ((1,⟨some d,.box t x,ty,pos,aft,none⟩)::drest) al w :=
 Uk (bx (λw1 b o C u=>Jh (Uz o (kk w1 b o C u))) hx hv hd)
end Go.Wk
namespace Go.Proofs.YtebcagekopgdhaaGreatDoor
open Go.RowKit Pl Go.Wk
attribute [local irreducible] WC WL QX WD WDB WP WN WG
theorem Jrn{n:Nat}(h:0<(Jq n).length): n≠0:=λe=>by rw [e,limbs_0]at h;simp at h
def NatX(N:Nat->Prop)(w:World)(v:Value)(n:Nat): Prop:=NatV w v n/\(n≠0->∀ ad m c,v=.slice (some ad) m c->¬ N ad.block)
theorem NatX.ext{N:Nat->Prop}{w w':World}{v:Value}{n:Nat}(h:NatX N w v n)(hx:Ext w w'): NatX N w' v n:=⟨h.1.ext hx,h.2⟩
theorem NatX.gr{N:Nat->Prop}{w w':World}{v:Value}{n:Nat}(h:NatX N w v n)(hg:GrN N w w'): NatX N w' v n:=by
 obtain ⟨⟨A,c,rfl,G,C,u⟩,o⟩:=h;exact ⟨⟨A,c,rfl,G,C,Zo u hg (λh0 J e=>o (Jrn (by rw [Qrn]at h0;exact h0)) J _ _ (by rw [e]))⟩,o⟩
theorem NatX.nil{N:Nat->Prop}(w:World): NatX N w (.slice none 0 0) 0:=⟨NatV.nil w,λ_ o m c e=>by cases e⟩
theorem limbs_pos'{n:Nat}(h:n≠0): 0<(Jq n).length:=by rw [Jvb h];simp
theorem NatX.old{N N':Nat->Prop}{w:World}{v:Value}{n:Nat}(h:NatX N w v n)(hs:∀ k,N' k->N k∨w.heap.size<=k): NatX N' w v n:=⟨h.1,λh0 O m c e G=>by
 rcases hs _ G with h1|h1
 .exact h.2 h0 O m c e h1
 .obtain ⟨A,Z,u,_,_,C⟩:=h.1;rw [e]at u;injection u with e3 e4 e5
  subst e3;obtain ⟨J,o,U⟩:=Rd.isome C (limbs_pos' h0) om;injection o with o;subst o;omega⟩
theorem Fresh.x{N:Nat->Prop}{w w':World}{v:Value}{n:Nat}(h:Fresh w v)(hn:NatV w' v n)(hN:∀ k,N k->k<w.heap.size): NatX N w' v n :=
 ⟨hn,λ_ u m c e o=>by have:=h u m c e;have:=hN _ o;omega⟩
def TrV(N:Nat->Prop)(w:World): Tr->Value->Prop
 | .nil,u=>u=.pointer none
 | .node l v x r,u=>∃ b wt pl pr st,u=.pointer (some ⟨b,0,none⟩)/\(Blk w b 233 (v.cells++[wt,pl,pr,.int .i64 ((Tr.node l v x r).ht:Int),.int .i64 ((Tr.node l v x r).sz:Int),st])/\¬ N b)/\NatX N w wt x/\NatX N w st (Tr.node l v x r).sum/\TrV N w l pl/\TrV N w r pr
theorem TrV.gr{N:Nat->Prop}{w w':World}: ∀ {t:Tr} {u:Value},TrV N w t u->GrN N w w'->TrV N w' t u
 | .nil,u,h,_=>h
 | .node l v x r,u,h,hx=>by
  obtain ⟨b,wt,pl,pr,st,h1,⟨h2,h2'⟩,h3,h4,h5,h6⟩:=h;exact ⟨b,wt,pl,pr,st,h1,⟨Jd h2 hx h2',h2'⟩,h3.gr hx,h4.gr hx,h5.gr hx,h6.gr hx⟩
theorem TrV.ext{N:Nat->Prop}{w w':World}{t:Tr}{u:Value}(h:TrV N w t u)(hx:Ext w w'): TrV N w' t u:=h.gr (GrN.ext hx)
theorem TrV.old{N N':Nat->Prop}{w:World}(hs:∀ k,N' k->N k∨w.heap.size<=k): ∀ {t:Tr} {u:Value},TrV N w t u->TrV N' w t u
 | .nil,u,h=>h
 | .node l v x r,u,h=>by
  obtain ⟨b,wt,pl,pr,st,h1,⟨h2,h2'⟩,h3,h4,h5,h6⟩:=h;exact ⟨b,wt,pl,pr,st,h1,⟨h2,λhk=>(hs _ hk).elim h2' (λh=>by have:=h2.lt;omega)⟩,h3.old hs,h4.old hs,h5.old hs,h6.old hs⟩
theorem TrV.ptr{N:Nat->Prop}{w:World}{t:Tr}{u:Value}(h:TrV N w t u): ∃ p,u=.pointer p:=by
 cases t with
 | nil=>exact ⟨none,h⟩
 | node l v x r=>obtain ⟨b,_,_,_,_,o,_⟩:=h;exact ⟨_,o⟩
theorem Jcr{v:Value}{n:Nat}{w:World}(hv:NatV w v n)(hs:(Jq n).length<=1000): Ret Tryz.prog 56 [v] w λr w'=>NatV w' r n/\Fresh w r/\Ext w w':=by
 refine Jz Tryz.func56 Tryz.ntmps56 rfl kr rfl ?_;refine ρ ?_;refine cl (Ya hv) ?_;rintro u w' ⟨⟨A,rfl,O⟩,rfl⟩;refine ρ ?_;refine cl (Qjn O (Jgh _) om) ?_;rintro u w1 ⟨o,C⟩;obtain ⟨A',U,rfl,J,G⟩:=Jv o;refine ρ ?_;refine Jj ⟨⟨A',U,rfl,J,om,Rd.own o⟩,λZ m c e=>?_,C⟩;injection e with e1 e2 e3
 subst e1;exact (G Z.block rfl).1
theorem Qqz: ∃ k:Nat,k=900:=⟨_,rfl⟩
noncomputable def bK: Nat:=Classical.choose Qqz
theorem Jfw: bK=900:=Classical.choose_spec Qqz
def Nb(n:Nat): Prop:=n<4294967296^bK
theorem Nb.len{n:Nat}(h:Nb n): (Jq n).length<=1000:=by
 rcases Nat.eq_zero_or_pos n with h0|h0
 .rw [h0,limbs_0];simp
 .have o:=Jrp (n:=n) om;rcases Nat.lt_or_ge bK ((Jq n).length-1) with h2|h2
  .exact absurd (nM h (nL (Nat.pow_le_pow_right (by decide) (Nat.le_of_lt h2)) o)) (Nat.lt_irrefl _)
  .rw [Jfw]at h2;omega
theorem Nb.le{n m:Nat}(h:Nb n)(hm:m<=n): Nb m:=Nat.lt_of_le_of_lt hm h
theorem Kc{N:Nat->Prop}{w:World}{t:Tr}{u:Value}(h:TrV N w t u): Ret Tryz.prog 117 [u] w λr w'=>r=.int .i64 (t.ht:Int)/\w'=w:=by
 refine Jz Tryz.func117 Tryz.ntmps117 rfl kr rfl ?_;cases t with
 | nil=>
  obtain rfl:u=.pointer none:=h;refine ρ ?_;refine pnl ?_;refine ρ ?_;exact Jj ⟨rfl,rfl⟩
 | node l v x r=>
  obtain ⟨b,C,J,G,st,rfl,⟨o,_⟩,h3,Z,U,O⟩:=h;refine ρ ?_;refine pnl ?_;refine ρ ?_;refine ld (o.at (i:=6) rfl) ?_;refine ρ ?_;exact Jj ⟨rfl,rfl⟩
theorem Jmc{N:Nat->Prop}{w:World}{t:Tr}{u:Value}(h:TrV N w t u): Ret Tryz.prog 208 [u] w λr w'=>r=.int .i64 (t.sz:Int)/\w'=w:=by
 refine Jz Tryz.func208 Tryz.ntmps208 rfl kr rfl ?_;cases t with
 | nil=>
  obtain rfl:u=.pointer none:=h;refine ρ ?_;refine pnl ?_;refine ρ ?_;exact Jj ⟨rfl,rfl⟩
 | node l v x r=>
  obtain ⟨b,C,J,G,st,rfl,⟨o,_⟩,h3,Z,U,O⟩:=h;refine ρ ?_;refine pnl ?_;refine ρ ?_;refine ld (o.at (i:=7) rfl) ?_;refine ρ ?_;exact Jj ⟨rfl,rfl⟩
theorem Jjm{N:Nat->Prop}{w:World}{t:Tr}{u:Value}(h:TrV N w t u): Ret Tryz.prog 154 [u] w λr w'=>NatX N w r t.sum/\w'=w:=by
 refine Jz Tryz.func154 Tryz.ntmps154 rfl kr rfl ?_;cases t with
 | nil=>
  obtain rfl:u=.pointer none:=h;refine ρ ?_;refine pnl ?_;refine ρ ?_;exact Jj ⟨NatX.nil _,rfl⟩
 | node l v x r=>
  obtain ⟨b,G,O,J,st,rfl,⟨C,_⟩,h3,o,Z,U⟩:=h;refine ρ ?_;refine pnl ?_;refine ρ ?_;refine ld (C.at (i:=8) rfl) ?_;refine ρ ?_;exact Jj ⟨o,rfl⟩
structure NatsV(w:World)(A:Option Addr)(us:List Value)(ns:List Nat): Prop where
 rd:Rd w 1 A us.length us
 len:us.length=ns.length
 nat:∀ i,i<ns.length->NatV w (us.getD i (.int .i64 0)) (ns.getD i 0)
theorem Qdj{w:World}{A:Option Addr}{c:Nat}{us:List Value}{ns:List Nat}(h:NatsV w A us ns)(hN:Nb (ns.foldl (· + ·) 0))(hl:ns.length<=1000)(hsub:∀ i,i<=ns.length->Nb ((ns.take i).foldl (· + ·) 0))(hone:∀ x∈ns,Nb x):
  Ret Tryz.prog 209 [.slice A us.length c] w λr w'=>NatV w' r (ns.foldl (· + ·) 0)/\Fresh w r/\Ext w w':=by
 have a2:=h.len;refine Jz Tryz.func209 Tryz.ntmps209 rfl kr rfl ?_;refine ρ ?_;refine Jt (fun (i:Nat) (vs:Value)=>[(0,.slice A us.length c),(3,vs),(6,.int .i64 (us.length:Int)),(7,.int .i64 (i:Int))])
  (λi vs w'=>i<=ns.length/\Ext w w'/\NatV w' vs ((ns.take i).foldl (· + ·) 0)/\Fresh w vs) (λi _=>ns.length-i) 0 (.slice none 0 0) sB
  ⟨Nat.zero_le _,Ext.refl _,NatV.nil _,λad m c e=>by cases e⟩ ?_
 rintro i vs w1 ⟨hi,o,O,Z⟩;refine ρ ?_;refine ci (λG=>?_) (λG=>?_)
 .have C:i<ns.length:=by have:=oT G;omega
  clear G;refine ρ ?_;refine ix i (h.rd.ext o) om ?_;have u:us[i]?=some (us.getD i (.int .i64 0)):=by simp [List.getD,List.getElem?_eq_getElem (show i<us.length by omega)]
  refine ρ ?_;refine ld ((h.rd.ext o).cell u) ?_;refine ρ ?_;refine cl (Jqj O ((h.nat i C).ext o) (hsub i hi).len (hone _ (by simp [List.getD,List.getElem?_eq_getElem C])).len) ?_;rintro r w2 ⟨hr,a1,J⟩;refine ρ ?_;refine Jg (i+1) r sO ⟨C,o.trans J,?_,λad m c e=>nL o.size (a1 ad m c e)⟩ om;rw [Qy 0 C,List.foldl_append];exact hr
 have U:i=ns.length:=by have:=oF G;omega
 rw [U,List.take_length]at O;refine ρ ?_;exact Jj ⟨O,Z,o⟩
theorem Qnj(v:V)(wt st:Value)(A1 A2:Option Addr)(n1 n2 c1 c2:Nat)(pl pr:Option Addr)(y z:Int)(h1:wt=.slice A1 n1 c1)(h2:st=.slice A2 n2 c2)(w:World): (Instr.build 233 #[(0,.agg (v.cells++[wt]).toArray),(1,.pointer pl),(2,.pointer pr),(3,.int .i64 y),(4,.int .i64 z),(5,st)]).run Tryz.prog w=.ok (.agg (v.cells++[wt,.pointer pl,.pointer pr,.int .i64 y,.int .i64 z,st]).toArray) w:=by
 subst h1;subst h2;kernel_rfl
theorem Qmq(v1 v2 v3:Value)(A1 A2 A3:Option Addr)(n1 n2 n3 c1 c2 c3:Nat)(h1:v1=.slice A1 n1 c1)(h2:v2=.slice A2 n2 c2)(h3:v3=.slice A3 n3 c3)(w:World): (Instr.buildSlice 312 3 #[(0,v1),(1,v2),(2,v3)]).run Tryz.prog w=.ok (.slice (some ⟨w.heap.size,0,none⟩) 3 3) (w.alloc (.cells [v1,v2,v3].toArray 29)):=by
 subst h1;subst h2;subst h3;kernel_rfl
theorem Yz{N:Nat->Prop}{w:World}{l r:Tr}{pl pr wt:Value}{v:V}{x:Nat}(hl:TrV N w l pl)(hr:TrV N w r pr)(hw:NatX N w wt x)(hN:∀ k,N k->k<w.heap.size)(hb:Nb (Tr.node l v x r).sum)(hs:(Tr.node l v x r).sz<=1000000):
  Ret Tryz.prog 190 [pl,.agg (v.cells++[wt]).toArray,pr] w λu w'=>TrV N w' (.node l v x r) u/\Ext w w':=by
 obtain ⟨ql,rfl⟩:=hl.ptr;obtain ⟨qr,rfl⟩:=hr.ptr;refine Jz Tryz.func190 Tryz.ntmps190 rfl kr rfl ?_;refine ρ ?_;refine bx (cs:=v.cells++[wt]) ?_;intro w1 b a9 aj hB;refine ρ ?_;have a1:Ext w1 w1.drew:=(Ext.refl w1).drew;have C:=a9.trans a1;have a7:=hB.ext a1;have O:=hl.ext C;have J:=hr.ext C;have Z:=hw.ext C;have ag:=Tr.ht_le l;have af:=Tr.ht_le r;simp only [Tr.sz]at hs;refine dr [(0,0),(0,1),(0,2),(0,3),(0,5),(0,9),(0,12),(0,15),(0,17),(0,18),(0,19),(1,4),(1,6),(0,7),(0,8),(1,10),(0,11),(1,13),(0,14),(1,16),(1,20),(1,21),(1,22),(0,23),(1,24),(0,25)] kr ?_;refine ρd ?_;refine Qk (cs:=v.cells++[wt]) (λj u hu=>a7.at hu) ?_;refine ρd ?_;refine dld (a7.at (i:=3) rfl) ?_;refine ρd ?_;refine dcl (Kc O) ?_;rintro u2 w2 ⟨rfl,rfl⟩;refine ⟨Ext.refl _,?_⟩;refine ρd ?_;refine dcl (Kc J) ?_;rintro u2 w2 ⟨rfl,rfl⟩;refine ⟨Ext.refl _,?_⟩;refine ρd ?_;refine dcl (Jmc O) ?_
 rintro u2 w2 ⟨rfl,rfl⟩;refine ⟨Ext.refl _,?_⟩;refine ρd ?_;refine dcl (Jmc J) ?_;rintro u2 w2 ⟨rfl,rfl⟩;refine ⟨Ext.refl _,?_⟩;refine ρd ?_;refine dcl (Jjm O) ?_;rintro ul w2 ⟨a4,rfl⟩;refine ⟨Ext.refl _,?_⟩;refine ρd ?_;refine dcl (Jjm J) ?_;rintro ur w2 ⟨a3,rfl⟩;refine ⟨Ext.refl _,?_⟩;obtain ⟨A1,c1,e1,_⟩:=id a4.1;obtain ⟨A2,c2,e2,_⟩:=id Z.1;obtain ⟨A3,c3,e3,_⟩:=id a3.1;refine ρd ?_;refine dbsl (Qmq _ _ _ _ _ _ _ _ _ _ _ _ e1 e2 e3) ?_;intro w3 b3 G ai ae;have ab:NatsV w3 (some ⟨b3,0,none⟩) [ul,wt,ur] [l.sum,x,r.sum]:=by
  refine ⟨ae.rd (n:=3) rfl,rfl,λi hi=>?_⟩;match i,hi with
  | 0,_=>exact a4.1.ext G
  | 1,_=>exact Z.1.ext G
  | 2,_=>exact a3.1.ext G
 simp only [Tr.sum]at hb;refine ρd ?_;refine dcl (Qdj (us:=[ul,wt,ur]) ab (hb.le (by simp)) (by simp) (λi hi=>hb.le ?_) (λy hy=>hb.le ?_)) ?_
 .match i,hi with
  | 0,_=>simp
  | 1,_=>simp;omega
  | 2,_=>simp
  | 3,_=>simp
 .simp only [List.mem_cons,List.not_mem_nil,or_false]at hy;rcases hy with rfl|rfl|rfl<;>omega
 rintro st w4 ⟨a6,ad,U⟩;refine ⟨U,?_⟩;obtain ⟨A4,c4,e4,_⟩:=id a6;refine ρd ?_;refine dbld (Qnj v wt st A2 A4 _ _ _ _ ql qr _ _ e2 e4) ?_;refine ρd ?_;refine dbx (cs:=v.cells++[wt,.pointer ql,.pointer qr,.int .i64 _,.int .i64 _,st]) ?_;intro w5 b5 a2 ah a8;refine ρd ?_;refine ρ ?_;have e5:(if (l.ht:Int)<(r.ht:Int) then (r.ht:Int) else (l.ht:Int))+1=((Tr.node l v x r).ht:Int):=by simp only [Tr.ht];split<;>omega
 have e6:(l.sz:Int)+1+r.sz=((Tr.node l v x r).sz:Int):=by simp only [Tr.sz];omega
 rw [e5,e6]at a8;have o:=(G.trans U).trans a2;have aa:=nL C.size G.size;have a5:NatX N w5 st (Tr.node l v x r).sum:=by
  have:=a6.ext a2;simp only [List.foldl_cons,List.foldl_nil,Nat.zero_add]at this;exact ad.x this λk hk=>nM (hN k hk) aa
 have ac:¬ N b5:=λhk=>by have:=hN _ hk;have:=U.size;omega
 exact Jj ⟨⟨b5,wt,_,_,st,rfl,⟨a8,ac⟩,Z.ext o,a5,O.ext o,J.ext o⟩,C.trans o⟩
end Go.Proofs.YtebcagekopgdhaaGreatDoor
namespace Go.Wk
theorem _root_.Go.Wk.Blk.pre{w:World}{b t:Nat}{cs ds:List Value}(h:Blk w b t (cs++ds))(j:Nat)(u:Value)(hu:cs[j]?=some u): w.cell? ((⟨b,0,none⟩:Addr).add j)=some u :=
 h.at (by rw [List.getElem?_append_left (List.getElem?_eq_some_iff.1 hu).1];exact hu)
end Go.Wk
namespace Go.Proofs.YtebcagekopgdhaaGreatDoor
open Go.RowKit Pl Go.Wk
attribute [local irreducible] WC WL QX WD WDB WP WN WG
theorem Qqr{N:Nat->Prop}{w:World}{l r:Tr}{pl pr wt:Value}{v:V}{x:Nat}(hl:TrV N w l pl)(hr:TrV N w r pr)(hw:NatX N w wt x)(hN:∀ k,N k->k<w.heap.size)(hb:Nb (Tr.node l v x r).sum)(hs:(Tr.node l v x r).sz<=1000000):
  Ret Tryz.prog 191 [pl,.agg (v.cells++[wt]).toArray,pr] w λu w'=>TrV N w' (Tr.bal l v x r) u/\Ext w w':=by
 obtain ⟨ql,rfl⟩:=hl.ptr;obtain ⟨qr,rfl⟩:=hr.ptr;have be:=Tr.ht_le l;have bd:=Tr.ht_le r;have ai:l.sz+1+r.sz<=1000000:=hs;have Z:Nb (l.sum+x+r.sum):=hb;refine Jz Tryz.func191 Tryz.ntmps191 rfl kr rfl ?_;refine ρ ?_;refine bx (cs:=v.cells++[wt]) ?_;intro w1 b J bf hB;have ad:=hl.ext J;have aa:=hr.ext J;have a9:=hw.ext J;refine ρ ?_;refine cl (Kc ad) ?_;rintro u2 w2 ⟨rfl,rfl⟩;refine ρ ?_;refine cl (Kc aa) ?_;rintro u2 w2 ⟨rfl,rfl⟩;have a7:Ext w2 w2.drew:=(Ext.refl w2).drew;refine ρ ?_;by_cases hc:r.ht+1<l.ht
 .cases l with
  | nil=>simp [Tr.ht]at hc
  | node ll lv lx lr=>
   obtain ⟨bl,wl,ba,b9,sl,e1,⟨ah,b5⟩,au,bc,an,am⟩:=id ad;obtain rfl:ql=some ⟨bl,0,none⟩:=by injection e1
   obtain ⟨b6,rfl⟩:=an.ptr;obtain ⟨aq,rfl⟩:=am.ptr;simp only [Tr.sum,Tr.sz]at Z ai;have af:decide ((r.ht:Int)+1<((Tr.node ll lv lx lr).ht:Int))=true:=decide_eq_true om;refine dr [(0,0),(0,1),(0,2),(0,3),(0,4),(0,5),(0,6),(0,7),(0,8),(0,10),(0,11),(0,12),(0,13),(1,9),(1,14),(0,15),(0,16),(0,17)] kr ?_;refine ρd ?_;refine dkt 20 af ?_;refine ρd ?_;refine dld ((ah.ext a7).at (i:=4) rfl) ?_;refine ρd ?_;refine dld ((ah.ext a7).at (i:=5) rfl) ?_;refine ρd ?_;refine dcl (Kc (an.ext a7)) ?_;rintro u3 w3 ⟨rfl,rfl⟩;refine ⟨Ext.refl _,?_⟩;refine ρd ?_;refine dcl (Kc (am.ext a7)) ?_;rintro u3 w3 ⟨rfl,rfl⟩;refine ⟨Ext.refl _,?_⟩;refine ρd ?_;refine ρ ?_;refine ci (λO=>?_) (λO=>?_)
   .have O:lr.ht<=ll.ht:=by have:=oT O;omega
    have o:Ext w2 w2.drew.drew:=a7.drew;have a6:=ah.ext o;refine ρ ?_;refine dr [(0,0),(0,1),(0,2),(0,3),(0,4),(0,5),(0,6),(0,7),(0,8),(0,9),(0,10),(0,11),(0,12),(0,13),(1,14),(1,15),(0,16)] kr ?_;refine ρd ?_;refine dld (a6.at (i:=4) rfl) ?_;refine ρd ?_;refine Qk (cs:=lv.cells++[wl]) (Blk.pre (cs:=lv.cells++[wl]) a6) ?_;refine ρd ?_;refine dld (a6.at (i:=5) rfl) ?_;refine ρd ?_;refine Qk (cs:=v.cells++[wt]) (λj u hu=>(hB.ext o).at hu) ?_;refine ρd ?_;refine dcl (Yz (am.ext o) (aa.ext o) (a9.ext o) (λk U=>nM (hN k U) (J.trans o).size) (Z.le (by simp only [Tr.sum];omega)) (by simp only [Tr.sz];omega)) ?_;rintro uj w4 ⟨hj,a2⟩;refine ⟨a2,?_⟩;have C:=o.trans a2;refine ρd ?_;refine dcl (Yz (an.ext C) hj (au.ext C) (λk U=>nM (hN k U) (J.trans C).size) (Z.le (by simp only [Tr.sum];omega)) (by simp only [Tr.sz];omega)) ?_;rintro uk w5 ⟨U,a1⟩
    refine ⟨a1,?_⟩;refine ρd ?_;refine ρ ?_;refine Jj ⟨?_,(J.trans C).trans a1⟩;have e:Tr.bal (.node ll lv lx lr) v x r=.node ll lv lx (.node lr v x r):=by simp only [Tr.bal,if_pos hc,if_pos O]
    rw [e];exact U
   have O:ll.ht<lr.ht:=by have:=oF O;omega
   refine ρ ?_;refine ct af ?_;cases lr with
   | nil=>simp [Tr.ht]at O
   | node ml mv mx mr=>
    obtain ⟨bm,wm,b2,b1,sm,e2,⟨ap,av⟩,ao,b3,ac,ab⟩:=id am;obtain rfl:aq=some ⟨bm,0,none⟩:=by injection e2
    obtain ⟨ay,rfl⟩:=ac.ptr;obtain ⟨ax,rfl⟩:=ab.ptr;simp only [Tr.sum,Tr.sz]at Z ai;refine ρ ?_;refine ld ((ah.ext a7).at (i:=5) rfl) ?_;refine ρ ?_;have o:Ext w2 w2.drew.drew:=a7.drew;have a6:=ah.ext o;have a4:=ap.ext o;refine dr [(0,0),(0,1),(0,2),(0,3),(0,4),(0,5),(0,6),(0,7),(0,8),(0,9),(0,10),(0,11),(0,13),(0,14),(0,15),(0,16),(0,17),(0,18),(0,19),(0,20),(0,21),(0,22),(1,12),(1,23),(1,24),(0,25)] kr ?_;refine ρd ?_;refine dld (a6.at (i:=4) rfl) ?_;refine ρd ?_;refine Qk (cs:=lv.cells++[wl]) (Blk.pre (cs:=lv.cells++[wl]) a6) ?_;refine ρd ?_;refine dld (a4.at (i:=4) rfl) ?_;refine ρd ?_;refine Qk (cs:=mv.cells++[wm]) (Blk.pre (cs:=mv.cells++[wm]) a4) ?_;refine ρd ?_;refine dld (a4.at (i:=5) rfl) ?_;refine ρd ?_;refine Qk (cs:=v.cells++[wt]) (λj u hu=>(hB.ext o).at hu) ?_;refine ρd ?_;refine dcl (Yz (an.ext o) (ac.ext o) (au.ext o) (λk U=>nM (hN k U) (J.trans o).size) (Z.le (by simp only [Tr.sum];omega)) (by simp only [Tr.sz];omega)) ?_
    rintro uj w4 ⟨hj,a2⟩;refine ⟨a2,?_⟩;have C:=o.trans a2;refine ρd ?_;refine dcl (Yz (ab.ext C) (aa.ext C) (a9.ext C) (λk U=>nM (hN k U) (J.trans C).size) (Z.le (by simp only [Tr.sum];omega)) (by simp only [Tr.sz];omega)) ?_;rintro uk w5 ⟨U,a1⟩;refine ⟨a1,?_⟩;have a3:=C.trans a1;refine ρd ?_;refine dcl (Yz (hj.ext a1) U (ao.ext a3) (λk U=>nM (hN k U) (J.trans a3).size) (Z.le (by simp only [Tr.sum];omega)) (by simp only [Tr.sz];omega)) ?_;rintro uo w6 ⟨ho,a8⟩;refine ⟨a8,?_⟩;refine ρd ?_;refine ρ ?_;refine Jj ⟨?_,(J.trans a3).trans a8⟩;have e:Tr.bal (.node ll lv lx (.node ml mv mx mr)) v x r=.node (.node ll lv lx ml) mv mx (.node mr v x r):=by simp only [Tr.bal,if_pos hc,if_neg (Nat.not_le.2 O)]
    rw [e];exact ho
 .refine dr [(0,0),(0,1),(0,2),(0,3),(0,4),(0,5),(0,6),(0,7),(0,8),(0,10),(0,11),(0,12),(0,13),(1,9),(1,14),(0,15),(0,16),(0,17)] kr ?_;refine ρd ?_;have af:decide ((r.ht:Int)+1<(l.ht:Int))=false:=dF om;refine dkf 20 af ?_;refine ρd ?_;refine ρ ?_;refine cf af ?_;refine ρ ?_;by_cases hd:l.ht+1<r.ht
  .cases r with
   | nil=>simp [Tr.ht]at hd
   | node rl rv rx rr=>
    obtain ⟨br,wr,b8,b7,sr,e1,⟨ag,b4⟩,ar,bb,ak,aj⟩:=id aa;obtain rfl:qr=some ⟨br,0,none⟩:=by injection e1
    obtain ⟨aw,rfl⟩:=ak.ptr;obtain ⟨aq,rfl⟩:=aj.ptr;simp only [Tr.sum,Tr.sz]at Z ai;have o:Ext w2 w2.drew.drew:=a7.drew;have ae:decide ((l.ht:Int)+1<((Tr.node rl rv rx rr).ht:Int))=true:=decide_eq_true om;refine dr [(0,0),(0,1),(0,2),(0,3),(0,4),(0,5),(0,6),(0,7),(0,8),(0,10),(0,11),(0,12),(0,13),(1,9),(1,14),(0,15),(0,16),(0,17)] kr ?_;refine ρd ?_;refine dkt 88 ae ?_;refine ρd ?_;refine dld ((ag.ext o).at (i:=5) rfl) ?_;refine ρd ?_;refine dld ((ag.ext o).at (i:=4) rfl) ?_;refine ρd ?_;refine dcl (Kc (aj.ext o)) ?_;rintro u3 w3 ⟨rfl,rfl⟩;refine ⟨Ext.refl _,?_⟩;refine ρd ?_;refine dcl (Kc (ak.ext o)) ?_;rintro u3 w3 ⟨rfl,rfl⟩;refine ⟨Ext.refl _,?_⟩;refine ρd ?_;refine ρ ?_;refine ci (λO=>?_) (λO=>?_)
    .have O:rl.ht<=rr.ht:=by have:=oT O;omega
     have G:Ext w2 w2.drew.drew.drew:=o.drew;have a5:=ag.ext G;refine ρ ?_;refine dr [(0,0),(0,1),(0,2),(0,3),(0,4),(0,5),(0,7),(0,8),(0,9),(0,10),(0,11),(0,12),(0,13),(0,14),(1,6),(1,15),(0,16)] kr ?_;refine ρd ?_;refine Qk (cs:=v.cells++[wt]) (λj u hu=>(hB.ext G).at hu) ?_;refine ρd ?_;refine dld (a5.at (i:=4) rfl) ?_;refine ρd ?_;refine Qk (cs:=rv.cells++[wr]) (Blk.pre (cs:=rv.cells++[wr]) a5) ?_;refine ρd ?_;refine dld (a5.at (i:=5) rfl) ?_;refine ρd ?_;refine dcl (Yz (ad.ext G) (ak.ext G) (a9.ext G) (λk U=>nM (hN k U) (J.trans G).size) (Z.le (by simp only [Tr.sum];omega)) (by simp only [Tr.sz];omega)) ?_;rintro uj w4 ⟨hj,a2⟩;refine ⟨a2,?_⟩;have C:=G.trans a2;refine ρd ?_;refine dcl (Yz hj (aj.ext C) (ar.ext C) (λk U=>nM (hN k U) (J.trans C).size) (Z.le (by simp only [Tr.sum];omega)) (by simp only [Tr.sz];omega)) ?_;rintro uk w5 ⟨U,a1⟩
     refine ⟨a1,?_⟩;refine ρd ?_;refine ρ ?_;refine Jj ⟨?_,(J.trans C).trans a1⟩;have e:Tr.bal l v x (.node rl rv rx rr)=.node (.node l v x rl) rv rx rr:=by simp only [Tr.bal,if_neg hc,if_pos hd,if_pos O]
     rw [e];exact U
    have O:rr.ht<rl.ht:=by have:=oF O;omega
    refine ρ ?_;refine ct ae ?_;cases rl with
    | nil=>simp [Tr.ht]at O
    | node ml mv mx mr=>
     obtain ⟨bm,wm,b2,b1,sm,e2,⟨ap,av⟩,ao,b3,ac,ab⟩:=id ak;obtain rfl:aw=some ⟨bm,0,none⟩:=by injection e2
     obtain ⟨ay,rfl⟩:=ac.ptr;obtain ⟨ax,rfl⟩:=ab.ptr;simp only [Tr.sum,Tr.sz]at Z ai;refine ρ ?_;refine ld ((ag.ext o).at (i:=4) rfl) ?_;refine ρ ?_;have G:Ext w2 w2.drew.drew.drew:=o.drew;have a5:=ag.ext G;have a4:=ap.ext G;refine dr [(0,0),(0,1),(0,2),(0,3),(0,4),(0,5),(0,7),(0,8),(0,9),(0,10),(0,11),(0,12),(0,13),(0,14),(0,15),(0,16),(0,17),(0,18),(0,19),(0,20),(0,21),(0,22),(1,6),(1,23),(1,24),(0,25)] kr ?_;refine ρd ?_;refine Qk (cs:=v.cells++[wt]) (λj u hu=>(hB.ext G).at hu) ?_;refine ρd ?_;refine dld (a4.at (i:=4) rfl) ?_;refine ρd ?_;refine Qk (cs:=mv.cells++[wm]) (Blk.pre (cs:=mv.cells++[wm]) a4) ?_;refine ρd ?_;refine dld (a4.at (i:=5) rfl) ?_;refine ρd ?_;refine Qk (cs:=rv.cells++[wr]) (Blk.pre (cs:=rv.cells++[wr]) a5) ?_;refine ρd ?_;refine dld (a5.at (i:=5) rfl) ?_;refine ρd ?_;refine dcl (Yz (ad.ext G) (ac.ext G) (a9.ext G) (λk U=>nM (hN k U) (J.trans G).size) (Z.le (by simp only [Tr.sum];omega)) (by simp only [Tr.sz];omega)) ?_
     rintro uj w4 ⟨hj,a2⟩;refine ⟨a2,?_⟩;have C:=G.trans a2;refine ρd ?_;refine dcl (Yz (ab.ext C) (aj.ext C) (ar.ext C) (λk U=>nM (hN k U) (J.trans C).size) (Z.le (by simp only [Tr.sum];omega)) (by simp only [Tr.sz];omega)) ?_;rintro uk w5 ⟨U,a1⟩;refine ⟨a1,?_⟩;have a3:=C.trans a1;refine ρd ?_;refine dcl (Yz (hj.ext a1) U (ao.ext a3) (λk U=>nM (hN k U) (J.trans a3).size) (Z.le (by simp only [Tr.sum];omega)) (by simp only [Tr.sz];omega)) ?_;rintro uo w6 ⟨ho,a8⟩;refine ⟨a8,?_⟩;refine ρd ?_;refine ρ ?_;refine Jj ⟨?_,(J.trans a3).trans a8⟩;have e:Tr.bal l v x (.node (.node ml mv mx mr) rv rx rr)=.node (.node l v x ml) mv mx (.node mr rv rx rr):=by simp only [Tr.bal,if_neg hc,if_pos hd,if_neg (Nat.not_le.2 O)]
     rw [e];exact ho
  .refine dr [(0,0),(0,1),(0,2),(0,3),(0,4),(0,5),(0,6),(0,7),(0,8),(0,10),(0,11),(0,12),(0,13),(1,9),(1,14),(0,15),(0,16),(0,17)] kr ?_;refine ρd ?_;have ae:decide ((l.ht:Int)+1<(r.ht:Int))=false:=dF om;refine dkf 88 ae ?_;refine ρd ?_;refine ρ ?_;refine cf ae ?_;have o:Ext w2 w2.drew.drew:=a7.drew;refine ρ ?_;refine lds (cs:=v.cells++[wt]) (λj u hu=>(hB.ext o).at hu) ?_;refine ρ ?_;refine cl (Yz (ad.ext o) (aa.ext o) (a9.ext o) (λk U=>nM (hN k U) (J.trans o).size) hb hs) ?_;rintro uj w4 ⟨hj,a2⟩;refine ρ ?_;refine Jj ⟨?_,(J.trans o).trans a2⟩;have e:Tr.bal l v x r=.node l v x r:=by simp only [Tr.bal,if_neg hc,if_neg hd]
   rw [e];exact hj
open Go.RowKit Pl Go.Wk
theorem neg_lt{d:Bool}{a b:V}: neg d (cmpV a b)=if d=true then cmpV b a else cmpV a b:=by
 unfold neg;split
 .exact (cmp_V.anti a b).symm
 .rfl
theorem Qjd{w:World}{d:Bool}{p:Option Addr}{a b:V}: Ret Tryz.prog 153 [.agg #[.bool d,.pointer p],a.val,b.val] w λu w'=>u=.int .i64 (neg d (cmpV a b))/\Ext w w':=by
 rw [neg_lt];refine Jz Tryz.func153 Tryz.ntmps153 rfl kr rfl ?_;refine ρ ?_;refine bx ?_;intro w1 b1 U a6 a3;refine ρ ?_;refine bx (cs:=a.cells) ?_;intro w2 b2 J a5 a2;refine ρ ?_;refine bx (cs:=b.cells) ?_;intro w3 b3 o a4 Z;have a1:=(a3.ext J).ext o;have C:=a2.ext o;refine ρ ?_;refine ld (a1.at (i:=0) rfl) ?_;refine ρ ?_;refine ci (λh=>?_) (λh=>?_)
 .refine ρ ?_;refine lds (cs:=b.cells) (λj u O=>Z.at O) ?_;refine ρ ?_;refine lds (cs:=a.cells) (λj u O=>C.at O) ?_;refine ρ ?_;refine cl (Jjh b a _) ?_;rintro u w4 ⟨rfl,G⟩;refine ρ ?_;refine Jj ⟨?_,((U.trans J).trans o).trans G⟩;rw [if_pos h]
 .refine ρ ?_;refine lds (cs:=a.cells) (λj u O=>C.at O) ?_;refine ρ ?_;refine lds (cs:=b.cells) (λj u O=>Z.at O) ?_;refine ρ ?_;refine cl (Jjh a b _) ?_;rintro u w4 ⟨rfl,G⟩;refine ρ ?_;refine Jj ⟨?_,((U.trans J).trans o).trans G⟩;rw [if_neg (by rw [h];simp)]
theorem Qqt(l:Tr)(v:V)(x:Nat)(r:Tr): (Tr.bal l v x r).sum=l.sum+x+r.sum:=by
 have:=congrArg tot (Tr.toL_bal l v x r);rw [<-Tr.sum_eq,Jxq,tot,<-Tr.sum_eq,<-Tr.sum_eq]at this;rw [this];simp only;omega
theorem Jxz(d:Bool)(v:V)(x:Nat): ∀ t:Tr,(Tr.put d v x t).sum<=t.sum+x
 | .nil=>by simp [Tr.put,Tr.sum]
 | .node l a y r=>by
  have h1:=Jxz d v x l;have h2:=Jxz d v x r;unfold Tr.put;split
  .rw [Qqt,Tr.sum];omega
  .split
   .rw [Qqt,Tr.sum];omega
   .rw [Tr.sum,Tr.sum];omega
theorem Qbd{N:Nat->Prop}{d:Bool}{p0:Option Addr}{v:V}{x:Nat}{wt:Value}: ∀ (t:Tr) (p:Value) (w:World),TrV N w t p->NatX N w wt x->(∀ k,N k->k<w.heap.size)->Nb (t.sum+x)->t.sz+1<=1000000 ->
  Ret Tryz.prog 168 [.agg #[.bool d,.pointer p0],p,.agg (v.cells++[wt]).toArray] w λu w'=>TrV N w' (Tr.put d v x t) u/\Ext w w':=by
 intro t;induction t with
 | nil=>
  intro p w hp hw hN hb hs;obtain rfl:p=.pointer none:=hp;refine Jz Tryz.func168 Tryz.ntmps168 rfl kr rfl ?_;refine ρ ?_;refine bx ?_;intro w1 b1 a9 ai ae;refine ρ ?_;refine bx (cs:=v.cells++[wt]) ?_;intro w2 b2 a7 ah ab;have hx:=a9.trans a7;refine ρ ?_;refine pnl ?_;refine ρ ?_;refine lds (cs:=v.cells++[wt]) (λj u U=>ab.at U) ?_;refine ρ ?_;refine cl (Yz (l:=.nil) (r:=.nil) (show TrV N w2 .nil (.pointer none) from rfl) (show TrV N w2 .nil (.pointer none) from rfl) (hw.ext hx) (λk hk=>nM (hN k hk) hx.size) (hb.le (by simp [Tr.sum])) (by simp [Tr.sz])) ?_;rintro u w3 ⟨U,O⟩;refine ρ ?_;exact Jj ⟨U,hx.trans O⟩
 | node l a y r ihl ihr=>
  intro p w hp hw hN hb hs;obtain ⟨bn,wn,pl,pr,sn,rfl,⟨a8,aj⟩,ac,ak,hl,hr⟩:=id hp;obtain ⟨ql,rfl⟩:=hl.ptr;obtain ⟨qr,rfl⟩:=hr.ptr;simp only [Tr.sum]at hb;simp only [Tr.sz]at hs;refine Jz Tryz.func168 Tryz.ntmps168 rfl kr rfl ?_;refine ρ ?_;refine bx ?_;intro w1 b1 a9 ai ae;refine ρ ?_;refine bx (cs:=v.cells++[wt]) ?_;intro w2 b2 a7 ah ab;have hx:=a9.trans a7;refine ρ ?_;refine pnl ?_;refine ρ ?_;have a6:Ext w2 w2.drew:=(Ext.refl w2).drew;have ad:=a8.ext (hx.trans a6);have a5:=(ae.ext a7).ext a6;have a1:=ab.ext a6;refine dr [(0,0),(0,1),(0,2),(0,3),(0,4),(0,5),(0,6),(0,7),(1,8),(0,9)] kr ?_;refine ρd ?_;refine Qk (cs:=[.bool d,.pointer p0]) (λj u U=>a5.at U) ?_;refine ρd ?_;refine Qk (cs:=v.cells) (Blk.pre (cs:=v.cells) a1) ?_;refine ρd ?_;refine Qk (cs:=a.cells) (Blk.pre (cs:=a.cells) ad) ?_;refine ρd ?_;refine dcl (Qjd (a:=v) (b:=a)) ?_;rintro u w3 ⟨rfl,O⟩
  refine ⟨O,?_⟩;refine ρd ?_;refine ρ ?_;have a3:=(hx.trans a6).trans O;refine ci (λhc=>?_) (λhc=>?_)
  .have hc:=oT hc;have C:Ext w3 w3.drew:=(Ext.refl w3).drew;have o:=a3.trans C;have G:=a8.ext o;refine ρ ?_;refine dr [(0,0),(0,1),(0,2),(0,3),(0,4),(0,5),(0,7),(0,8),(0,9),(0,10),(0,11),(0,12),(0,13),(0,14),(1,6),(1,15),(0,16)] kr ?_;refine ρd ?_;refine Qk (cs:=[.bool d,.pointer p0]) (λj u U=>((a5.ext O).ext C).at U) ?_;refine ρd ?_;refine dld (G.at (i:=4) rfl) ?_;refine ρd ?_;refine Qk (cs:=v.cells++[wt]) (λj u U=>((a1.ext O).ext C).at U) ?_;refine ρd ?_;refine Qk (cs:=a.cells++[wn]) (Blk.pre (cs:=a.cells++[wn]) G) ?_;refine ρd ?_;refine dld (G.at (i:=5) rfl) ?_;refine ρd ?_;refine dcl (ihl _ _ (hl.ext o) (hw.ext o) (λk hk=>nM (hN k hk) o.size) (hb.le om) om) ?_;rintro u w4 ⟨a4,J⟩;refine ⟨J,?_⟩;have ag:=Tr.put_sz d v x l;have af:=Jxz d v x l;refine ρd ?_;refine dcl (Qqr a4 (hr.ext (o.trans J)) (ac.ext (o.trans J)) (λk hk=>nM (hN k hk) (o.trans J).size) (hb.le (by simp only [Tr.sum];omega)) (by simp only [Tr.sz];omega)) ?_
   rintro u w5 ⟨aa,a2⟩;refine ⟨a2,?_⟩;refine ρd ?_;refine ρ ?_;refine Jj ⟨?_,(o.trans J).trans a2⟩;rw [Tr.put,if_pos hc];exact aa
  have hc:=oF hc;refine ρ ?_;refine ci (λZ=>?_) (λZ=>?_)
  .have Z:=oT Z;have C:Ext w3 w3.drew:=(Ext.refl w3).drew;have o:=a3.trans C;have G:=a8.ext o;refine ρ ?_;refine dr [(0,0),(0,1),(0,2),(0,3),(0,4),(0,5),(0,6),(0,7),(0,8),(0,9),(0,10),(0,11),(0,12),(0,13),(1,14),(1,15),(0,16)] kr ?_;refine ρd ?_;refine dld (G.at (i:=4) rfl) ?_;refine ρd ?_;refine Qk (cs:=a.cells++[wn]) (Blk.pre (cs:=a.cells++[wn]) G) ?_;refine ρd ?_;refine Qk (cs:=[.bool d,.pointer p0]) (λj u U=>((a5.ext O).ext C).at U) ?_;refine ρd ?_;refine dld (G.at (i:=5) rfl) ?_;refine ρd ?_;refine Qk (cs:=v.cells++[wt]) (λj u U=>((a1.ext O).ext C).at U) ?_;refine ρd ?_;refine dcl (ihr _ _ (hr.ext o) (hw.ext o) (λk hk=>nM (hN k hk) o.size) (hb.le om) om) ?_;rintro u w4 ⟨a4,J⟩;refine ⟨J,?_⟩;have ag:=Tr.put_sz d v x r;have af:=Jxz d v x r;refine ρd ?_;refine dcl (Qqr (hl.ext (o.trans J)) a4 (ac.ext (o.trans J)) (λk hk=>nM (hN k hk) (o.trans J).size) (hb.le (by simp only [Tr.sum];omega)) (by simp only [Tr.sz];omega)) ?_
   rintro u w5 ⟨aa,a2⟩;refine ⟨a2,?_⟩;refine ρd ?_;refine ρ ?_;refine Jj ⟨?_,(o.trans J).trans a2⟩;rw [Tr.put,if_neg hc,if_pos Z];exact aa
  have Z:=oF Z;have C:Ext w3 w3.drew:=(Ext.refl w3).drew;have o:=a3.trans C;have G:=a8.ext o;refine ρ ?_;refine dr [(0,0),(0,1),(0,2),(0,3),(0,4),(0,5),(0,6),(0,7),(0,8),(1,9),(0,10)] kr ?_;refine ρd ?_;refine dld (G.at (i:=4) rfl) ?_;refine ρd ?_;refine Qk (cs:=v.cells++[wt]) (λj u U=>((a1.ext O).ext C).at U) ?_;refine ρd ?_;refine dld (G.at (i:=5) rfl) ?_;refine ρd ?_;refine dcl (Yz (hl.ext o) (hr.ext o) (hw.ext o) (λk hk=>nM (hN k hk) o.size) (hb.le (by simp only [Tr.sum];omega)) (by simp only [Tr.sz];omega)) ?_;rintro u w4 ⟨a4,J⟩;refine ⟨J,?_⟩;refine ρd ?_;refine ρ ?_;refine Jj ⟨?_,o.trans J⟩;rw [Tr.put,if_neg hc,if_neg Z];exact a4
theorem Yj: Qt Tryz.prog 138=some (.agg #[.bool false,.pointer none]):=kr
theorem Qnf(d:Bool)(p:Option Addr)(w:World): (Instr.build 138 #[(0,.bool d),(1,.pointer p)]).run Tryz.prog w=.ok (.agg #[.bool d,.pointer p]) w:=kr
theorem Qnc(d:Bool)(w:World): (Instr.build 138 #[(0,.bool d)]).run Tryz.prog w=.ok (.agg #[.bool d,.pointer none]) w:=kr
theorem Qnq(v:V)(wt:Value)(A:Option Addr)(n c:Nat)(h:wt=.slice A n c)(w:World): (Instr.build 231 #[(0,v.val),(1,wt)]).run Tryz.prog w=.ok (.agg (v.cells++[wt]).toArray) w:=by subst h;kernel_rfl
theorem Qcp{d:Bool}{p:Option Addr}: ∀ u∈[Value.bool d,.pointer p],u.oneCell'=true:=λu o=>by
 simp only [List.mem_cons,List.not_mem_nil,or_false]at o;rcases o with rfl|rfl<;>rfl
theorem Qdh{w:World}{d:Bool}: Ret Tryz.prog 136 [.bool d] w λu w'=>u=.agg #[.bool d,.pointer none]/\Ext w w':=by
 refine Jz Tryz.func136 Tryz.ntmps136 rfl kr rfl ?_;refine ρ ?_;refine alc Yj ?_;intro w1 b C O U;refine ρ ?_;refine bld (Qnc d _) ?_;refine ρ ?_;refine stW U ?_;intro Z G J o;refine ρ ?_;exact Jqv G ⟨rfl,o w C O⟩
theorem Jlh{N:Nat->Prop}{w:World}{d:Bool}{p:Value}{t:Tr}{v:V}{wt:Value}{x:Nat}(h:TrV N w t p)(hv:Qr v=true)(hw:NatV w wt x)(hN:∀ k,N k->k<w.heap.size)(h0:x≠0)(hn:Nb (t.sum+x))(hs:t.sz+1<=1000000):
  Ret Tryz.prog 137 [.agg #[.bool d,p],v.val,wt] w λu w'=>∃ q,u=.tuple #[.agg #[.bool d,q],.int .i64 0]/\TrV N w' (Tr.put d v x t) q/\Ext w w':=by
 obtain ⟨q,rfl⟩:=h.ptr;refine Jz Tryz.func137 Tryz.ntmps137 rfl kr rfl ?_;refine ρ ?_;refine bx ?_;intro w1 b1 a5 aw ap;refine ρ ?_;refine bx (cs:=v.cells) ?_;intro w2 b2 U av ao;refine ρ ?_;refine alc Yj ?_;intro w3 b3 a4 ab ae;have C:=(a5.trans U).trans a4;have ag:=(ap.ext U).ext a4;have a1:=ao.ext a4;refine ρ ?_;refine lds (cs:=v.cells) (λj u hu=>a1.at hu) ?_;refine ρ ?_;refine cl (Jhs v _) ?_;rintro u w4 ⟨rfl,O⟩;rw [hv];refine ρ ?_;refine cl (Jcr (hw.ext (C.trans O)) (hn.le om).len) ?_;rintro wn w5 ⟨a9,am,a6⟩;have a8:=(C.trans O).trans a6;obtain ⟨A,c,rfl,hc,hm,au⟩:=id a9;have aq:0<(Jq x).length:=by
  rcases Nat.eq_zero_or_pos (Jq x).length with h1|h1
  .have:=List.eq_nil_of_length_eq_zero h1;have e:=Zb x;rw [this]at e;exact absurd e.symm h0
  .exact h1
 refine ρ ?_;refine cf ?_ ?_
 .exact Jxk om
 refine ρ ?_;refine drN (λ_=>False) 10 [(0,0),(0,1),(0,2),(0,3),(0,4),(0,5),(0,6),(0,7),(1,8),(0,9),(2,10),(2,11)] kr ?_;have a2:Ext w5 w5.drew:=(Ext.refl w5).drew;have o:=(O.trans a6).trans a2;have J:=ag.ext o;have af:=a1.ext o;have ad:=ae.ext o;have Z:=a8.trans a2;refine ρn ?_;refine nld (Jm (J.at (i:=0) rfl) (λe=>e)) ?_;refine ρn ?_;refine Xd (cs:=[.bool d,.pointer q]) (λw' hg j u hu=>(Jd J hg (λe=>e)).at hu) ?_;refine ρn ?_;refine nld (Jm (J.at (i:=1) rfl) (λe=>e)) ?_;refine ρn ?_;refine Xd (cs:=v.cells) (λw' hg j u hu=>(Jd af hg (λe=>e)).at hu) ?_;refine ρn ?_;refine Idq (Qnq v _ A _ c rfl) ?_;refine ρn ?_;refine nop ?_;have aa:b3<w3.heap.size:=ae.lt;have ar:=C.size;have ac:∀ k,(N k∨k=b3)->k<w3.heap.size:=λk G=>G.elim (λh=>nM (hN k h) C.size) (λe=>by rw [e];exact aa);have hh:TrV (λk=>N k∨k=b3) w5.drew t (.pointer q):=(h.old (N':=λk=>N k∨k=b3) λk G=>G.imp id λe=>by rw [e];exact nL (a5.trans U).size ab).ext Z
 have ai:NatX (λk=>N k∨k=b3) w5.drew (.slice A (Jq x).length c) x:=am.x (a9.ext a2) λk G=>nM (ac k G) O.size;refine cl (Qbd t _ _ hh ai (λk G=>nM (ac k G) o.size) hn hs) ?_;rintro u w6 ⟨hu,a3⟩;obtain ⟨q2,rfl⟩:=hu.ptr;refine ρ ?_;refine Je (GrN.ext a3) ?_;refine ρn ?_;refine Idq (Qnf d q2) ?_;refine ρn ?_;refine Xv ?_;refine stW (ad.ext a3) ?_;intro w7 an ak ah;refine ρ ?_;refine Us ?_;refine Xv ?_;refine ρ ?_;have a7:Ext w w7:=ah w (Z.trans a3) (nL (a5.trans U).size ab);have aj:=(hu.gr (GrN.by ak (λk G=>.inr (by injection G with G;exact G.symm)))).old (N':=N) λk G=>.inl (.inl G);exact Zh an ⟨_,rfl,aj,a7⟩
end Go.Proofs.YtebcagekopgdhaaGreatDoor
