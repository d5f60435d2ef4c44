/- Part 30 of the proof: Wt, Wt2, Wt3. -/
import Derived.Test.YtefpailelagbkaaGreatDoorJ29
set_option linter.unusedVariables false
set_option maxRecDepth 100000
set_option maxHeartbeats 40000000
namespace Go.Wk
theorem dbx{P:Program}{n:Nat}{al:AL}{w:World}{Q:Exit->Act->World->Prop}{ops:Array Oper}{drest:List (Nat×Oper)}{d ty:Nat}{pos:String}{aft:Array Edge}{x:Operand}{t:Nat}{v:Value}{cs:List Value}(kk:∀ w1 b,Ext w w1->w.heap.size<=b->Blk w1 b t cs->WD P n ops Q drest ((d,.pointer (some ⟨b,0,none⟩))::al) w1)(hx:ev al x=some v:=by rfl)(hv:v.cells=cs.toArray:=by rfl)(hd:Nat.blt d n=true:=by rfl): WD P n ops Q ((1,⟨some d,.box t x,ty,pos,aft,none⟩)::drest) al w :=
 done_ (bx (λw1 b hx1 hb1 hk1=>Jzc (eback hx1 (kk w1 b hx1 hb1 hk1))) hx hv hd)
end Go.Wk
namespace Go.Proofs.YtefpailelagbkaaGreatDoor
open Go.RowKit Pl Go.Wk
attribute [local irreducible] WC WL QX WD WDB WP WN WG
theorem limbs_ne{n:Nat}(h:0<(Jjf n).length): n≠0:=λe=>by rw [e,limbs_0]at h;simp at h
def NatX(N:Nat->Prop)(w:World)(v:Value)(n:Nat): Prop:=NatV w v n/\(n≠0->∀ ad m c,v=.slice (some ad) m c->¬ N ad.block)
theorem NatX.ext{N:Nat->Prop}{w w':World}{v:Value}{n:Nat}(h:NatX N w v n)(hx:Ext w w'): NatX N w' v n:=⟨h.1.ext hx,h.2⟩
theorem NatX.gr{N:Nat->Prop}{w w':World}{v:Value}{n:Nat}(h:NatX N w v n)(hg:GrN N w w'): NatX N w' v n:=by
 obtain ⟨⟨A,c,rfl,h2,h3,h4⟩,h5⟩:=h;exact ⟨⟨A,c,rfl,h2,h3,rdGr h4 hg (λh0 ad e=>h5 (limbs_ne (by rw [Nc_len]at h0;exact h0)) ad _ _ (by rw [e]))⟩,h5⟩
theorem NatX.nil{N:Nat->Prop}(w:World): NatX N w (.slice none 0 0) 0:=⟨NatV.nil w,λ_ ad m c e=>by cases e⟩
theorem limbs_pos'{n:Nat}(h:n≠0): 0<(Jjf n).length:=by rw [limbs_pos h];simp
theorem NatX.old{N N':Nat->Prop}{w:World}{v:Value}{n:Nat}(h:NatX N w v n)(hs:∀ k,N' k->N k∨w.heap.size<=k): NatX N' w v n:=⟨h.1,λh0 ad m c e hk=>by
 rcases hs _ hk with h1|h1
 ·exact h.2 h0 ad m c e h1
 ·obtain ⟨A,c',e2,_,_,hr⟩:=h.1;rw [e]at e2;injection e2 with e3 e4 e5
  subst e3;obtain ⟨ad',e7,e8⟩:=Rd.isome hr (limbs_pos' h0) (by omega);injection e7 with e7;subst e7;omega⟩
theorem Fresh.x{N:Nat->Prop}{w w':World}{v:Value}{n:Nat}(h:Fresh w v)(hn:NatV w' v n)(hN:∀ k,N k->k<w.heap.size): NatX N w' v n :=
 ⟨hn,λ_ ad m c e hk=>by have:=h ad m c e;have:=hN _ hk;omega⟩
def TrV(N:Nat->Prop)(w:World): Tr->Value->Prop
 | .nil,u=>u=.pointer none
 | .node l v x r,u=>∃ b wt pl pr st,u=.pointer (some ⟨b,0,none⟩)/\(Blk w b 174 (v.cells++[wt,pl,pr,.int .i64 ((Tr.node l v x r).ht:Int),.int .i64 ((Tr.node l v x r).sz:Int),st])/\¬ N b)/\NatX N w wt x/\NatX N w st (Tr.node l v x r).sum/\TrV N w l pl/\TrV N w r pr
theorem TrV.gr{N:Nat->Prop}{w w':World}: ∀ {t:Tr} {u:Value},TrV N w t u->GrN N w w'->TrV N w' t u
 | .nil,u,h,_=>h
 | .node l v x r,u,h,hx=>by
  obtain ⟨b,wt,pl,pr,st,h1,⟨h2,h2'⟩,h3,h4,h5,h6⟩:=h;exact ⟨b,wt,pl,pr,st,h1,⟨Jqb h2 hx h2',h2'⟩,h3.gr hx,h4.gr hx,h5.gr hx,h6.gr hx⟩
theorem TrV.ext{N:Nat->Prop}{w w':World}{t:Tr}{u:Value}(h:TrV N w t u)(hx:Ext w w'): TrV N w' t u:=h.gr (GrN.ext hx)
theorem TrV.old{N N':Nat->Prop}{w:World}(hs:∀ k,N' k->N k∨w.heap.size<=k): ∀ {t:Tr} {u:Value},TrV N w t u->TrV N' w t u
 | .nil,u,h=>h
 | .node l v x r,u,h=>by
  obtain ⟨b,wt,pl,pr,st,h1,⟨h2,h2'⟩,h3,h4,h5,h6⟩:=h;exact ⟨b,wt,pl,pr,st,h1,⟨h2,λhk=>(hs _ hk).elim h2' (λh=>by have:=h2.lt;omega)⟩,h3.old hs,h4.old hs,h5.old hs,h6.old hs⟩
theorem TrV.ptr{N:Nat->Prop}{w:World}{t:Tr}{u:Value}(h:TrV N w t u): ∃ p,u=.pointer p:=by
 cases t with
 | nil=>exact ⟨none,h⟩
 | node l v x r=>obtain ⟨b,_,_,_,_,h1,_⟩:=h;exact ⟨_,h1⟩
theorem Jyz{v:Value}{n:Nat}{w:World}(hv:NatV w v n)(hs:(Jjf n).length<=1000): Ret Tryz.prog 71 [v] w λr w'=>NatV w' r n/\Fresh w r/\Ext w w':=by
 refine Jjb Tryz.func71 Tryz.ntmps71 rfl (by kernel_rfl) rfl ?_;refine ρ ?_;refine cl (trimV hv) ?_;rintro v' w' ⟨⟨A,rfl,ha⟩,rfl⟩;refine ρ ?_;refine cl (cloneNatO ha (Nc_one _) (by omega)) ?_;rintro v' w1 ⟨ho,hx⟩;obtain ⟨A',c',rfl,hc,hf⟩:=Jjd ho;refine ρ ?_;refine Jjq ⟨⟨A',c',rfl,hc,by omega,Rd.own ho⟩,λad m c e=>?_,hx⟩;injection e with e1 e2 e3
 subst e1;exact (hf ad.block rfl).1
theorem bK_ex: ∃ k:Nat,k=900:=⟨_,rfl⟩
noncomputable def bK: Nat:=Classical.choose bK_ex
theorem bK_eq: bK=900:=Classical.choose_spec bK_ex
def Nb(n:Nat): Prop:=n<4294967296^bK
theorem Nb.len{n:Nat}(h:Nb n): (Jjf n).length<=1000:=by
 rcases Nat.eq_zero_or_pos n with h0|h0
 ·rw [h0,limbs_0];simp
 ·have h1:=limbs_len_le (n:=n) (by omega);rcases Nat.lt_or_ge bK ((Jjf n).length-1) with h2|h2
  ·exact absurd (Nat.lt_of_lt_of_le h (Nat.le_trans (Nat.pow_le_pow_right (by decide) (Nat.le_of_lt h2)) h1)) (Nat.lt_irrefl _)
  ·rw [bK_eq]at h2;omega
theorem Nb.le{n m:Nat}(h:Nb n)(hm:m<=n): Nb m:=Nat.lt_of_le_of_lt hm h
theorem Jzq{N:Nat->Prop}{w:World}{t:Tr}{u:Value}(h:TrV N w t u): Ret Tryz.prog 108 [u] w λr w'=>r=.int .i64 (t.ht:Int)/\w'=w:=by
 refine Jjb Tryz.func108 Tryz.ntmps108 rfl (by kernel_rfl) rfl ?_;cases t with
 | nil=>
  obtain rfl:u=.pointer none:=h;refine ρ ?_;refine pnl ?_;refine ρ ?_;exact Jjq ⟨rfl,rfl⟩
 | node l v x r=>
  obtain ⟨b,wt,pl,pr,st,rfl,⟨h2,_⟩,h3,h4,h5,h6⟩:=h;refine ρ ?_;refine pnl ?_;refine ρ ?_;refine ld (h2.at (i:=6) rfl) ?_;refine ρ ?_;exact Jjq ⟨rfl,rfl⟩
theorem size_any{N:Nat->Prop}{w:World}{t:Tr}{u:Value}(h:TrV N w t u): Ret Tryz.prog 197 [u] w λr w'=>r=.int .i64 (t.sz:Int)/\w'=w:=by
 refine Jjb Tryz.func197 Tryz.ntmps197 rfl (by kernel_rfl) rfl ?_;cases t with
 | nil=>
  obtain rfl:u=.pointer none:=h;refine ρ ?_;refine pnl ?_;refine ρ ?_;exact Jjq ⟨rfl,rfl⟩
 | node l v x r=>
  obtain ⟨b,wt,pl,pr,st,rfl,⟨h2,_⟩,h3,h4,h5,h6⟩:=h;refine ρ ?_;refine pnl ?_;refine ρ ?_;refine ld (h2.at (i:=7) rfl) ?_;refine ρ ?_;exact Jjq ⟨rfl,rfl⟩
theorem Jvn{N:Nat->Prop}{w:World}{t:Tr}{u:Value}(h:TrV N w t u): Ret Tryz.prog 100 [u] w λr w'=>NatX N w r t.sum/\w'=w:=by
 refine Jjb Tryz.func100 Tryz.ntmps100 rfl (by kernel_rfl) rfl ?_;cases t with
 | nil=>
  obtain rfl:u=.pointer none:=h;refine ρ ?_;refine pnl ?_;refine ρ ?_;exact Jjq ⟨NatX.nil _,rfl⟩
 | node l v x r=>
  obtain ⟨b,wt,pl,pr,st,rfl,⟨h2,_⟩,h3,h4,h5,h6⟩:=h;refine ρ ?_;refine pnl ?_;refine ρ ?_;refine ld (h2.at (i:=8) rfl) ?_;refine ρ ?_;exact Jjq ⟨h4,rfl⟩
structure NatsV(w:World)(A:Option Addr)(us:List Value)(ns:List Nat): Prop where
 rd:Rd w 1 A us.length us
 len:us.length=ns.length
 nat:∀ i,i<ns.length->NatV w (us.getD i (.int .i64 0)) (ns.getD i 0)
theorem natSum_any{w:World}{A:Option Addr}{c:Nat}{us:List Value}{ns:List Nat}(h:NatsV w A us ns)(hN:Nb (ns.foldl (· + ·) 0))(hl:ns.length<=1000)(hsub:∀ i,i<=ns.length->Nb ((ns.take i).foldl (· + ·) 0))(hone:∀ x∈ns,Nb x):
  Ret Tryz.prog 198 [.slice A us.length c] w λr w'=>NatV w' r (ns.foldl (· + ·) 0)/\Fresh w r/\Ext w w':=by
 have hlen:=h.len;refine Jjb Tryz.func198 Tryz.ntmps198 rfl (by kernel_rfl) rfl ?_;refine ρ ?_;refine Jjv (fun (i:Nat) (vs:Value)=>[(0,.slice A us.length c),(3,vs),(6,.int .i64 (us.length:Int)),(7,.int .i64 (i:Int))])
  (λi vs w'=>i<=ns.length/\Ext w w'/\NatV w' vs ((ns.take i).foldl (· + ·) 0)/\Fresh w vs) (λi _=>ns.length-i) 0 (.slice none 0 0) sB
  ⟨Nat.zero_le _,Ext.refl _,NatV.nil _,λad m c e=>by cases e⟩ ?_
 rintro i vs w1 ⟨hi,hx1,hs,hfr⟩;refine ρ ?_;refine ci (λh'=>?_) (λh'=>?_)
 ·have li:i<ns.length:=by have:=of_decide_eq_true h';omega
  clear h';refine ρ ?_;refine ix i (h.rd.ext hx1) (by omega) ?_;have hcell:us[i]?=some (us.getD i (.int .i64 0)):=by simp [List.getD,List.getElem?_eq_getElem (show i<us.length by omega)]
  refine ρ ?_;refine ld ((h.rd.ext hx1).cell hcell) ?_;refine ρ ?_;refine cl (Jkn hs ((h.nat i li).ext hx1) (hsub i hi).len (hone _ (by simp [List.getD,List.getElem?_eq_getElem li])).len) ?_;rintro r w2 ⟨hr,hf2,hx2⟩;refine ρ ?_;refine Jjj (i+1) r sO ⟨li,hx1.trans hx2,?_,λad m c e=>Nat.le_trans hx1.size (hf2 ad m c e)⟩ (by omega);rw [Jjm 0 li,List.foldl_append];exact hr
 have hi':i=ns.length:=by have:=of_decide_eq_false h';omega
 rw [hi',List.take_length]at hs;refine ρ ?_;exact Jjq ⟨hs,hfr,hx1⟩
theorem bldNode(v:V)(wt st:Value)(A1 A2:Option Addr)(n1 n2 c1 c2:Nat)(pl pr:Option Addr)(y z:Int)(h1:wt=.slice A1 n1 c1)(h2:st=.slice A2 n2 c2)(w:World): (Instr.build 174 #[(0,.agg (v.cells++[wt]).toArray),(1,.pointer pl),(2,.pointer pr),(3,.int .i64 y),(4,.int .i64 z),(5,st)]).run Tryz.prog w=.ok (.agg (v.cells++[wt,.pointer pl,.pointer pr,.int .i64 y,.int .i64 z,st]).toArray) w:=by
 subst h1;subst h2;kernel_rfl
theorem bs3Nat(v1 v2 v3:Value)(A1 A2 A3:Option Addr)(n1 n2 n3 c1 c2 c3:Nat)(h1:v1=.slice A1 n1 c1)(h2:v2=.slice A2 n2 c2)(h3:v3=.slice A3 n3 c3)(w:World): (Instr.buildSlice 304 3 #[(0,v1),(1,v2),(2,v3)]).run Tryz.prog w=.ok (.slice (some ⟨w.heap.size,0,none⟩) 3 3) (w.alloc (.cells [v1,v2,v3].toArray 32)):=by
 subst h1;subst h2;subst h3;kernel_rfl
theorem Jzh{N:Nat->Prop}{w:World}{l r:Tr}{pl pr wt:Value}{v:V}{x:Nat}(hl:TrV N w l pl)(hr:TrV N w r pr)(hw:NatX N w wt x)(hN:∀ k,N k->k<w.heap.size)(hb:Nb (Tr.node l v x r).sum)(hs:(Tr.node l v x r).sz<=1000000):
  Ret Tryz.prog 181 [pl,.agg (v.cells++[wt]).toArray,pr] w λu w'=>TrV N w' (.node l v x r) u/\Ext w w':=by
 obtain ⟨ql,rfl⟩:=hl.ptr;obtain ⟨qr,rfl⟩:=hr.ptr;refine Jjb Tryz.func181 Tryz.ntmps181 rfl (by kernel_rfl) rfl ?_;refine ρ ?_;refine bx (cs:=v.cells++[wt]) ?_;intro w1 b hx1 hb1 hB;refine ρ ?_;have hxd:Ext w1 w1.drew:=(Ext.refl w1).drew;have hxw:=hx1.trans hxd;have hBd:=hB.ext hxd;have hld:=hl.ext hxw;have hrd:=hr.ext hxw;have hwd:=hw.ext hxw;have hhl:=Tr.ht_le l;have hhr:=Tr.ht_le r;simp only [Tr.sz]at hs;refine dr [(0,0),(0,1),(0,2),(0,3),(0,5),(0,9),(0,12),(0,15),(0,17),(0,18),(0,19),(1,4),(1,6),(0,7),(0,8),(1,10),(0,11),(1,13),(0,14),(1,16),(1,20),(1,21),(1,22),(0,23),(1,24),(0,25)] (by kernel_rfl) ?_;refine ρd ?_;refine Jvb (cs:=v.cells++[wt]) (λj u hu=>hBd.at hu) ?_;refine ρd ?_;refine dld (hBd.at (i:=3) rfl) ?_;refine ρd ?_;refine dcl (Jzq hld) ?_;rintro u2 w2 ⟨rfl,rfl⟩;refine ⟨Ext.refl _,?_⟩;refine ρd ?_;refine dcl (Jzq hrd) ?_;rintro u2 w2 ⟨rfl,rfl⟩;refine ⟨Ext.refl _,?_⟩
 refine ρd ?_;refine dcl (size_any hld) ?_;rintro u2 w2 ⟨rfl,rfl⟩;refine ⟨Ext.refl _,?_⟩;refine ρd ?_;refine dcl (size_any hrd) ?_;rintro u2 w2 ⟨rfl,rfl⟩;refine ⟨Ext.refl _,?_⟩;refine ρd ?_;refine dcl (Jvn hld) ?_;rintro ul w2 ⟨hul,rfl⟩;refine ⟨Ext.refl _,?_⟩;refine ρd ?_;refine dcl (Jvn hrd) ?_;rintro ur w2 ⟨hur,rfl⟩;refine ⟨Ext.refl _,?_⟩;obtain ⟨A1,c1,e1,_⟩:=id hul.1;obtain ⟨A2,c2,e2,_⟩:=id hwd.1;obtain ⟨A3,c3,e3,_⟩:=id hur.1;refine ρd ?_;refine dbsl (bs3Nat _ _ _ _ _ _ _ _ _ _ _ _ e1 e2 e3) ?_;intro w3 b3 hx3 hb3 hB3;have hns:NatsV w3 (some ⟨b3,0,none⟩) [ul,wt,ur] [l.sum,x,r.sum]:=by
  refine ⟨hB3.rd (n:=3) rfl,rfl,λi hi=>?_⟩;match i,hi with
  | 0,_=>exact hul.1.ext hx3
  | 1,_=>exact hwd.1.ext hx3
  | 2,_=>exact hur.1.ext hx3
 simp only [Tr.sum]at hb;refine ρd ?_;refine dcl (natSum_any (us:=[ul,wt,ur]) hns (hb.le (by simp)) (by simp) (λi hi=>hb.le ?_) (λy hy=>hb.le ?_)) ?_
 ·match i,hi with
  | 0,_=>simp
  | 1,_=>simp;omega
  | 2,_=>simp
  | 3,_=>simp
 ·simp only [List.mem_cons,List.not_mem_nil,or_false]at hy;rcases hy with rfl|rfl|rfl<;>omega
 rintro st w4 ⟨hst,hfr,hx4⟩;refine ⟨hx4,?_⟩;obtain ⟨A4,c4,e4,_⟩:=id hst;refine ρd ?_;refine dbld (bldNode v wt st A2 A4 _ _ _ _ ql qr _ _ e2 e4) ?_;refine ρd ?_;refine dbx (cs:=v.cells++[wt,.pointer ql,.pointer qr,.int .i64 _,.int .i64 _,st]) ?_;intro w5 b5 hx5 hb5 hB5;refine ρd ?_;refine ρ ?_;have e5:(if (l.ht:Int)<(r.ht:Int) then (r.ht:Int) else (l.ht:Int))+1=((Tr.node l v x r).ht:Int):=by simp only [Tr.ht];split<;>omega
 have e6:(l.sz:Int)+1+r.sz=((Tr.node l v x r).sz:Int):=by simp only [Tr.sz];omega
 rw [e5,e6]at hB5;have h345:=(hx3.trans hx4).trans hx5;have hw3:=Nat.le_trans hxw.size hx3.size;have hst':NatX N w5 st (Tr.node l v x r).sum:=by
  have:=hst.ext hx5;simp only [List.foldl_cons,List.foldl_nil,Nat.zero_add]at this;exact hfr.x this λk hk=>Nat.lt_of_lt_of_le (hN k hk) hw3
 have hnb:¬ N b5:=λhk=>by have:=hN _ hk;have:=hx4.size;omega
 exact Jjq ⟨⟨b5,wt,_,_,st,rfl,⟨hB5,hnb⟩,hwd.ext h345,hst',hld.ext h345,hrd.ext h345⟩,hxw.trans h345⟩
end Go.Proofs.YtefpailelagbkaaGreatDoor
namespace Go.Wk
theorem _root_.Go.Wk.Blk.pre{w:World}{b t:Nat}{cs ds:List Value}(h:Blk w b t (cs++ds))(j:Nat)(u:Value)(hu:cs[j]?=some u): w.cell? ((⟨b,0,none⟩:Addr).add j)=some u :=
 h.at (by rw [List.getElem?_append_left (List.getElem?_eq_some_iff.1 hu).1];exact hu)
end Go.Wk
namespace Go.Proofs.YtefpailelagbkaaGreatDoor
open Go.RowKit Pl Go.Wk
attribute [local irreducible] WC WL QX WD WDB WP WN WG
theorem balance_any{N:Nat->Prop}{w:World}{l r:Tr}{pl pr wt:Value}{v:V}{x:Nat}(hl:TrV N w l pl)(hr:TrV N w r pr)(hw:NatX N w wt x)(hN:∀ k,N k->k<w.heap.size)(hb:Nb (Tr.node l v x r).sum)(hs:(Tr.node l v x r).sz<=1000000):
  Ret Tryz.prog 182 [pl,.agg (v.cells++[wt]).toArray,pr] w λu w'=>TrV N w' (Tr.bal l v x r) u/\Ext w w':=by
 obtain ⟨ql,rfl⟩:=hl.ptr;obtain ⟨qr,rfl⟩:=hr.ptr;have hhl:=Tr.ht_le l;have hhr:=Tr.ht_le r;have hs':l.sz+1+r.sz<=1000000:=hs;have hb':Nb (l.sum+x+r.sum):=hb;refine Jjb Tryz.func182 Tryz.ntmps182 rfl (by kernel_rfl) rfl ?_;refine ρ ?_;refine bx (cs:=v.cells++[wt]) ?_;intro w1 b hx1 hb1 hB;have hl1:=hl.ext hx1;have hr1:=hr.ext hx1;have hw1:=hw.ext hx1;refine ρ ?_;refine cl (Jzq hl1) ?_;rintro u2 w2 ⟨rfl,rfl⟩;refine ρ ?_;refine cl (Jzq hr1) ?_;rintro u2 w2 ⟨rfl,rfl⟩;have hxd:Ext w2 w2.drew:=(Ext.refl w2).drew;refine ρ ?_;by_cases hc:r.ht+1<l.ht
 ·cases l with
  | nil=>simp [Tr.ht]at hc
  | node ll lv lx lr=>
   obtain ⟨bl,wl,pll,plr,sl,e1,⟨hBl,hnbl⟩,hwl,hsl,hll,hlr⟩:=id hl1;obtain rfl:ql=some ⟨bl,0,none⟩:=by injection e1
   obtain ⟨ql2,rfl⟩:=hll.ptr;obtain ⟨qr2,rfl⟩:=hlr.ptr;simp only [Tr.sum,Tr.sz]at hb' hs';have hd1:decide ((r.ht:Int)+1<((Tr.node ll lv lx lr).ht:Int))=true:=decide_eq_true (by omega);refine dr [(0,0),(0,1),(0,2),(0,3),(0,4),(0,5),(0,6),(0,7),(0,8),(0,10),(0,11),(0,12),(0,13),(1,9),(1,14),(0,15),(0,16),(0,17)] (by kernel_rfl) ?_;refine ρd ?_;refine dkt 20 hd1 ?_;refine ρd ?_;refine dld ((hBl.ext hxd).at (i:=4) rfl) ?_;refine ρd ?_;refine dld ((hBl.ext hxd).at (i:=5) rfl) ?_;refine ρd ?_;refine dcl (Jzq (hll.ext hxd)) ?_;rintro u3 w3 ⟨rfl,rfl⟩;refine ⟨Ext.refl _,?_⟩;refine ρd ?_;refine dcl (Jzq (hlr.ext hxd)) ?_;rintro u3 w3 ⟨rfl,rfl⟩;refine ⟨Ext.refl _,?_⟩;refine ρd ?_;refine ρ ?_;refine ci (λhc2=>?_) (λhc2=>?_)
   ·have hc2:lr.ht<=ll.ht:=by have:=of_decide_eq_true hc2;omega
    have hxd2:Ext w2 w2.drew.drew:=hxd.drew;have hBl2:=hBl.ext hxd2;refine ρ ?_;refine dr [(0,0),(0,1),(0,2),(0,3),(0,4),(0,5),(0,6),(0,7),(0,8),(0,9),(0,10),(0,11),(0,12),(0,13),(1,14),(1,15),(0,16)] (by kernel_rfl) ?_;refine ρd ?_;refine dld (hBl2.at (i:=4) rfl) ?_;refine ρd ?_;refine Jvb (cs:=lv.cells++[wl]) (Blk.pre (cs:=lv.cells++[wl]) hBl2) ?_;refine ρd ?_;refine dld (hBl2.at (i:=5) rfl) ?_;refine ρd ?_;refine Jvb (cs:=v.cells++[wt]) (λj u hu=>(hB.ext hxd2).at hu) ?_;refine ρd ?_;refine dcl (Jzh (hlr.ext hxd2) (hr1.ext hxd2) (hw1.ext hxd2) (λk hk=>Nat.lt_of_lt_of_le (hN k hk) (hx1.trans hxd2).size) (hb'.le (by simp only [Tr.sum];omega)) (by simp only [Tr.sz];omega)) ?_;rintro uj w4 ⟨hj,hx4⟩;refine ⟨hx4,?_⟩;have hx24:=hxd2.trans hx4;refine ρd ?_;refine dcl (Jzh (hll.ext hx24) hj (hwl.ext hx24) (λk hk=>Nat.lt_of_lt_of_le (hN k hk) (hx1.trans hx24).size) (hb'.le (by simp only [Tr.sum];omega)) (by simp only [Tr.sz];omega)) ?_
    rintro uk w5 ⟨hk,hx5⟩;refine ⟨hx5,?_⟩;refine ρd ?_;refine ρ ?_;refine Jjq ⟨?_,(hx1.trans hx24).trans hx5⟩;have e:Tr.bal (.node ll lv lx lr) v x r=.node ll lv lx (.node lr v x r):=by simp only [Tr.bal,if_pos hc,if_pos hc2]
    rw [e];exact hk
   have hc2:ll.ht<lr.ht:=by have:=of_decide_eq_false hc2;omega
   refine ρ ?_;refine ct hd1 ?_;cases lr with
   | nil=>simp [Tr.ht]at hc2
   | node ml mv mx mr=>
    obtain ⟨bm,wm,pml,pmr,sm,e2,⟨hBm,hnbm⟩,hwm,hsm,hml,hmr⟩:=id hlr;obtain rfl:qr2=some ⟨bm,0,none⟩:=by injection e2
    obtain ⟨qm1,rfl⟩:=hml.ptr;obtain ⟨qm2,rfl⟩:=hmr.ptr;simp only [Tr.sum,Tr.sz]at hb' hs';refine ρ ?_;refine ld ((hBl.ext hxd).at (i:=5) rfl) ?_;refine ρ ?_;have hxd2:Ext w2 w2.drew.drew:=hxd.drew;have hBl2:=hBl.ext hxd2;have hBm2:=hBm.ext hxd2;refine dr [(0,0),(0,1),(0,2),(0,3),(0,4),(0,5),(0,6),(0,7),(0,8),(0,9),(0,10),(0,11),(0,13),(0,14),(0,15),(0,16),(0,17),(0,18),(0,19),(0,20),(0,21),(0,22),(1,12),(1,23),(1,24),(0,25)] (by kernel_rfl) ?_;refine ρd ?_;refine dld (hBl2.at (i:=4) rfl) ?_;refine ρd ?_;refine Jvb (cs:=lv.cells++[wl]) (Blk.pre (cs:=lv.cells++[wl]) hBl2) ?_;refine ρd ?_;refine dld (hBm2.at (i:=4) rfl) ?_;refine ρd ?_;refine Jvb (cs:=mv.cells++[wm]) (Blk.pre (cs:=mv.cells++[wm]) hBm2) ?_;refine ρd ?_;refine dld (hBm2.at (i:=5) rfl) ?_;refine ρd ?_;refine Jvb (cs:=v.cells++[wt]) (λj u hu=>(hB.ext hxd2).at hu) ?_;refine ρd ?_;refine dcl (Jzh (hll.ext hxd2) (hml.ext hxd2) (hwl.ext hxd2) (λk hk=>Nat.lt_of_lt_of_le (hN k hk) (hx1.trans hxd2).size) (hb'.le (by simp only [Tr.sum];omega)) (by simp only [Tr.sz];omega)) ?_
    rintro uj w4 ⟨hj,hx4⟩;refine ⟨hx4,?_⟩;have hx24:=hxd2.trans hx4;refine ρd ?_;refine dcl (Jzh (hmr.ext hx24) (hr1.ext hx24) (hw1.ext hx24) (λk hk=>Nat.lt_of_lt_of_le (hN k hk) (hx1.trans hx24).size) (hb'.le (by simp only [Tr.sum];omega)) (by simp only [Tr.sz];omega)) ?_;rintro uk w5 ⟨hk,hx5⟩;refine ⟨hx5,?_⟩;have hx25:=hx24.trans hx5;refine ρd ?_;refine dcl (Jzh (hj.ext hx5) hk (hwm.ext hx25) (λk hk=>Nat.lt_of_lt_of_le (hN k hk) (hx1.trans hx25).size) (hb'.le (by simp only [Tr.sum];omega)) (by simp only [Tr.sz];omega)) ?_;rintro uo w6 ⟨ho,hx6⟩;refine ⟨hx6,?_⟩;refine ρd ?_;refine ρ ?_;refine Jjq ⟨?_,(hx1.trans hx25).trans hx6⟩;have e:Tr.bal (.node ll lv lx (.node ml mv mx mr)) v x r=.node (.node ll lv lx ml) mv mx (.node mr v x r):=by simp only [Tr.bal,if_pos hc,if_neg (Nat.not_le.2 hc2)]
    rw [e];exact ho
 ·refine dr [(0,0),(0,1),(0,2),(0,3),(0,4),(0,5),(0,6),(0,7),(0,8),(0,10),(0,11),(0,12),(0,13),(1,9),(1,14),(0,15),(0,16),(0,17)] (by kernel_rfl) ?_;refine ρd ?_;have hd1:decide ((r.ht:Int)+1<(l.ht:Int))=false:=decide_eq_false (by omega);refine dkf 20 hd1 ?_;refine ρd ?_;refine ρ ?_;refine cf hd1 ?_;refine ρ ?_;by_cases hd:l.ht+1<r.ht
  ·cases r with
   | nil=>simp [Tr.ht]at hd
   | node rl rv rx rr=>
    obtain ⟨br,wr,prl,prr,sr,e1,⟨hBr,hnbr⟩,hwr,hsr,hrl,hrr⟩:=id hr1;obtain rfl:qr=some ⟨br,0,none⟩:=by injection e1
    obtain ⟨qr1,rfl⟩:=hrl.ptr;obtain ⟨qr2,rfl⟩:=hrr.ptr;simp only [Tr.sum,Tr.sz]at hb' hs';have hxd2:Ext w2 w2.drew.drew:=hxd.drew;have hd2:decide ((l.ht:Int)+1<((Tr.node rl rv rx rr).ht:Int))=true:=decide_eq_true (by omega);refine dr [(0,0),(0,1),(0,2),(0,3),(0,4),(0,5),(0,6),(0,7),(0,8),(0,10),(0,11),(0,12),(0,13),(1,9),(1,14),(0,15),(0,16),(0,17)] (by kernel_rfl) ?_;refine ρd ?_;refine dkt 88 hd2 ?_;refine ρd ?_;refine dld ((hBr.ext hxd2).at (i:=5) rfl) ?_;refine ρd ?_;refine dld ((hBr.ext hxd2).at (i:=4) rfl) ?_;refine ρd ?_;refine dcl (Jzq (hrr.ext hxd2)) ?_;rintro u3 w3 ⟨rfl,rfl⟩;refine ⟨Ext.refl _,?_⟩;refine ρd ?_;refine dcl (Jzq (hrl.ext hxd2)) ?_;rintro u3 w3 ⟨rfl,rfl⟩;refine ⟨Ext.refl _,?_⟩;refine ρd ?_;refine ρ ?_;refine ci (λhc2=>?_) (λhc2=>?_)
    ·have hc2:rl.ht<=rr.ht:=by have:=of_decide_eq_true hc2;omega
     have hxd3:Ext w2 w2.drew.drew.drew:=hxd2.drew;have hBr2:=hBr.ext hxd3;refine ρ ?_;refine dr [(0,0),(0,1),(0,2),(0,3),(0,4),(0,5),(0,7),(0,8),(0,9),(0,10),(0,11),(0,12),(0,13),(0,14),(1,6),(1,15),(0,16)] (by kernel_rfl) ?_;refine ρd ?_;refine Jvb (cs:=v.cells++[wt]) (λj u hu=>(hB.ext hxd3).at hu) ?_;refine ρd ?_;refine dld (hBr2.at (i:=4) rfl) ?_;refine ρd ?_;refine Jvb (cs:=rv.cells++[wr]) (Blk.pre (cs:=rv.cells++[wr]) hBr2) ?_;refine ρd ?_;refine dld (hBr2.at (i:=5) rfl) ?_;refine ρd ?_;refine dcl (Jzh (hl1.ext hxd3) (hrl.ext hxd3) (hw1.ext hxd3) (λk hk=>Nat.lt_of_lt_of_le (hN k hk) (hx1.trans hxd3).size) (hb'.le (by simp only [Tr.sum];omega)) (by simp only [Tr.sz];omega)) ?_;rintro uj w4 ⟨hj,hx4⟩;refine ⟨hx4,?_⟩;have hx24:=hxd3.trans hx4;refine ρd ?_;refine dcl (Jzh hj (hrr.ext hx24) (hwr.ext hx24) (λk hk=>Nat.lt_of_lt_of_le (hN k hk) (hx1.trans hx24).size) (hb'.le (by simp only [Tr.sum];omega)) (by simp only [Tr.sz];omega)) ?_
     rintro uk w5 ⟨hk,hx5⟩;refine ⟨hx5,?_⟩;refine ρd ?_;refine ρ ?_;refine Jjq ⟨?_,(hx1.trans hx24).trans hx5⟩;have e:Tr.bal l v x (.node rl rv rx rr)=.node (.node l v x rl) rv rx rr:=by simp only [Tr.bal,if_neg hc,if_pos hd,if_pos hc2]
     rw [e];exact hk
    have hc2:rr.ht<rl.ht:=by have:=of_decide_eq_false hc2;omega
    refine ρ ?_;refine ct hd2 ?_;cases rl with
    | nil=>simp [Tr.ht]at hc2
    | node ml mv mx mr=>
     obtain ⟨bm,wm,pml,pmr,sm,e2,⟨hBm,hnbm⟩,hwm,hsm,hml,hmr⟩:=id hrl;obtain rfl:qr1=some ⟨bm,0,none⟩:=by injection e2
     obtain ⟨qm1,rfl⟩:=hml.ptr;obtain ⟨qm2,rfl⟩:=hmr.ptr;simp only [Tr.sum,Tr.sz]at hb' hs';refine ρ ?_;refine ld ((hBr.ext hxd2).at (i:=4) rfl) ?_;refine ρ ?_;have hxd3:Ext w2 w2.drew.drew.drew:=hxd2.drew;have hBr2:=hBr.ext hxd3;have hBm2:=hBm.ext hxd3;refine dr [(0,0),(0,1),(0,2),(0,3),(0,4),(0,5),(0,7),(0,8),(0,9),(0,10),(0,11),(0,12),(0,13),(0,14),(0,15),(0,16),(0,17),(0,18),(0,19),(0,20),(0,21),(0,22),(1,6),(1,23),(1,24),(0,25)] (by kernel_rfl) ?_;refine ρd ?_;refine Jvb (cs:=v.cells++[wt]) (λj u hu=>(hB.ext hxd3).at hu) ?_;refine ρd ?_;refine dld (hBm2.at (i:=4) rfl) ?_;refine ρd ?_;refine Jvb (cs:=mv.cells++[wm]) (Blk.pre (cs:=mv.cells++[wm]) hBm2) ?_;refine ρd ?_;refine dld (hBm2.at (i:=5) rfl) ?_;refine ρd ?_;refine Jvb (cs:=rv.cells++[wr]) (Blk.pre (cs:=rv.cells++[wr]) hBr2) ?_;refine ρd ?_;refine dld (hBr2.at (i:=5) rfl) ?_;refine ρd ?_;refine dcl (Jzh (hl1.ext hxd3) (hml.ext hxd3) (hw1.ext hxd3) (λk hk=>Nat.lt_of_lt_of_le (hN k hk) (hx1.trans hxd3).size) (hb'.le (by simp only [Tr.sum];omega)) (by simp only [Tr.sz];omega)) ?_
     rintro uj w4 ⟨hj,hx4⟩;refine ⟨hx4,?_⟩;have hx24:=hxd3.trans hx4;refine ρd ?_;refine dcl (Jzh (hmr.ext hx24) (hrr.ext hx24) (hwr.ext hx24) (λk hk=>Nat.lt_of_lt_of_le (hN k hk) (hx1.trans hx24).size) (hb'.le (by simp only [Tr.sum];omega)) (by simp only [Tr.sz];omega)) ?_;rintro uk w5 ⟨hk,hx5⟩;refine ⟨hx5,?_⟩;have hx25:=hx24.trans hx5;refine ρd ?_;refine dcl (Jzh (hj.ext hx5) hk (hwm.ext hx25) (λk hk=>Nat.lt_of_lt_of_le (hN k hk) (hx1.trans hx25).size) (hb'.le (by simp only [Tr.sum];omega)) (by simp only [Tr.sz];omega)) ?_;rintro uo w6 ⟨ho,hx6⟩;refine ⟨hx6,?_⟩;refine ρd ?_;refine ρ ?_;refine Jjq ⟨?_,(hx1.trans hx25).trans hx6⟩;have e:Tr.bal l v x (.node (.node ml mv mx mr) rv rx rr)=.node (.node l v x ml) mv mx (.node mr rv rx rr):=by simp only [Tr.bal,if_neg hc,if_pos hd,if_neg (Nat.not_le.2 hc2)]
     rw [e];exact ho
  ·refine dr [(0,0),(0,1),(0,2),(0,3),(0,4),(0,5),(0,6),(0,7),(0,8),(0,10),(0,11),(0,12),(0,13),(1,9),(1,14),(0,15),(0,16),(0,17)] (by kernel_rfl) ?_;refine ρd ?_;have hd2:decide ((l.ht:Int)+1<(r.ht:Int))=false:=decide_eq_false (by omega);refine dkf 88 hd2 ?_;refine ρd ?_;refine ρ ?_;refine cf hd2 ?_;have hxd2:Ext w2 w2.drew.drew:=hxd.drew;refine ρ ?_;refine lds (cs:=v.cells++[wt]) (λj u hu=>(hB.ext hxd2).at hu) ?_;refine ρ ?_;refine cl (Jzh (hl1.ext hxd2) (hr1.ext hxd2) (hw1.ext hxd2) (λk hk=>Nat.lt_of_lt_of_le (hN k hk) (hx1.trans hxd2).size) hb hs) ?_;rintro uj w4 ⟨hj,hx4⟩;refine ρ ?_;refine Jjq ⟨?_,(hx1.trans hxd2).trans hx4⟩;have e:Tr.bal l v x r=.node l v x r:=by simp only [Tr.bal,if_neg hc,if_neg hd]
   rw [e];exact hj
open Go.RowKit Pl Go.Wk
theorem neg_lt{d:Bool}{a b:V}: neg d (Jqh a b)=if d=true then Jqh b a else Jqh a b:=by
 unfold neg;split
 ·exact (cmp_V.anti a b).symm
 ·rfl
theorem cmpT_any{w:World}{d:Bool}{p:Option Addr}{a b:V}: Ret Tryz.prog 99 [.agg #[.bool d,.pointer p],a.val,b.val] w λu w'=>u=.int .i64 (neg d (Jqh a b))/\Ext w w':=by
 rw [neg_lt];refine Jjb Tryz.func99 Tryz.ntmps99 rfl (by kernel_rfl) rfl ?_;refine ρ ?_;refine bx (cs:=[.bool d,.pointer p]) ?_;intro w1 b1 hx1 hb1 hB1;refine ρ ?_;refine bx (cs:=a.cells) ?_;intro w2 b2 hx2 hb2 hB2;refine ρ ?_;refine bx (cs:=b.cells) ?_;intro w3 b3 hx3 hb3 hB3;have hB1':=(hB1.ext hx2).ext hx3;have hB2':=hB2.ext hx3;refine ρ ?_;refine ld (hB1'.at (i:=0) rfl) ?_;refine ρ ?_;refine ci (λh=>?_) (λh=>?_)
 ·refine ρ ?_;refine lds (cs:=b.cells) (λj u hu=>hB3.at hu) ?_;refine ρ ?_;refine lds (cs:=a.cells) (λj u hu=>hB2'.at hu) ?_;refine ρ ?_;refine cl (Jxl b a _) ?_;rintro u w4 ⟨rfl,hx4⟩;refine ρ ?_;refine Jjq ⟨?_,((hx1.trans hx2).trans hx3).trans hx4⟩;rw [if_pos h]
 ·refine ρ ?_;refine lds (cs:=a.cells) (λj u hu=>hB2'.at hu) ?_;refine ρ ?_;refine lds (cs:=b.cells) (λj u hu=>hB3.at hu) ?_;refine ρ ?_;refine cl (Jxl a b _) ?_;rintro u w4 ⟨rfl,hx4⟩;refine ρ ?_;refine Jjq ⟨?_,((hx1.trans hx2).trans hx3).trans hx4⟩;rw [if_neg (by rw [h];simp)]
theorem bal_sum(l:Tr)(v:V)(x:Nat)(r:Tr): (Tr.bal l v x r).sum=l.sum+x+r.sum:=by
 have:=congrArg tot (Tr.toL_bal l v x r);rw [<-Tr.sum_eq,tot_app,tot,<-Tr.sum_eq,<-Tr.sum_eq]at this;rw [this];simp only;omega
theorem put_sum(d:Bool)(v:V)(x:Nat): ∀ t:Tr,(Tr.put d v x t).sum<=t.sum+x
 | .nil=>by simp [Tr.put,Tr.sum]
 | .node l a y r=>by
  have h1:=put_sum d v x l;have h2:=put_sum d v x r;unfold Tr.put;split
  ·rw [bal_sum,Tr.sum];omega
  ·split
   ·rw [bal_sum,Tr.sum];omega
   ·rw [Tr.sum,Tr.sum];omega
theorem put_any{N:Nat->Prop}{d:Bool}{p0:Option Addr}{v:V}{x:Nat}{wt:Value}: ∀ (t:Tr) (p:Value) (w:World),TrV N w t p->NatX N w wt x->(∀ k,N k->k<w.heap.size)->Nb (t.sum+x)->t.sz+1<=1000000 ->
  Ret Tryz.prog 159 [.agg #[.bool d,.pointer p0],p,.agg (v.cells++[wt]).toArray] w λu w'=>TrV N w' (Tr.put d v x t) u/\Ext w w':=by
 intro t;induction t with
 | nil=>
  intro p w hp hw hN hb hs;obtain rfl:p=.pointer none:=hp;refine Jjb Tryz.func159 Tryz.ntmps159 rfl (by kernel_rfl) rfl ?_;refine ρ ?_;refine bx (cs:=[.bool d,.pointer p0]) ?_;intro w1 b1 hx1 hb1 hB1;refine ρ ?_;refine bx (cs:=v.cells++[wt]) ?_;intro w2 b2 hx2 hb2 hB2;have hx:=hx1.trans hx2;refine ρ ?_;refine pnl ?_;refine ρ ?_;refine lds (cs:=v.cells++[wt]) (λj u hu=>hB2.at hu) ?_;refine ρ ?_;refine cl (Jzh (l:=.nil) (r:=.nil) (show TrV N w2 .nil (.pointer none) from rfl) (show TrV N w2 .nil (.pointer none) from rfl) (hw.ext hx) (λk hk=>Nat.lt_of_lt_of_le (hN k hk) hx.size) (hb.le (by simp [Tr.sum])) (by simp [Tr.sz])) ?_;rintro u w3 ⟨hu,hx3⟩;refine ρ ?_;exact Jjq ⟨hu,hx.trans hx3⟩
 | node l a y r ihl ihr=>
  intro p w hp hw hN hb hs;obtain ⟨bn,wn,pl,pr,sn,rfl,⟨hBn,hnbn⟩,hwn,hsn,hl,hr⟩:=id hp;obtain ⟨ql,rfl⟩:=hl.ptr;obtain ⟨qr,rfl⟩:=hr.ptr;simp only [Tr.sum]at hb;simp only [Tr.sz]at hs;refine Jjb Tryz.func159 Tryz.ntmps159 rfl (by kernel_rfl) rfl ?_;refine ρ ?_;refine bx (cs:=[.bool d,.pointer p0]) ?_;intro w1 b1 hx1 hb1 hB1;refine ρ ?_;refine bx (cs:=v.cells++[wt]) ?_;intro w2 b2 hx2 hb2 hB2;have hx:=hx1.trans hx2;refine ρ ?_;refine pnl ?_;refine ρ ?_;have hxd:Ext w2 w2.drew:=(Ext.refl w2).drew;have hBnd:=hBn.ext (hx.trans hxd);have hB1d:=(hB1.ext hx2).ext hxd;have hB2d:=hB2.ext hxd;refine dr [(0,0),(0,1),(0,2),(0,3),(0,4),(0,5),(0,6),(0,7),(1,8),(0,9)] (by kernel_rfl) ?_;refine ρd ?_;refine Jvb (cs:=[.bool d,.pointer p0]) (λj u hu=>hB1d.at hu) ?_;refine ρd ?_;refine Jvb (cs:=v.cells) (Blk.pre (cs:=v.cells) hB2d) ?_;refine ρd ?_;refine Jvb (cs:=a.cells) (Blk.pre (cs:=a.cells) hBnd) ?_
  refine ρd ?_;refine dcl (cmpT_any (a:=v) (b:=a)) ?_;rintro u w3 ⟨rfl,hx3⟩;refine ⟨hx3,?_⟩;refine ρd ?_;refine ρ ?_;have hx03:=(hx.trans hxd).trans hx3;refine ci (λhc=>?_) (λhc=>?_)
  ·have hc:=of_decide_eq_true hc;have hxd3:Ext w3 w3.drew:=(Ext.refl w3).drew;have hxz:=hx03.trans hxd3;have hBn3:=hBn.ext hxz;refine ρ ?_;refine dr [(0,0),(0,1),(0,2),(0,3),(0,4),(0,5),(0,7),(0,8),(0,9),(0,10),(0,11),(0,12),(0,13),(0,14),(1,6),(1,15),(0,16)] (by kernel_rfl) ?_;refine ρd ?_;refine Jvb (cs:=[.bool d,.pointer p0]) (λj u hu=>((hB1d.ext hx3).ext hxd3).at hu) ?_;refine ρd ?_;refine dld (hBn3.at (i:=4) rfl) ?_;refine ρd ?_;refine Jvb (cs:=v.cells++[wt]) (λj u hu=>((hB2d.ext hx3).ext hxd3).at hu) ?_;refine ρd ?_;refine Jvb (cs:=a.cells++[wn]) (Blk.pre (cs:=a.cells++[wn]) hBn3) ?_;refine ρd ?_;refine dld (hBn3.at (i:=5) rfl) ?_;refine ρd ?_;refine dcl (ihl _ _ (hl.ext hxz) (hw.ext hxz) (λk hk=>Nat.lt_of_lt_of_le (hN k hk) hxz.size) (hb.le (by omega)) (by omega)) ?_;rintro u w4 ⟨hu4,hx4⟩;refine ⟨hx4,?_⟩;have hs1:=Tr.put_sz d v x l;have hs2:=put_sum d v x l;refine ρd ?_;refine dcl (balance_any hu4 (hr.ext (hxz.trans hx4)) (hwn.ext (hxz.trans hx4)) (λk hk=>Nat.lt_of_lt_of_le (hN k hk) (hxz.trans hx4).size) (hb.le (by simp only [Tr.sum];omega)) (by simp only [Tr.sz];omega)) ?_
   rintro u w5 ⟨hu5,hx5⟩;refine ⟨hx5,?_⟩;refine ρd ?_;refine ρ ?_;refine Jjq ⟨?_,(hxz.trans hx4).trans hx5⟩;rw [Tr.put,if_pos hc];exact hu5
  have hc:=of_decide_eq_false hc;refine ρ ?_;refine ci (λhc2=>?_) (λhc2=>?_)
  ·have hc2:=of_decide_eq_true hc2;have hxd3:Ext w3 w3.drew:=(Ext.refl w3).drew;have hxz:=hx03.trans hxd3;have hBn3:=hBn.ext hxz;refine ρ ?_;refine dr [(0,0),(0,1),(0,2),(0,3),(0,4),(0,5),(0,6),(0,7),(0,8),(0,9),(0,10),(0,11),(0,12),(0,13),(1,14),(1,15),(0,16)] (by kernel_rfl) ?_;refine ρd ?_;refine dld (hBn3.at (i:=4) rfl) ?_;refine ρd ?_;refine Jvb (cs:=a.cells++[wn]) (Blk.pre (cs:=a.cells++[wn]) hBn3) ?_;refine ρd ?_;refine Jvb (cs:=[.bool d,.pointer p0]) (λj u hu=>((hB1d.ext hx3).ext hxd3).at hu) ?_;refine ρd ?_;refine dld (hBn3.at (i:=5) rfl) ?_;refine ρd ?_;refine Jvb (cs:=v.cells++[wt]) (λj u hu=>((hB2d.ext hx3).ext hxd3).at hu) ?_;refine ρd ?_;refine dcl (ihr _ _ (hr.ext hxz) (hw.ext hxz) (λk hk=>Nat.lt_of_lt_of_le (hN k hk) hxz.size) (hb.le (by omega)) (by omega)) ?_;rintro u w4 ⟨hu4,hx4⟩;refine ⟨hx4,?_⟩;have hs1:=Tr.put_sz d v x r;have hs2:=put_sum d v x r;refine ρd ?_;refine dcl (balance_any (hl.ext (hxz.trans hx4)) hu4 (hwn.ext (hxz.trans hx4)) (λk hk=>Nat.lt_of_lt_of_le (hN k hk) (hxz.trans hx4).size) (hb.le (by simp only [Tr.sum];omega)) (by simp only [Tr.sz];omega)) ?_
   rintro u w5 ⟨hu5,hx5⟩;refine ⟨hx5,?_⟩;refine ρd ?_;refine ρ ?_;refine Jjq ⟨?_,(hxz.trans hx4).trans hx5⟩;rw [Tr.put,if_neg hc,if_pos hc2];exact hu5
  have hc2:=of_decide_eq_false hc2;have hxd3:Ext w3 w3.drew:=(Ext.refl w3).drew;have hxz:=hx03.trans hxd3;have hBn3:=hBn.ext hxz;refine ρ ?_;refine dr [(0,0),(0,1),(0,2),(0,3),(0,4),(0,5),(0,6),(0,7),(0,8),(1,9),(0,10)] (by kernel_rfl) ?_;refine ρd ?_;refine dld (hBn3.at (i:=4) rfl) ?_;refine ρd ?_;refine Jvb (cs:=v.cells++[wt]) (λj u hu=>((hB2d.ext hx3).ext hxd3).at hu) ?_;refine ρd ?_;refine dld (hBn3.at (i:=5) rfl) ?_;refine ρd ?_;refine dcl (Jzh (hl.ext hxz) (hr.ext hxz) (hw.ext hxz) (λk hk=>Nat.lt_of_lt_of_le (hN k hk) hxz.size) (hb.le (by simp only [Tr.sum];omega)) (by simp only [Tr.sz];omega)) ?_;rintro u w4 ⟨hu4,hx4⟩;refine ⟨hx4,?_⟩;refine ρd ?_;refine ρ ?_;refine Jjq ⟨?_,hxz.trans hx4⟩;rw [Tr.put,if_neg hc,if_neg hc2];exact hu4
theorem zTree: Jxd Tryz.prog 126=some (.agg #[.bool false,.pointer none]):=by kernel_rfl
theorem bldTree(d:Bool)(p:Option Addr)(w:World): (Instr.build 126 #[(0,.bool d),(1,.pointer p)]).run Tryz.prog w=.ok (.agg #[.bool d,.pointer p]) w:=by kernel_rfl
theorem bldTree1(d:Bool)(w:World): (Instr.build 126 #[(0,.bool d)]).run Tryz.prog w=.ok (.agg #[.bool d,.pointer none]) w:=by kernel_rfl
theorem bldEntry(v:V)(wt:Value)(A:Option Addr)(n c:Nat)(h:wt=.slice A n c)(w:World): (Instr.build 172 #[(0,v.val),(1,wt)]).run Tryz.prog w=.ok (.agg (v.cells++[wt]).toArray) w:=by subst h;kernel_rfl
theorem Jzw{d:Bool}{p:Option Addr}: ∀ u∈[Value.bool d,.pointer p],u.oneCell'=true:=λu hu=>by
 simp only [List.mem_cons,List.not_mem_nil,or_false]at hu;rcases hu with rfl|rfl<;>rfl
theorem newTree_any{w:World}{d:Bool}: Ret Tryz.prog 130 [.bool d] w λu w'=>u=.agg #[.bool d,.pointer none]/\Ext w w':=by
 refine Jjb Tryz.func130 Tryz.ntmps130 rfl (by kernel_rfl) rfl ?_;refine ρ ?_;refine alc (cs:=[.bool false,.pointer none]) zTree ?_;intro w1 b hx1 hb hB;refine ρ ?_;refine bld (bldTree1 d _) ?_;refine ρ ?_;refine stb (cs':=[.bool d,.pointer none]) hB ?_ Jzw;intro w2 hB2 hg2 hx2;refine ρ ?_;exact finC1 hB2 ⟨rfl,hx2 w hx1 hb⟩
theorem treePut_any{N:Nat->Prop}{w:World}{d:Bool}{p:Value}{t:Tr}{v:V}{wt:Value}{x:Nat}(h:TrV N w t p)(hv:Jxf v=true)(hw:NatV w wt x)(hN:∀ k,N k->k<w.heap.size)(h0:x≠0)(hn:Nb (t.sum+x))(hs:t.sz+1<=1000000):
  Ret Tryz.prog 131 [.agg #[.bool d,p],v.val,wt] w λu w'=>∃ q,u=.tuple #[.agg #[.bool d,q],.int .i64 0]/\TrV N w' (Tr.put d v x t) q/\Ext w w':=by
 obtain ⟨q,rfl⟩:=h.ptr;refine Jjb Tryz.func131 Tryz.ntmps131 rfl (by kernel_rfl) rfl ?_;refine ρ ?_;refine bx (cs:=[.bool d,.pointer q]) ?_;intro w1 b1 hx1 hb1 hB1;refine ρ ?_;refine bx (cs:=v.cells) ?_;intro w2 b2 hx2 hb2 hB2;refine ρ ?_;refine alc (cs:=[.bool false,.pointer none]) zTree ?_;intro w3 b3 hx3 hb3 hB3;have hx03:=(hx1.trans hx2).trans hx3;have hB1':=(hB1.ext hx2).ext hx3;have hB2':=hB2.ext hx3;refine ρ ?_;refine lds (cs:=v.cells) (λj u hu=>hB2'.at hu) ?_;refine ρ ?_;refine cl (Qqc v _) ?_;rintro u w4 ⟨rfl,hx4⟩;rw [hv];refine ρ ?_;refine cl (Jyz (hw.ext (hx03.trans hx4)) (hn.le (by omega)).len) ?_;rintro wn w5 ⟨hwn,hfr,hx5⟩;have hx05:=(hx03.trans hx4).trans hx5;obtain ⟨A,c,rfl,hc,hm,hrd⟩:=id hwn;have hpos:0<(Jjf x).length:=by
  rcases Nat.eq_zero_or_pos (Jjf x).length with h1|h1
  ·have:=List.eq_nil_of_length_eq_zero h1;have e:=Jqq x;rw [this]at e;exact absurd e.symm h0
  ·exact h1
 refine ρ ?_;refine cf ?_ ?_
 ·exact beq_f (by omega)
 refine ρ ?_;refine drN (λ_=>False) 10 [(0,0),(0,1),(0,2),(0,3),(0,4),(0,5),(0,6),(0,7),(1,8),(0,9),(2,10),(2,11)] (by kernel_rfl) ?_;have hxd:Ext w5 w5.drew:=(Ext.refl w5).drew;have hx35:=(hx4.trans hx5).trans hxd;have hB1d:=hB1'.ext hx35;have hB2d:=hB2'.ext hx35;have hB3d:=hB3.ext hx35;have hx0d:=hx05.trans hxd;refine ρn ?_;refine nld (Jjg (hB1d.at (i:=0) rfl) (λe=>e)) ?_;refine ρn ?_;refine nlds (cs:=[.bool d,.pointer q]) (λw' hg j u hu=>(Jqb hB1d hg (λe=>e)).at hu) ?_;refine ρn ?_;refine nld (Jjg (hB1d.at (i:=1) rfl) (λe=>e)) ?_;refine ρn ?_;refine nlds (cs:=v.cells) (λw' hg j u hu=>(Jqb hB2d hg (λe=>e)).at hu) ?_;refine ρn ?_;refine nbld (bldEntry v _ A _ c rfl) ?_;refine ρn ?_;refine nop ?_;have hb3':b3<w3.heap.size:=hB3.lt;have hw3:=hx03.size;have hN2:∀ k,(N k∨k=b3)->k<w3.heap.size:=λk hk=>hk.elim (λh=>Nat.lt_of_lt_of_le (hN k h) hx03.size) (λe=>by rw [e];exact hb3')
 have hh:TrV (λk=>N k∨k=b3) w5.drew t (.pointer q):=(h.old (N':=λk=>N k∨k=b3) λk hk=>hk.imp id λe=>by rw [e];exact Nat.le_trans (hx1.trans hx2).size hb3).ext hx0d;have hwx:NatX (λk=>N k∨k=b3) w5.drew (.slice A (Jjf x).length c) x:=hfr.x (hwn.ext hxd) λk hk=>Nat.lt_of_lt_of_le (hN2 k hk) hx4.size;refine cl (put_any t _ _ hh hwx (λk hk=>Nat.lt_of_lt_of_le (hN2 k hk) hx35.size) hn hs) ?_;rintro u w6 ⟨hu,hx6⟩;obtain ⟨q2,rfl⟩:=hu.ptr;refine ρ ?_;refine Jql (GrN.ext hx6) ?_;refine ρn ?_;refine nbld (bldTree d q2) ?_;refine ρn ?_;refine Jkm ?_;refine stb (cs':=[.bool d,.pointer q2]) (hB3d.ext hx6) ?_ Jzw;intro w7 hB7 hg7 hx7;refine ρ ?_;refine Qqm ?_;refine Jkm ?_;refine ρ ?_;have hx07:Ext w w7:=hx7 w (hx0d.trans hx6) (Nat.le_trans (hx1.trans hx2).size hb3);have hu7:=(hu.gr (GrN.by hg7 (λk hk=>.inr (by injection hk with hk;exact hk.symm)))).old (N':=N) λk hk=>.inl (.inl hk);exact Jyk hB7 ⟨_,rfl,hu7,hx07⟩
end Go.Proofs.YtefpailelagbkaaGreatDoor
