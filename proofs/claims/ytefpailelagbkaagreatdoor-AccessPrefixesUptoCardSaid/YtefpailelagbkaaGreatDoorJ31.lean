/- Part 31 of the proof: Wt3, Wt4, Wt5. -/
import Derived.Test.YtefpailelagbkaaGreatDoorJ30
set_option linter.unusedVariables false
set_option maxRecDepth 100000
set_option maxHeartbeats 40000000
namespace Go.Proofs.YtefpailelagbkaaGreatDoor
open Go.RowKit Pl Go.Wk
attribute [local irreducible] WC WL QX WD WDB WP WN WG
theorem neg_lt{d:Bool}{a b:V}: neg d (cmpV a b)=if d=true then cmpV b a else cmpV a b:=by
 unfold neg;split
 ·exact (cmp_V.anti a b).symm
 ·rfl
theorem Qbk{w:World}{d:Bool}{p:Option Addr}{a b:V}: Ret Tryz.prog 99 [.agg #[.bool d,.pointer p],a.val,b.val] w λu w'=>u=.int .i64 (neg d (cmpV a b))/\Ext w w':=by
 rw [neg_lt];refine Jjb Tryz.func99 Tryz.ntmps99 rfl (by kernel_rfl) rfl ?_;refine ρ ?_;refine bx (cs:=[.bool d,.pointer p]) ?_;intro w1 b1 hx1 hb1 hB1;refine ρ ?_;refine bx (cs:=a.cells) ?_;intro w2 b2 hx2 hb2 hB2;refine ρ ?_;refine bx (cs:=b.cells) ?_;intro w3 b3 hx3 hb3 hB3;have hB1':=(hB1.ext hx2).ext hx3;have hB2':=hB2.ext hx3;refine ρ ?_;refine ld (hB1'.at (i:=0) rfl) ?_;refine ρ ?_;refine ci (λh=>?_) (λh=>?_)
 ·refine ρ ?_;refine lds (cs:=b.cells) (λj u hu=>hB3.at hu) ?_;refine ρ ?_;refine lds (cs:=a.cells) (λj u hu=>hB2'.at hu) ?_;refine ρ ?_;refine cl (Jxk b a _) ?_;rintro u w4 ⟨rfl,hx4⟩;refine ρ ?_;refine Jjq ⟨?_,((hx1.trans hx2).trans hx3).trans hx4⟩;rw [if_pos h]
 ·refine ρ ?_;refine lds (cs:=a.cells) (λj u hu=>hB2'.at hu) ?_;refine ρ ?_;refine lds (cs:=b.cells) (λj u hu=>hB3.at hu) ?_;refine ρ ?_;refine cl (Jxk a b _) ?_;rintro u w4 ⟨rfl,hx4⟩;refine ρ ?_;refine Jjq ⟨?_,((hx1.trans hx2).trans hx3).trans hx4⟩;rw [if_neg (by rw [h];simp)]
theorem Qnq(l:Tr)(v:V)(x:Nat)(r:Tr): (Tr.bal l v x r).sum=l.sum+x+r.sum:=by
 have:=congrArg tot (Tr.toL_bal l v x r);rw [<-Tr.sum_eq,Jlk,tot,<-Tr.sum_eq,<-Tr.sum_eq]at this;rw [this];simp only;omega
theorem Jlx(d:Bool)(v:V)(x:Nat): ∀ t:Tr,(Tr.put d v x t).sum<=t.sum+x
 | .nil=>by simp [Tr.put,Tr.sum]
 | .node l a y r=>by
  have h1:=Jlx d v x l;have h2:=Jlx d v x r;unfold Tr.put;split
  ·rw [Qnq,Tr.sum];omega
  ·split
   ·rw [Qnq,Tr.sum];omega
   ·rw [Tr.sum,Tr.sum];omega
theorem Xxv{N:Nat->Prop}{d:Bool}{p0:Option Addr}{v:V}{x:Nat}{wt:Value}: ∀ (t:Tr) (p:Value) (w:World),TrV N w t p->NatX N w wt x->(∀ k,N k->k<w.heap.size)->Nb (t.sum+x)->t.sz+1<=1000000 ->
  Ret Tryz.prog 159 [.agg #[.bool d,.pointer p0],p,.agg (v.cells++[wt]).toArray] w λu w'=>TrV N w' (Tr.put d v x t) u/\Ext w w':=by
 intro t;induction t with
 | nil=>
  intro p w hp hw hN hb hs;obtain rfl:p=.pointer none:=hp;refine Jjb Tryz.func159 Tryz.ntmps159 rfl (by kernel_rfl) rfl ?_;refine ρ ?_;refine bx (cs:=[.bool d,.pointer p0]) ?_;intro w1 b1 hx1 hb1 hB1;refine ρ ?_;refine bx (cs:=v.cells++[wt]) ?_;intro w2 b2 hx2 hb2 hB2;have hx:=hx1.trans hx2;refine ρ ?_;refine pnl ?_;refine ρ ?_;refine lds (cs:=v.cells++[wt]) (λj u hu=>hB2.at hu) ?_;refine ρ ?_;refine cl (Jzg (l:=.nil) (r:=.nil) (show TrV N w2 .nil (.pointer none) from rfl) (show TrV N w2 .nil (.pointer none) from rfl) (hw.ext hx) (λk hk=>Nat.lt_of_lt_of_le (hN k hk) hx.size) (hb.le (by simp [Tr.sum])) (by simp [Tr.sz])) ?_;rintro u w3 ⟨hu,hx3⟩;refine ρ ?_;exact Jjq ⟨hu,hx.trans hx3⟩
 | node l a y r ihl ihr=>
  intro p w hp hw hN hb hs;obtain ⟨bn,wn,pl,pr,sn,rfl,⟨hBn,hnbn⟩,hwn,hsn,hl,hr⟩:=id hp;obtain ⟨ql,rfl⟩:=hl.ptr;obtain ⟨qr,rfl⟩:=hr.ptr;simp only [Tr.sum]at hb;simp only [Tr.sz]at hs;refine Jjb Tryz.func159 Tryz.ntmps159 rfl (by kernel_rfl) rfl ?_;refine ρ ?_;refine bx (cs:=[.bool d,.pointer p0]) ?_;intro w1 b1 hx1 hb1 hB1;refine ρ ?_;refine bx (cs:=v.cells++[wt]) ?_;intro w2 b2 hx2 hb2 hB2;have hx:=hx1.trans hx2;refine ρ ?_;refine pnl ?_;refine ρ ?_;have hxd:Ext w2 w2.drew:=(Ext.refl w2).drew;have hBnd:=hBn.ext (hx.trans hxd);have hB1d:=(hB1.ext hx2).ext hxd;have hB2d:=hB2.ext hxd;refine dr [(0,0),(0,1),(0,2),(0,3),(0,4),(0,5),(0,6),(0,7),(1,8),(0,9)] (by kernel_rfl) ?_;refine ρd ?_;refine Jwv (cs:=[.bool d,.pointer p0]) (λj u hu=>hB1d.at hu) ?_;refine ρd ?_;refine Jwv (cs:=v.cells) (Blk.pre (cs:=v.cells) hB2d) ?_;refine ρd ?_;refine Jwv (cs:=a.cells) (Blk.pre (cs:=a.cells) hBnd) ?_
  refine ρd ?_;refine dcl (Qbk (a:=v) (b:=a)) ?_;rintro u w3 ⟨rfl,hx3⟩;refine ⟨hx3,?_⟩;refine ρd ?_;refine ρ ?_;have hx03:=(hx.trans hxd).trans hx3;refine ci (λhc=>?_) (λhc=>?_)
  ·have hc:=of_decide_eq_true hc;have hxd3:Ext w3 w3.drew:=(Ext.refl w3).drew;have hxz:=hx03.trans hxd3;have hBn3:=hBn.ext hxz;refine ρ ?_;refine dr [(0,0),(0,1),(0,2),(0,3),(0,4),(0,5),(0,7),(0,8),(0,9),(0,10),(0,11),(0,12),(0,13),(0,14),(1,6),(1,15),(0,16)] (by kernel_rfl) ?_;refine ρd ?_;refine Jwv (cs:=[.bool d,.pointer p0]) (λj u hu=>((hB1d.ext hx3).ext hxd3).at hu) ?_;refine ρd ?_;refine dld (hBn3.at (i:=4) rfl) ?_;refine ρd ?_;refine Jwv (cs:=v.cells++[wt]) (λj u hu=>((hB2d.ext hx3).ext hxd3).at hu) ?_;refine ρd ?_;refine Jwv (cs:=a.cells++[wn]) (Blk.pre (cs:=a.cells++[wn]) hBn3) ?_;refine ρd ?_;refine dld (hBn3.at (i:=5) rfl) ?_;refine ρd ?_;refine dcl (ihl _ _ (hl.ext hxz) (hw.ext hxz) (λk hk=>Nat.lt_of_lt_of_le (hN k hk) hxz.size) (hb.le (by omega)) (by omega)) ?_;rintro u w4 ⟨hu4,hx4⟩;refine ⟨hx4,?_⟩;have hs1:=Tr.put_sz d v x l;have hs2:=Jlx d v x l;refine ρd ?_;refine dcl (Jnw hu4 (hr.ext (hxz.trans hx4)) (hwn.ext (hxz.trans hx4)) (λk hk=>Nat.lt_of_lt_of_le (hN k hk) (hxz.trans hx4).size) (hb.le (by simp only [Tr.sum];omega)) (by simp only [Tr.sz];omega)) ?_
   rintro u w5 ⟨hu5,hx5⟩;refine ⟨hx5,?_⟩;refine ρd ?_;refine ρ ?_;refine Jjq ⟨?_,(hxz.trans hx4).trans hx5⟩;rw [Tr.put,if_pos hc];exact hu5
  have hc:=of_decide_eq_false hc;refine ρ ?_;refine ci (λhc2=>?_) (λhc2=>?_)
  ·have hc2:=of_decide_eq_true hc2;have hxd3:Ext w3 w3.drew:=(Ext.refl w3).drew;have hxz:=hx03.trans hxd3;have hBn3:=hBn.ext hxz;refine ρ ?_;refine dr [(0,0),(0,1),(0,2),(0,3),(0,4),(0,5),(0,6),(0,7),(0,8),(0,9),(0,10),(0,11),(0,12),(0,13),(1,14),(1,15),(0,16)] (by kernel_rfl) ?_;refine ρd ?_;refine dld (hBn3.at (i:=4) rfl) ?_;refine ρd ?_;refine Jwv (cs:=a.cells++[wn]) (Blk.pre (cs:=a.cells++[wn]) hBn3) ?_;refine ρd ?_;refine Jwv (cs:=[.bool d,.pointer p0]) (λj u hu=>((hB1d.ext hx3).ext hxd3).at hu) ?_;refine ρd ?_;refine dld (hBn3.at (i:=5) rfl) ?_;refine ρd ?_;refine Jwv (cs:=v.cells++[wt]) (λj u hu=>((hB2d.ext hx3).ext hxd3).at hu) ?_;refine ρd ?_;refine dcl (ihr _ _ (hr.ext hxz) (hw.ext hxz) (λk hk=>Nat.lt_of_lt_of_le (hN k hk) hxz.size) (hb.le (by omega)) (by omega)) ?_;rintro u w4 ⟨hu4,hx4⟩;refine ⟨hx4,?_⟩;have hs1:=Tr.put_sz d v x r;have hs2:=Jlx d v x r;refine ρd ?_;refine dcl (Jnw (hl.ext (hxz.trans hx4)) hu4 (hwn.ext (hxz.trans hx4)) (λk hk=>Nat.lt_of_lt_of_le (hN k hk) (hxz.trans hx4).size) (hb.le (by simp only [Tr.sum];omega)) (by simp only [Tr.sz];omega)) ?_
   rintro u w5 ⟨hu5,hx5⟩;refine ⟨hx5,?_⟩;refine ρd ?_;refine ρ ?_;refine Jjq ⟨?_,(hxz.trans hx4).trans hx5⟩;rw [Tr.put,if_neg hc,if_pos hc2];exact hu5
  have hc2:=of_decide_eq_false hc2;have hxd3:Ext w3 w3.drew:=(Ext.refl w3).drew;have hxz:=hx03.trans hxd3;have hBn3:=hBn.ext hxz;refine ρ ?_;refine dr [(0,0),(0,1),(0,2),(0,3),(0,4),(0,5),(0,6),(0,7),(0,8),(1,9),(0,10)] (by kernel_rfl) ?_;refine ρd ?_;refine dld (hBn3.at (i:=4) rfl) ?_;refine ρd ?_;refine Jwv (cs:=v.cells++[wt]) (λj u hu=>((hB2d.ext hx3).ext hxd3).at hu) ?_;refine ρd ?_;refine dld (hBn3.at (i:=5) rfl) ?_;refine ρd ?_;refine dcl (Jzg (hl.ext hxz) (hr.ext hxz) (hw.ext hxz) (λk hk=>Nat.lt_of_lt_of_le (hN k hk) hxz.size) (hb.le (by simp only [Tr.sum];omega)) (by simp only [Tr.sz];omega)) ?_;rintro u w4 ⟨hu4,hx4⟩;refine ⟨hx4,?_⟩;refine ρd ?_;refine ρ ?_;refine Jjq ⟨?_,hxz.trans hx4⟩;rw [Tr.put,if_neg hc,if_neg hc2];exact hu4
theorem Jff: Jxc Tryz.prog 126=some (.agg #[.bool false,.pointer none]):=by kernel_rfl
theorem Xkj(d:Bool)(p:Option Addr)(w:World): (Instr.build 126 #[(0,.bool d),(1,.pointer p)]).run Tryz.prog w=.ok (.agg #[.bool d,.pointer p]) w:=by kernel_rfl
theorem Qsz(d:Bool)(w:World): (Instr.build 126 #[(0,.bool d)]).run Tryz.prog w=.ok (.agg #[.bool d,.pointer none]) w:=by kernel_rfl
theorem Qtd(v:V)(wt:Value)(A:Option Addr)(n c:Nat)(h:wt=.slice A n c)(w:World): (Instr.build 172 #[(0,v.val),(1,wt)]).run Tryz.prog w=.ok (.agg (v.cells++[wt]).toArray) w:=by subst h;kernel_rfl
theorem Jzv{d:Bool}{p:Option Addr}: ∀ u∈[Value.bool d,.pointer p],u.oneCell'=true:=λu hu=>by
 simp only [List.mem_cons,List.not_mem_nil,or_false]at hu;rcases hu with rfl|rfl<;>rfl
theorem Qkn{w:World}{d:Bool}: Ret Tryz.prog 130 [.bool d] w λu w'=>u=.agg #[.bool d,.pointer none]/\Ext w w':=by
 refine Jjb Tryz.func130 Tryz.ntmps130 rfl (by kernel_rfl) rfl ?_;refine ρ ?_;refine alc (cs:=[.bool false,.pointer none]) Jff ?_;intro w1 b hx1 hb hB;refine ρ ?_;refine bld (Qsz d _) ?_;refine ρ ?_;refine stb (cs':=[.bool d,.pointer none]) hB ?_ Jzv;intro w2 hB2 hg2 hx2;refine ρ ?_;exact Qwd hB2 ⟨rfl,hx2 w hx1 hb⟩
theorem Qpn{N:Nat->Prop}{w:World}{d:Bool}{p:Value}{t:Tr}(h:TrV N w t p): Ret Tryz.prog 70 [.agg #[.bool d,p]] w λu w'=>u=.int .i64 (t.ht:Int)/\Ext w w':=by
 obtain ⟨q,rfl⟩:=h.ptr;refine Jjb Tryz.func70 Tryz.ntmps70 rfl (by kernel_rfl) rfl ?_;refine ρ ?_;refine bx (cs:=[.bool d,.pointer q]) ?_;intro w1 b hx1 hb hB;refine ρ ?_;refine ld (hB.at (i:=1) rfl) ?_;refine ρ ?_;refine cl (Jzh (h.ext hx1)) ?_;rintro u w2 ⟨rfl,rfl⟩;refine ρ ?_;exact Jjq ⟨rfl,hx1⟩
theorem Jlh{N:Nat->Prop}{w:World}{d:Bool}{p:Value}{t:Tr}{v:V}{wt:Value}{x:Nat}(h:TrV N w t p)(hv:Jxd v=true)(hw:NatV w wt x)(hN:∀ k,N k->k<w.heap.size)(h0:x≠0)(hn:Nb (t.sum+x))(hs:t.sz+1<=1000000):
  Ret Tryz.prog 131 [.agg #[.bool d,p],v.val,wt] w λu w'=>∃ q,u=.tuple #[.agg #[.bool d,q],.int .i64 0]/\TrV N w' (Tr.put d v x t) q/\Ext w w':=by
 obtain ⟨q,rfl⟩:=h.ptr;refine Jjb Tryz.func131 Tryz.ntmps131 rfl (by kernel_rfl) rfl ?_;refine ρ ?_;refine bx (cs:=[.bool d,.pointer q]) ?_;intro w1 b1 hx1 hb1 hB1;refine ρ ?_;refine bx (cs:=v.cells) ?_;intro w2 b2 hx2 hb2 hB2;refine ρ ?_;refine alc (cs:=[.bool false,.pointer none]) Jff ?_;intro w3 b3 hx3 hb3 hB3;have hx03:=(hx1.trans hx2).trans hx3;have hB1':=(hB1.ext hx2).ext hx3;have hB2':=hB2.ext hx3;refine ρ ?_;refine lds (cs:=v.cells) (λj u hu=>hB2'.at hu) ?_;refine ρ ?_;refine cl (Jbx v _) ?_;rintro u w4 ⟨rfl,hx4⟩;rw [hv];refine ρ ?_;refine cl (Jyt (hw.ext (hx03.trans hx4)) (hn.le (by omega)).len) ?_;rintro wn w5 ⟨hwn,hfr,hx5⟩;have hx05:=(hx03.trans hx4).trans hx5;obtain ⟨A,c,rfl,hc,hm,hrd⟩:=id hwn;have hpos:0<(Jjf x).length:=by
  rcases Nat.eq_zero_or_pos (Jjf x).length with h1|h1
  ·have:=List.eq_nil_of_length_eq_zero h1;have e:=Jqp x;rw [this]at e;exact absurd e.symm h0
  ·exact h1
 refine ρ ?_;refine cf ?_ ?_
 ·exact Qfl (by omega)
 refine ρ ?_;refine drN (λ_=>False) 10 [(0,0),(0,1),(0,2),(0,3),(0,4),(0,5),(0,6),(0,7),(1,8),(0,9),(2,10),(2,11)] (by kernel_rfl) ?_;have hxd:Ext w5 w5.drew:=(Ext.refl w5).drew;have hx35:=(hx4.trans hx5).trans hxd;have hB1d:=hB1'.ext hx35;have hB2d:=hB2'.ext hx35;have hB3d:=hB3.ext hx35;have hx0d:=hx05.trans hxd;refine ρn ?_;refine nld (Jjg (hB1d.at (i:=0) rfl) (λe=>e)) ?_;refine ρn ?_;refine Jfd (cs:=[.bool d,.pointer q]) (λw' hg j u hu=>(Jqb hB1d hg (λe=>e)).at hu) ?_;refine ρn ?_;refine nld (Jjg (hB1d.at (i:=1) rfl) (λe=>e)) ?_;refine ρn ?_;refine Jfd (cs:=v.cells) (λw' hg j u hu=>(Jqb hB2d hg (λe=>e)).at hu) ?_;refine ρn ?_;refine Xzj (Qtd v _ A _ c rfl) ?_;refine ρn ?_;refine nop ?_;have hb3':b3<w3.heap.size:=hB3.lt;have hw3:=hx03.size;have hN2:∀ k,(N k∨k=b3)->k<w3.heap.size:=λk hk=>hk.elim (λh=>Nat.lt_of_lt_of_le (hN k h) hx03.size) (λe=>by rw [e];exact hb3')
 have hh:TrV (λk=>N k∨k=b3) w5.drew t (.pointer q):=(h.old (N':=λk=>N k∨k=b3) λk hk=>hk.imp id λe=>by rw [e];exact Nat.le_trans (hx1.trans hx2).size hb3).ext hx0d;have hwx:NatX (λk=>N k∨k=b3) w5.drew (.slice A (Jjf x).length c) x:=hfr.x (hwn.ext hxd) λk hk=>Nat.lt_of_lt_of_le (hN2 k hk) hx4.size;refine cl (Xxv t _ _ hh hwx (λk hk=>Nat.lt_of_lt_of_le (hN2 k hk) hx35.size) hn hs) ?_;rintro u w6 ⟨hu,hx6⟩;obtain ⟨q2,rfl⟩:=hu.ptr;refine ρ ?_;refine Jqm (GrN.ext hx6) ?_;refine ρn ?_;refine Xzj (Xkj d q2) ?_;refine ρn ?_;refine Jkj ?_;refine stb (cs':=[.bool d,.pointer q2]) (hB3d.ext hx6) ?_ Jzv;intro w7 hB7 hg7 hx7;refine ρ ?_;refine Jch ?_;refine Jkj ?_;refine ρ ?_;have hx07:Ext w w7:=hx7 w (hx0d.trans hx6) (Nat.le_trans (hx1.trans hx2).size hb3);have hu7:=(hu.gr (GrN.by hg7 (λk hk=>.inr (by injection hk with hk;exact hk.symm)))).old (N':=N) λk hk=>.inl (.inl hk);exact Jyf hB7 ⟨_,rfl,hu7,hx07⟩
open Go.RowKit Pl Go.Wk
theorem Qvk{N:Nat->Prop}{J:Tr->World->Prop}{D:World->Prop}{fid:FuncId}{cap:Array Value}{d:Bool}{p:Value}{t:Tr}{w:World}(hp:TrV N w t p)(hj:J t w)(hht:t.ht<=1000000)(hx:∀ s w w',J s w->Ext w w'->J s w')(hnil:∀ w,J .nil w->D w)(hcall:∀ l v x r u w,TrV N w (.node l v x r) u->J (.node l v x r) w->Ret Tryz.prog fid ((#[]:Array Value).toList++[u]++cap.toList) w λz w'=>∃ c,z=.int .i64 c/\GrN N w w'/\(c<0->J l w')/\(0<c->J r w')/\(c=0->D w')):
  Ret Tryz.prog 97 [.agg #[.bool d,p],.func (.func fid) #[] cap] w λz w'=>(∃ k:Nat,z=.int .i64 (k:Int)/\k<=t.ht)/\D w'/\GrN N w w':=by
 obtain ⟨q,rfl⟩:=hp.ptr;refine Jjb Tryz.func97 Tryz.ntmps97 rfl (by kernel_rfl) rfl ?_;refine ρ ?_;refine bx (cs:=[.bool d,.pointer q]) ?_;intro w1 b hx1 hb hB;refine ρ ?_;refine ld (hB.at (i:=1) rfl) ?_;refine ρ ?_;refine Jzk (fun (k:Nat) (s:Tr) (q:Option Addr)=>[(1,.func (.func fid) #[] cap),(5,.int .i64 (k:Int)),(6,.pointer q)])
  (λk s q w'=>k+s.ht<=t.ht/\TrV N w' s (.pointer q)/\J s w'/\GrN N w w') (λ_ s _=>s.sz) 0 t q sB
  ⟨by omega,hp.ext hx1,hx _ _ _ hj hx1,GrN.ext hx1⟩ ?_
 rintro k s q2 w2 ⟨hk,hs,hjs,hg2⟩;refine ρ ?_;cases s with
 | nil=>
  obtain rfl:q2=none:=by have:Value.pointer q2=.pointer none:=hs;injection this
  refine pnn ?_;refine ρ ?_;refine Jjq ⟨⟨k,rfl,by omega⟩,hnil _ hjs,hg2⟩
 | node l v x r=>
  obtain ⟨bn,wn,pl,pr,sn,e,⟨hBn,hnbn⟩,hwn,hsn,hl,hr⟩:=id hs;obtain rfl:q2=some ⟨bn,0,none⟩:=by injection e
  obtain ⟨ql,rfl⟩:=hl.ptr;obtain ⟨qr,rfl⟩:=hr.ptr;have hht1:l.ht+1<=(Tr.node l v x r).ht:=by simp only [Tr.ht];omega
  have hht2:r.ht+1<=(Tr.node l v x r).ht:=by simp only [Tr.ht];omega
  have hsz1:l.sz<(Tr.node l v x r).sz:=by simp only [Tr.sz];omega
  have hsz2:r.sz<(Tr.node l v x r).sz:=by simp only [Tr.sz];omega
  refine pnn ?_;refine ρ ?_;refine clv (hcall l v x r _ w2 hs hjs) ?_;rintro z w3 ⟨c,rfl,hg3,k1,k2,k3⟩;have hg:=hg2.trans hg3;have hBn3:=Jqb hBn hg3 hnbn;refine ρ ?_;refine ci (λhc=>?_) (λhc=>?_)
  ·have hc:=of_decide_eq_true hc;refine ρ ?_;refine ld (hBn3.at (i:=4) rfl) ?_;refine ρ ?_;exact Jqf (k+1) l ql sO ⟨by omega,hl.gr hg3,k1 hc,hg⟩ (by omega)
  have hc:=of_decide_eq_false hc;refine ρ ?_;refine ci (λhc2=>?_) (λhc2=>?_)
  ·have hc2:=of_decide_eq_true hc2;refine ρ ?_;refine ld (hBn3.at (i:=5) rfl) ?_;refine ρ ?_;exact Jqf (k+1) r qr sO ⟨by omega,hr.gr hg3,k2 hc2,hg⟩ (by omega)
  have hc2:=of_decide_eq_false hc2;refine ρ ?_;refine Jjq ⟨⟨k+1,rfl,by omega⟩,k3 (by omega),hg⟩
structure BefB(bT bV bS bF:Nat)(d:Bool)(q:Option Addr)(v:V)(w:World)(sv:Value)(f:Bool): Prop where
 tb:Blk w bT 126 [.bool d,.pointer q]
 vb:Blk w bV 71 v.cells
 sb:Blk w bS 32 [sv]
 fb:Blk w bF 4 [.bool f]
theorem BefB.ext{bT bV bS bF:Nat}{d:Bool}{q:Option Addr}{v:V}{w w':World}{sv:Value}{f:Bool}(h:BefB bT bV bS bF d q v w sv f)(hx:Ext w w'): BefB bT bV bS bF d q v w' sv f :=
 ⟨h.tb.ext hx,h.vb.ext hx,h.sb.ext hx,h.fb.ext hx⟩
def BefJ(bT bV bS bF:Nat)(d:Bool)(q:Option Addr)(v:V)(t:Tr)(s:Tr)(w:World): Prop :=
 ∃ sv m,BefB bT bV bS bF d q v w sv false/\NatX (λk=>k=bS∨k=bF) w sv m/\m+Tr.befT d v s=Tr.befT d v t/\Tr.hasT d v s=Tr.hasT d v t/\m+s.sum<=t.sum
def BefD(bT bV bS bF:Nat)(d:Bool)(q:Option Addr)(v:V)(t:Tr)(w:World): Prop :=
 ∃ sv,BefB bT bV bS bF d q v w sv (Tr.hasT d v t)/\NatX (λk=>k=bS∨k=bF) w sv (Tr.befT d v t)
theorem Qws{bT bV bS bF:Nat}{d:Bool}{q:Option Addr}{v:V}{t:Tr}(hne:bT≠bS/\bT≠bF/\bV≠bS/\bV≠bF/\bS≠bF)(hb:Nb t.sum):
  ∀ l a x r u w,TrV (λk=>k=bS∨k=bF) w (.node l a x r) u->BefJ bT bV bS bF d q v t (.node l a x r) w ->
  Ret Tryz.prog 98 ((#[]:Array Value).toList++[u]++(#[.pointer (some ⟨bT,0,none⟩),.pointer (some ⟨bV,0,none⟩),.pointer (some ⟨bS,0,none⟩),.pointer (some ⟨bF,0,none⟩)]:Array Value).toList) w λz w'=>∃ c,z=.int .i64 c/\GrN (λk=>k=bS∨k=bF) w w'/\(c<0->BefJ bT bV bS bF d q v t l w')/\(0<c->BefJ bT bV bS bF d q v t r w')/\(c=0->BefD bT bV bS bF d q v t w'):=by
 obtain ⟨n1,n2,n3,n4,n5⟩:=hne;rintro l a x r u w hs ⟨sv,m,hB,hm,e1,e2,e3⟩;obtain ⟨bn,wn,pl,pr,sn,rfl,⟨hBn,hnbn⟩,hwn,hsn,hl,hr⟩:=id hs;obtain ⟨ql,rfl⟩:=hl.ptr;obtain ⟨qr,rfl⟩:=hr.ptr;simp only [Tr.sum]at e3;refine Jjb Tryz.func98 Tryz.ntmps98 rfl (by kernel_rfl) rfl ?_;refine ρ ?_;have hxd:Ext w w.drew:=(Ext.refl w).drew;have hBd:=hB.ext hxd;have hBnd:=hBn.ext hxd;refine dr [(0,0),(0,1),(0,2),(0,3),(0,4),(0,5),(0,6),(1,7),(0,8)] (by kernel_rfl) ?_;refine ρd ?_;refine Jwv (cs:=[.bool d,.pointer q]) (λj u hu=>hBd.tb.at hu) ?_;refine ρd ?_;refine Jwv (cs:=v.cells) (λj u hu=>hBd.vb.at hu) ?_;refine ρd ?_;refine Jwv (cs:=a.cells) (Blk.pre (cs:=a.cells) hBnd) ?_;refine ρd ?_;refine dcl (Qbk (a:=v) (b:=a)) ?_;rintro u w1 ⟨rfl,hx1⟩;refine ⟨hx1,?_⟩;refine ρd ?_;have hx01:=hxd.trans hx1;have hB1:=hB.ext hx01;have hm1:=hm.ext hx01;refine ρ ?_;refine ci (λhc=>?_) (λhc=>?_)
 ·have hc:=of_decide_eq_true hc;refine ρ ?_;refine Jjq ⟨neg d (cmpV v a),rfl,GrN.ext hx01,λ_=>⟨sv,m,hB1,hm1,?_,?_,by omega⟩,λh=>by omega,λh=>by omega⟩
  ·rw [<-e1,Tr.befT,if_pos hc]
  ·rw [<-e2,Tr.hasT,if_pos hc]
 have hc:=of_decide_eq_false hc;have hxd1:Ext w1 w1.drew:=(Ext.refl w1).drew;have hx0d:=hx01.trans hxd1;have hBn1:=hBn.ext hx0d;have hB1d:=hB1.ext hxd1;refine ρ ?_;refine drN (λ_=>False) 10 [(0,0),(0,1),(0,2),(0,3),(0,4),(1,5),(1,6),(2,7)] (by kernel_rfl) ?_;refine ρn ?_;refine nld (Jjg (hB1d.sb.at (i:=0) rfl) (λe=>e)) ?_;refine ρn ?_;refine nld (Jjg (hBn1.at (i:=4) rfl) (λe=>e)) ?_;refine ρn ?_;refine nop ?_;refine cl (Jvj (hl.ext hx0d)) ?_;rintro ul w2 ⟨hul,rfl⟩;refine ρ ?_;refine Jqm (GrN.refl _ _) ?_;refine ρn ?_;refine nop ?_;refine cl (Jkk (hm.ext hx0d).1 hul.1 (hb.le (by omega)).len (hb.le (by omega)).len) ?_;rintro us w3 ⟨hus,hfr,hx3⟩;refine ρ ?_;refine Jqm (GrN.ext hx3) ?_;refine ρn ?_;refine Jkj ?_;obtain ⟨A3,c3,rfl,hc3,_⟩:=id hus;refine Xxg (hB1d.ext hx3).sb ?_ rfl;intro w4 hS4 hg4 hx4;refine ρ ?_;have hB3:=hB1d.ext hx3;have hx03:=hx0d.trans hx3;have hNw:∀ k,(k=bS∨k=bF)->k<w1.drew.heap.size:=λk hk=>hk.elim (λe=>by rw [e];exact hB1d.sb.lt) (λe=>by rw [e];exact hB1d.fb.lt)
 have hm3:NatX (λk=>k=bS∨k=bF) w3 (.slice A3 (Jjf (m+l.sum)).length c3) (m+l.sum):=hfr.x hus hNw;have hg34:GrN (λk=>k=bS∨k=bF) w3 w4:=GrN.by hg4 λk hk=>.inl (by injection hk with hk;exact hk.symm)
 have hm4:=hm3.gr hg34;have hB4:BefB bT bV bS bF d q v w4 (.slice A3 (Jjf (m+l.sum)).length c3) false:=⟨hB3.tb.grown hg4 (by simpa using n1),hB3.vb.grown hg4 (by simpa using n3),hS4,hB3.fb.grown hg4 (by simpa using n5.symm)⟩;have hg04:GrN (λk=>k=bS∨k=bF) w w4:=(GrN.ext hx03).trans hg34;refine ci (λhc0=>?_) (λhc0=>?_)
 ·have hc0:neg d (cmpV v a)=0:=Jql hc0;refine ρ ?_;refine Xxg hB4.fb ?_ rfl;intro w5 hF5 hg5 hx5;refine ρ ?_;have hg45:GrN (λk=>k=bS∨k=bF) w4 w5:=GrN.by hg5 λk hk=>.inr (by injection hk with hk;exact hk.symm)
  refine Jjq ⟨0,rfl,hg04.trans hg45,λh=>by omega,λh=>by omega,λ_=>⟨_,⟨hB4.tb.grown hg5 (by simpa using n2),hB4.vb.grown hg5 (by simpa using n4),hB4.sb.grown hg5 (by simpa using n5),?_⟩,?_⟩⟩
  ·rw [<-e2,Tr.hasT,if_neg hc,if_pos hc0];exact hF5
  ·rw [<-e1,Tr.befT,if_neg hc,if_pos hc0];exact hm4.gr hg45
 have hc0:neg d (cmpV v a)≠0:=Jqh hc0;have hxd4:Ext w4 w4.drew:=(Ext.refl w4).drew;have hB4d:=hB4.ext hxd4;have hBn4:=(Jqb hBn hg04 hnbn).ext hxd4;refine ρ ?_;refine drN (λ_=>False) 10 [(0,0),(0,1),(0,2),(0,3),(0,4),(0,5),(1,6),(2,7)] (by kernel_rfl) ?_;refine ρn ?_;refine nld (Jjg (hB4d.sb.at (i:=0) rfl) (λe=>e)) ?_;refine ρn ?_;refine nld (Jjg (hBn4.at (i:=3) rfl) (λe=>e)) ?_;refine ρn ?_;refine nop ?_;refine cl (Jkk (hm4.ext hxd4).1 ((hwn.gr hg04).ext hxd4).1 (hb.le (by omega)).len (hb.le (by omega)).len) ?_;rintro us2 w5 ⟨hus2,hfr2,hx5⟩;refine ρ ?_;refine Jqm (GrN.ext hx5) ?_;refine ρn ?_;refine Jkj ?_;obtain ⟨A5,c5,rfl,hc5,_⟩:=id hus2;refine Xxg (hB4d.ext hx5).sb ?_ rfl;intro w6 hS6 hg6 hx6;refine ρ ?_;have hB5:=hB4d.ext hx5;have hm5:NatX (λk=>k=bS∨k=bF) w5 (.slice A5 (Jjf (m+l.sum+x)).length c5) (m+l.sum+x):=hfr2.x hus2 λk hk=>Nat.lt_of_lt_of_le (hNw k hk) (Nat.le_trans hx3.size (hg34.trans (GrN.ext hxd4)).size)
 have hg56:GrN (λk=>k=bS∨k=bF) w5 w6:=GrN.by hg6 λk hk=>.inl (by injection hk with hk;exact hk.symm)
 have hg06:GrN (λk=>k=bS∨k=bF) w w6:=((hg04.trans (GrN.ext hxd4)).trans (GrN.ext hx5)).trans hg56;refine Jjq ⟨neg d (cmpV v a),rfl,hg06,λh=>by omega,λh=>⟨_,m+l.sum+x,⟨hB5.tb.grown hg6 (by simpa using n1),hB5.vb.grown hg6 (by simpa using n3),hS6,hB5.fb.grown hg6 (by simpa using n5.symm)⟩,hm5.gr hg56,?_,?_,by omega⟩,λh=>by omega⟩
 ·rw [<-e1,Tr.befT,if_neg hc,if_neg hc0];omega
 ·rw [<-e2,Tr.hasT,if_neg hc,if_neg hc0]
end Go.Proofs.YtefpailelagbkaaGreatDoor
namespace Go.Wk
theorem Xzz{P:Program}{n:Nat}{al:AL}{w:World}{tt:TT}[h:Tab P tt]{fn:Func}{Φ:Value->World->Prop}{c t t1 t2 t3 b:Nat}{k:TK}{cs:List Value}{x y z:Value}(hb:Blk w b t cs)(hp:Φ (.tuple #[.agg cs.toArray,x,y,z]) w)(hr:fn.results = #[.cell c t,.tmp t1,.tmp t2,.tmp t3]:=by rfl)(ht:tk tt t=some k:=by rfl)(hk:k.desc=.invalid:=by rfl)(hs:k.size=cs.length:=by rfl)(hc:lk al c=some (.pointer (some ⟨b,0,none⟩)):=by rfl)(h1:lk al t1=some x:=by rfl)(h2:lk al t2=some y:=by rfl)(h3:lk al t3=some z:=by rfl):
  QX n (Qvd P fn Φ) .ret al w :=
 Qdz (rs:=[.cell c t,.tmp t1,.tmp t2,.tmp t3]) (vs:=[.agg cs.toArray,x,y,z]) hr ⟨⟨_,hc,Jwn h.ok ht hk hs (λj u hu=>hb.at hu)⟩,h1,h2,h3,trivial⟩ rfl hp
end Go.Wk
namespace Go.Proofs.YtefpailelagbkaaGreatDoor
open Go.RowKit Pl Go.Wk
attribute [local irreducible] WC WL QX WD WDB WP WN WG
theorem zNat: Jxc Tryz.prog 32=some (.slice none 0 0):=by kernel_rfl
theorem Xwz: Jxc Tryz.prog 4=some (.bool false):=by kernel_rfl
theorem Qfm{N:Nat->Prop}{w:World}{d:Bool}{p:Value}{t:Tr}{v:V}(h:TrV N w t p)(hb:Nb t.sum)(hs:t.sz<=1000000):
  Ret Tryz.prog 63 [.agg #[.bool d,p],v.val] w λu w'=>∃ sv,∃ k:Nat,u=.tuple #[sv,.bool (Tr.hasT d v t),.int .i64 (k:Int)]/\k<=t.ht/\NatV w' sv (Tr.befT d v t)/\Ext w w':=by
 obtain ⟨q,rfl⟩:=h.ptr;refine Jjb Tryz.func63 Tryz.ntmps63 rfl (by kernel_rfl) rfl ?_;refine ρ ?_;refine bx (cs:=[.bool d,.pointer q]) ?_;intro w1 bT hx1 hbT hT;refine ρ ?_;refine bx (cs:=v.cells) ?_;intro w2 bV hx2 hbV hV;refine ρ ?_;refine alc (cs:=[.slice none 0 0]) zNat ?_;intro w3 bS hx3 hbS hS;refine ρ ?_;refine alc (cs:=[.bool false]) Xwz ?_;intro w4 bF hx4 hbF hF;refine ρ ?_;refine Xxg hF ?_ rfl;intro w5 hF5 hg5 hx5;have lT:=hT.lt;have lV:=hV.lt;have lS:=hS.lt;have s12:=hx2.size;have s23:=hx3.size;have s34:=hx4.size;have nT:bT≠bS/\bT≠bF/\bV≠bS/\bV≠bF/\bS≠bF:=⟨by omega,by omega,by omega,by omega,by omega⟩;obtain ⟨n1,n2,n3,n4,n5⟩:=nT;have hx35:Ext w3 w5:=hx5 w3 hx4 hbF;have hx05:Ext w w5:=((hx1.trans hx2).trans hx3).trans hx35;have hT5:=((hT.ext hx2).ext hx3).ext hx35;have hV5:=(hV.ext hx3).ext hx35;have hS5:=hS.ext hx35;have s01:=hx1.size;have hN:TrV (λk=>k=bS∨k=bF) w5 t (.pointer q):=(h.old (N':=λk=>k=bS∨k=bF) λk hk=>.inr (by rcases hk with rfl|rfl<;>omega)).ext hx05
 have hht:=Tr.ht_le t;refine ρ ?_;refine lds (cs:=[.bool d,.pointer q]) (λj u hu=>hT5.at hu) ?_;refine ρ ?_;refine cl (Qvk (N:=λk=>k=bS∨k=bF) (J:=BefJ bT bV bS bF d q v t) (D:=BefD bT bV bS bF d q v t) hN ⟨_,0,⟨hT5,hV5,hS5,hF5⟩,NatX.nil _,by omega,rfl,by omega⟩ (by omega) ?_ ?_ (Qws ⟨n1,n2,n3,n4,n5⟩ hb)) ?_
 ·rintro s w w' ⟨sv,m,a1,a2,a3,a4,a5⟩ hx;exact ⟨sv,m,a1.ext hx,a2.ext hx,a3,a4,a5⟩
 ·rintro w ⟨sv,m,a1,a2,a3,a4,a5⟩;simp only [Tr.befT,Tr.hasT,Nat.add_zero]at a3 a4;refine ⟨sv,?_,?_⟩
  ·rw [<-a4];exact a1
  ·rw [<-a3];exact a2
 rintro z w6 ⟨⟨k,rfl,hk⟩,⟨sv,hB6,hn6⟩,hg6⟩;have hx06:Ext w w6:=hg6.old hx05 λk hk=>by rcases hk with rfl|rfl<;>omega
 have hxd:Ext w6 w6.drew:=(Ext.refl w6).drew;have hB6d:=hB6.ext hxd;refine ρ ?_;refine dr [(0,0),(0,1),(0,2),(0,3),(0,4),(0,5)] (by kernel_rfl) ?_;refine ρd ?_;refine dld (hB6d.sb.at (i:=0) rfl) ?_;refine ρd ?_;refine dld (hB6d.fb.at (i:=0) rfl) ?_;refine ρd ?_;refine ρ ?_;exact Qml ⟨sv,k,rfl,hk,(hn6.ext hxd).1,hx06.trans hxd⟩
structure FndB(bS bK bV bR:Nat)(w:World)(sv kv:Value)(v:V): Prop where
 sb:Blk w bS 32 [sv]
 kb:Blk w bK 32 [kv]
 vb:Blk w bV 71 v.cells
 rb:Blk w bR 71 V0.cells
theorem FndB.ext{bS bK bV bR:Nat}{w w':World}{sv kv:Value}{v:V}(h:FndB bS bK bV bR w sv kv v)(hx:Ext w w'): FndB bS bK bV bR w' sv kv v:=⟨h.sb.ext hx,h.kb.ext hx,h.vb.ext hx,h.rb.ext hx⟩
def FndJ(bS bK bV bR:Nat)(kv:Value)(k:Nat)(t:Tr)(s:Tr)(w:World): Prop :=
 ∃ sv m v,FndB bS bK bV bR w sv kv v/\NatX (λj=>j=bS∨j=bV∨j=bR) w sv m/\NatX (λj=>j=bS∨j=bV∨j=bR) w kv k/\m<=k/\k<m+s.sum/\m+s.sum<=t.sum/\Tr.findT k t=((Tr.findT (k-m) s).1,m+(Tr.findT (k-m) s).2)
def FndD(bS bK bV bR:Nat)(kv:Value)(k:Nat)(t:Tr)(w:World): Prop :=
 ∃ sv,FndB bS bK bV bR w sv kv (Tr.findT k t).1/\NatX (λj=>j=bS∨j=bV∨j=bR) w sv (Tr.findT k t).2
theorem cmpN_lt{a b:Nat}: Qft a b<0↔a<b:=by
 unfold Qft;split
 ·omega
 ·split<;>omega
theorem Qmj{bS bK bV bR k:Nat}{kv:Value}{t:Tr}(hne:bS≠bK/\bS≠bV/\bK≠bV/\bS≠bR/\bV≠bR)(hb:Nb t.sum):
  ∀ l a x r u w,TrV (λj=>j=bS∨j=bV∨j=bR) w (.node l a x r) u->FndJ bS bK bV bR kv k t (.node l a x r) w ->
  Ret Tryz.prog 105 ((#[]:Array Value).toList++[u]++(#[.pointer (some ⟨bS,0,none⟩),.pointer (some ⟨bK,0,none⟩),.pointer (some ⟨bV,0,none⟩)]:Array Value).toList) w λz w'=>∃ c,z=.int .i64 c/\GrN (λj=>j=bS∨j=bV∨j=bR) w w'/\(c<0->FndJ bS bK bV bR kv k t l w')/\(0<c->FndJ bS bK bV bR kv k t r w')/\(c=0->FndD bS bK bV bR kv k t w'):=by
 obtain ⟨n1,n2,n3,n4,n5⟩:=hne;rintro l a x r u w hs ⟨sv,m,v,hB,hm,hk,e1,e2,e3,e4⟩;obtain ⟨bn,wn,pl,pr,sn,rfl,⟨hBn,hnbn⟩,hwn,hsn,hl,hr⟩:=id hs;obtain ⟨ql,rfl⟩:=hl.ptr;obtain ⟨qr,rfl⟩:=hr.ptr;simp only [Tr.sum]at e2 e3;refine Jjb Tryz.func105 Tryz.ntmps105 rfl (by kernel_rfl) rfl ?_;refine ρ ?_;have hxd:Ext w w.drew:=(Ext.refl w).drew;have hBd:=hB.ext hxd;have hBnd:=hBn.ext hxd;refine dr [(0,0),(0,1),(0,2),(0,3),(0,4),(1,5),(1,6),(0,7)] (by kernel_rfl) ?_;refine ρd ?_;refine dld (hBd.sb.at (i:=0) rfl) ?_;refine ρd ?_;refine dld (hBnd.at (i:=4) rfl) ?_;refine ρd ?_;refine dcl (Jvj (hl.ext hxd)) ?_;rintro ul w1 ⟨hul,rfl⟩;refine ⟨Ext.refl _,?_⟩;refine ρd ?_;refine dcl (Jkk (hm.ext hxd).1 hul.1 (hb.le (by omega)).len (hb.le (by omega)).len) ?_;rintro us w2 ⟨hus,hfr,hx2⟩;refine ⟨hx2,?_⟩;refine ρd ?_;have hx02:=hxd.trans hx2;have hB2:=hB.ext hx02;refine ρ ?_;refine ld (hB2.kb.at (i:=0) rfl) ?_
 refine ρ ?_;refine cl (Jwl (hk.ext hx02).1 hus) ?_;rintro u w3 ⟨rfl,hx3⟩;have hx03:=hx02.trans hx3;have hB3:=hB2.ext hx3;have hNw:∀ j,(j=bS∨j=bV∨j=bR)->j<w.drew.heap.size:=λj hj=>hj.elim (λe=>by rw [e];exact hBd.sb.lt) (λe=>e.elim (λe=>by rw [e];exact hBd.vb.lt) (λe=>by rw [e];exact hBd.rb.lt));have hus3:NatX (λj=>j=bS∨j=bV∨j=bR) w3 us (m+l.sum):=hfr.x (hus.ext hx3) hNw;refine ρ ?_;refine ci (λhc=>?_) (λhc=>?_)
 ·have hc:k<m+l.sum:=cmpN_lt.1 (of_decide_eq_true hc);refine ρ ?_;refine Jjq ⟨-1,rfl,GrN.ext hx03,λ_=>⟨sv,m,v,hB3,hm.ext hx03,hk.ext hx03,e1,hc,by omega,?_⟩,λh=>by omega,λh=>by omega⟩;rw [e4,Tr.findT,if_pos (by omega)]
 have hc:¬ k<m+l.sum:=λh=>of_decide_eq_false hc (cmpN_lt.2 h);refine ρ ?_;refine ld ((hBn.ext hx03).at (i:=3) rfl) ?_;refine ρ ?_;refine cl (Jkk hus3.1 (hwn.ext hx03).1 (hb.le (by omega)).len (hb.le (by omega)).len) ?_;rintro ua w4 ⟨hua,hfa,hx4⟩;have hB4:=hB3.ext hx4;refine ρ ?_;refine ld (hB4.kb.at (i:=0) rfl) ?_;refine ρ ?_;refine cl (Jwl ((hk.ext hx03).ext hx4).1 hua) ?_;rintro u w5 ⟨rfl,hx5⟩;have hx05:=(hx03.trans hx4).trans hx5;have hB5:=hB4.ext hx5;have hua5:NatX (λj=>j=bS∨j=bV∨j=bR) w5 ua (m+l.sum+x):=hfa.x (hua.ext hx5) λj hj=>Nat.lt_of_lt_of_le (hNw j hj) (hx2.trans hx3).size;obtain ⟨A1,c1,ea,_⟩:=id hua5.1;obtain ⟨A2,c2,es,_⟩:=id hus3.1;have oa:ua.oneCell'=true:=by rw [ea];rfl
 have os:us.oneCell'=true:=by rw [es];rfl
 refine ρ ?_;refine ci (λhc2=>?_) (λhc2=>?_)
 ·have hc2:m+l.sum+x<=k:=by
   have:=of_decide_eq_true hc2;rcases Nat.lt_or_ge k (m+l.sum+x) with h|h
   ·have:=cmpN_lt.2 h;omega
   ·exact h
  refine ρ ?_;refine Xxg hB5.sb ?_ oa;intro w6 hS6 hg6 hx6;refine ρ ?_;have hg56:GrN (λj=>j=bS∨j=bV∨j=bR) w5 w6:=GrN.by hg6 λj hj=>.inl (by injection hj with hj;exact hj.symm)
  refine Jjq ⟨1,rfl,(GrN.ext hx05).trans hg56,λh=>by omega,λ_=>⟨ua,m+l.sum+x,v,⟨hS6,hB5.kb.grown hg6 (by simpa using n1.symm),hB5.vb.grown hg6 (by simpa using n2.symm),hB5.rb.grown hg6 (by simpa using n4.symm)⟩,hua5.gr hg56,(hk.ext hx05).gr hg56,hc2,by omega,by omega,?_⟩,λh=>by omega⟩;rw [e4,Tr.findT,if_neg (by omega),if_pos (by omega),show k-m-(l.sum+x)=k-(m+l.sum+x) by omega];simp only [Prod.mk.injEq,true_and];omega
 have hc2:k<m+l.sum+x:=by
  rcases Nat.lt_or_ge k (m+l.sum+x) with h|h
  ·exact h
  ·exact absurd (Int.not_lt.1 λh'=>by have:=cmpN_lt.1 h';omega) (of_decide_eq_false hc2)
 have e5:Tr.findT k t=(a,m+l.sum):=by rw [e4,Tr.findT,if_neg (by omega),if_neg (by omega)]
 refine ρ ?_;refine lds (cs:=a.cells) (Blk.pre (cs:=a.cells) (hBn.ext hx05)) ?_;refine ρ ?_;refine stb (cs':=a.cells) hB5.vb ?_ (V.one a);intro w6 hV6 hg6 hx6;refine ρ ?_;refine Xxg (hB5.sb.grown hg6 (by simpa using n2)) ?_ os;intro w7 hS7 hg7 hx7;refine ρ ?_;have hg56:GrN (λj=>j=bS∨j=bV∨j=bR) w5 w6:=GrN.by hg6 λj hj=>.inr (.inl (by injection hj with hj;exact hj.symm))
 have hg67:GrN (λj=>j=bS∨j=bV∨j=bR) w6 w7:=GrN.by hg7 λj hj=>.inl (by injection hj with hj;exact hj.symm)
 refine Jjq ⟨0,rfl,((GrN.ext hx05).trans hg56).trans hg67,λh=>by omega,λh=>by omega,λ_=>⟨us,⟨hS7,(hB5.kb.grown hg6 (by simpa using n3)).grown hg7 (by simpa using n1.symm),?_,(hB5.rb.grown hg6 (by simpa using n5.symm)).grown hg7 (by simpa using n4.symm)⟩,?_⟩⟩
 ·rw [e5];exact hV6.grown hg7 (by simpa using n2.symm)
 ·rw [e5];exact (((hus3.ext hx4).ext hx5).gr hg56).gr hg67
theorem Qsg{N:Nat->Prop}{w:World}{d:Bool}{p kv:Value}{t:Tr}{k:Nat}(h:TrV N w t p)(hkv:NatV w kv k)(hk:k<t.sum)(hb:Nb t.sum)(hs:t.sz<=1000000):
  Ret Tryz.prog 67 [.agg #[.bool d,p],kv] w λu w'=>∃ sv,∃ n:Nat,u=.tuple #[(Tr.findT k t).1.val,sv,.int .i64 (n:Int),.int .i64 0]/\n<=t.ht/\NatV w' sv (Tr.findT k t).2/\Ext w w':=by
 obtain ⟨q,rfl⟩:=h.ptr;obtain ⟨Ak,ck,ek,_⟩:=id hkv;refine Jjb Tryz.func67 Tryz.ntmps67 rfl (by kernel_rfl) rfl ?_;refine ρ ?_;refine bx (cs:=[.bool d,.pointer q]) ?_;intro w1 bT hx1 hbT hT;refine ρ ?_;refine bx (cs:=[kv]) ?_ (hv:=by rw [ek];rfl);intro w2 bK hx2 hbK hK;refine ρ ?_;refine alc (cs:=V0.cells) Qpl ?_;intro w3 bR hx3 hbR hR;have hx03:=(hx1.trans hx2).trans hx3;have hxd:Ext w3 w3.drew:=(Ext.refl w3).drew;have hx0d:=hx03.trans hxd;have hT3:=(hT.ext hx2).ext hx3;have hK3:=hK.ext hx3;refine ρ ?_;refine dr [(0,0),(0,1),(0,2),(1,3),(1,4),(0,5)] (by kernel_rfl) ?_;refine ρd ?_;refine dld ((hK3.ext hxd).at (i:=0) rfl) ?_;refine ρd ?_;refine dld ((hT3.ext hxd).at (i:=1) rfl) ?_;refine ρd ?_;refine dcl (Jvj (h.ext hx0d)) ?_;rintro ut w4 ⟨hut,rfl⟩;refine ⟨Ext.refl _,?_⟩;refine ρd ?_;refine dcl (Jwl (hkv.ext hx0d) hut.1) ?_;rintro u w4 ⟨rfl,hx4⟩;refine ⟨hx4,?_⟩;refine ρd ?_
 have hxc:¬ (0<=Qft k t.sum):=Int.not_le.2 (cmpN_lt.2 hk);refine ρ ?_;refine cf (decide_eq_false hxc) ?_;have hx04:=hx0d.trans hx4;refine ρ ?_;refine alc (cs:=V0.cells) Qpl ?_;intro w5 bV hx5 hbV hV;refine ρ ?_;refine alc (cs:=[.slice none 0 0]) zNat ?_;intro w6 bS hx6 hbS hS;have lT:=hT.lt;have lK:=hK.lt;have lR:=hR.lt;have lV:=hV.lt;have s01:=hx1.size;have s12:=hx2.size;have s23:=hx3.size;have s34:=(hxd.trans hx4).size;have s45:=hx5.size;have s56:=hx6.size;have n1:bS≠bK:=by omega
 have n2:bS≠bV:=by omega
 have n3:bK≠bV:=by omega
 have n4:bS≠bR:=by omega
 have n5:bV≠bR:=by omega
 have hx36:Ext w3 w6:=((hxd.trans hx4).trans hx5).trans hx6;have hx06:Ext w w6:=hx03.trans hx36;have hT6:=hT3.ext hx36;have hK6:=hK3.ext hx36;have hV6:=hV.ext hx6;have hN:TrV (λk=>k=bS∨k=bV∨k=bR) w6 t (.pointer q):=(h.old (N':=λk=>k=bS∨k=bV∨k=bR) λk hk=>.inr (by rcases hk with rfl|rfl|rfl<;>omega)).ext hx06;have hkn:NatX (λk=>k=bS∨k=bV∨k=bR) w kv k:=NatX.old (N:=λ_=>False) ⟨hkv,λ_ _ _ _ _ h=>h⟩ λk hk=>.inr (by rcases hk with rfl|rfl|rfl<;>omega);have hht:=Tr.ht_le t;refine ρ ?_;refine lds (cs:=[.bool d,.pointer q]) (λj u hu=>hT6.at hu) ?_;refine ρ ?_;refine cl (Qvk (N:=λk=>k=bS∨k=bV∨k=bR) (J:=FndJ bS bK bV bR kv k t) (D:=FndD bS bK bV bR kv k t) hN ⟨_,0,V0,⟨hS,hK6,hV6,hR.ext hx36⟩,NatX.nil _,hkn.ext hx06,by omega,by omega,by omega,by simp⟩ (by omega) ?_ ?_ (Qmj ⟨n1,n2,n3,n4,n5⟩ hb)) ?_
 ·rintro s w w' ⟨sv,m,v,a1,a2,a3,a4⟩ hx;exact ⟨sv,m,v,a1.ext hx,a2.ext hx,a3.ext hx,a4⟩
 ·rintro w ⟨sv,m,v,a1,a2,a3,a4,a5,_⟩;simp only [Tr.sum]at a5;omega
 rintro z w7 ⟨⟨n,rfl,hn⟩,⟨sv,hB7,hn7⟩,hg7⟩;have hx07:Ext w w7:=hg7.old hx06 λk hk=>by rcases hk with rfl|rfl|rfl<;>omega
 refine ρ ?_;refine drN (λk=>k=bR) 10 [(0,0),(0,1),(0,2),(1,3),(0,4),(0,5),(0,6)] (by kernel_rfl) ?_;have hxe:Ext w7 w7.drew:=(Ext.refl w7).drew;have hBe:=hB7.ext hxe;refine ρn ?_;refine Jfd (cs:=(Tr.findT k t).1.cells) (λw' hg j u hu=>(Jqb hBe.vb hg n5).at hu) ?_;refine ρn ?_;refine nld (Jjg (hBe.sb.at (i:=0) rfl) n4) ?_;refine ρn ?_;refine nop ?_;refine stb (cs':=(Tr.findT k t).1.cells) (hB7.rb.ext hxe) ?_ (V.one _);intro w8 hR8 hg8 hx8;refine ρ ?_;refine Jqm (GrN.by hg8 λj hj=>by injection hj with hj;exact hj.symm) ?_;refine ρn ?_;refine ρ ?_;have hg8':GrN (λk=>k=bS∨k=bV∨k=bR) w7.drew w8:=GrN.by hg8 λj hj=>.inr (.inr (by injection hj with hj;exact hj.symm))
 exact Xzz hR8 ⟨sv,n,rfl,hn,((hn7.ext hxe).gr hg8').1,hx8 w (hx07.trans hxe) (Nat.le_trans (hx1.trans hx2).size hbR)⟩
end Go.Proofs.YtefpailelagbkaaGreatDoor
