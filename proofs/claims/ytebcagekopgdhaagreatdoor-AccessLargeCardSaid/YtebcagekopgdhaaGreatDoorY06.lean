/- Part 6. -/
import Derived.Test.YtebcagekopgdhaaGreatDoorY05
set_option linter.unusedVariables false
set_option maxRecDepth 100000
set_option maxHeartbeats 40000000
namespace Go.Wk
theorem _root_.Go.Wk.Blk.pre{w:World}{b t:Nat}{cs ds:List Value}(h:Blk w b t (cs++ds))(j:Nat)(u:Value)(hu:cs[j]?=some u): w.cell? ((⟨b,0,none⟩:Addr).add j)=some u :=
 h.at (by rw [List.getElem?_append_left (List.getElem?_eq_some_iff.1 hu).1];exact hu)
end Go.Wk
namespace Go.Proofs.YtebcagekopgdhaaGreatDoor
open Go.RowKit Pl Go.Wk
attribute [local irreducible] WC WL QX WD WDB WP WN WG
theorem Qzn{N:Nat->Prop}{w:World}{l r:Tr}{pl pr wt:Value}{v:V}{x:Nat}(hl:TrV N w l pl)(hr:TrV N w r pr)(hw:NatX N w wt x)(hN:∀ k,N k->k<w.heap.size)(hb:Nb (Tr.node l v x r).sum)(hs:(Tr.node l v x r).sz<=1000000):
  Ret Tryz.prog 191 [pl,.agg (v.cells++[wt]).toArray,pr] w λu w'=>TrV N w' (Tr.bal l v x r) u/\Ext w w':=by
 obtain ⟨ql,rfl⟩:=hl.ptr;obtain ⟨qr,rfl⟩:=hr.ptr;have be:=Tr.ht_le l;have bd:=Tr.ht_le r;have ai:l.sz+1+r.sz<=1000000:=hs;have Z:Nb (l.sum+x+r.sum):=hb;refine Jz Tryz.func191 Tryz.ntmps191 rfl kr rfl ?_;refine ρ ?_;refine bx (cs:=v.cells++[wt]) ?_;intro w1 b J bf hB;have ad:=hl.ext J;have aa:=hr.ext J;have a9:=hw.ext J;refine ρ ?_;refine cl (Ka ad) ?_;rintro u2 w2 ⟨rfl,rfl⟩;refine ρ ?_;refine cl (Ka aa) ?_;rintro u2 w2 ⟨rfl,rfl⟩;have a7:Ext w2 w2.drew:=(Ext.refl w2).drew;refine ρ ?_;by_cases hc:r.ht+1<l.ht
 .cases l with
  | nil=>simp [Tr.ht]at hc
  | node ll lv lx lr=>
   obtain ⟨bl,wl,ba,b9,sl,e1,⟨ah,b5⟩,au,bc,an,am⟩:=id ad;obtain rfl:ql=some ⟨bl,0,none⟩:=by injection e1
   obtain ⟨b6,rfl⟩:=an.ptr;obtain ⟨aq,rfl⟩:=am.ptr;simp only [Tr.sum,Tr.sz]at Z ai;have af:decide ((r.ht:Int)+1<((Tr.node ll lv lx lr).ht:Int))=true:=decide_eq_true om;refine dr [(0,0),(0,1),(0,2),(0,3),(0,4),(0,5),(0,6),(0,7),(0,8),(0,10),(0,11),(0,12),(0,13),(1,9),(1,14),(0,15),(0,16),(0,17)] kr ?_;refine ρd ?_;refine dkt 20 af ?_;refine ρd ?_;refine dld ((ah.ext a7).at (i:=4) rfl) ?_;refine ρd ?_;refine dld ((ah.ext a7).at (i:=5) rfl) ?_;refine ρd ?_;refine dcl (Ka (an.ext a7)) ?_;rintro u3 w3 ⟨rfl,rfl⟩;refine ⟨Ext.refl _,?_⟩;refine ρd ?_;refine dcl (Ka (am.ext a7)) ?_;rintro u3 w3 ⟨rfl,rfl⟩;refine ⟨Ext.refl _,?_⟩;refine ρd ?_;refine ρ ?_;refine ci (λO=>?_) (λO=>?_)
   .have O:lr.ht<=ll.ht:=by have:=oT O;omega
    have o:Ext w2 w2.drew.drew:=a7.drew;have a6:=ah.ext o;refine ρ ?_;refine dr [(0,0),(0,1),(0,2),(0,3),(0,4),(0,5),(0,6),(0,7),(0,8),(0,9),(0,10),(0,11),(0,12),(0,13),(1,14),(1,15),(0,16)] kr ?_;refine ρd ?_;refine dld (a6.at (i:=4) rfl) ?_;refine ρd ?_;refine Qz (cs:=lv.cells++[wl]) (Blk.pre (cs:=lv.cells++[wl]) a6) ?_;refine ρd ?_;refine dld (a6.at (i:=5) rfl) ?_;refine ρd ?_;refine Qz (cs:=v.cells++[wt]) (λj u hu=>(hB.ext o).at hu) ?_;refine ρd ?_;refine dcl (Yg (am.ext o) (aa.ext o) (a9.ext o) (λk U=>nM (hN k U) (J.trans o).size) (Z.le (by simp only [Tr.sum];omega)) (by simp only [Tr.sz];omega)) ?_;rintro uj w4 ⟨hj,a2⟩;refine ⟨a2,?_⟩;have C:=o.trans a2;refine ρd ?_;refine dcl (Yg (an.ext C) hj (au.ext C) (λk U=>nM (hN k U) (J.trans C).size) (Z.le (by simp only [Tr.sum];omega)) (by simp only [Tr.sz];omega)) ?_;rintro uk w5 ⟨U,a1⟩
    refine ⟨a1,?_⟩;refine ρd ?_;refine ρ ?_;refine Jj ⟨?_,(J.trans C).trans a1⟩;have e:Tr.bal (.node ll lv lx lr) v x r=.node ll lv lx (.node lr v x r):=by simp only [Tr.bal,if_pos hc,if_pos O]
    rw [e];exact U
   have O:ll.ht<lr.ht:=by have:=oF O;omega
   refine ρ ?_;refine ct af ?_;cases lr with
   | nil=>simp [Tr.ht]at O
   | node ml mv mx mr=>
    obtain ⟨bm,wm,b2,b1,sm,e2,⟨ap,av⟩,ao,b3,ac,ab⟩:=id am;obtain rfl:aq=some ⟨bm,0,none⟩:=by injection e2
    obtain ⟨ay,rfl⟩:=ac.ptr;obtain ⟨ax,rfl⟩:=ab.ptr;simp only [Tr.sum,Tr.sz]at Z ai;refine ρ ?_;refine ld ((ah.ext a7).at (i:=5) rfl) ?_;refine ρ ?_;have o:Ext w2 w2.drew.drew:=a7.drew;have a6:=ah.ext o;have a4:=ap.ext o;refine dr [(0,0),(0,1),(0,2),(0,3),(0,4),(0,5),(0,6),(0,7),(0,8),(0,9),(0,10),(0,11),(0,13),(0,14),(0,15),(0,16),(0,17),(0,18),(0,19),(0,20),(0,21),(0,22),(1,12),(1,23),(1,24),(0,25)] kr ?_;refine ρd ?_;refine dld (a6.at (i:=4) rfl) ?_;refine ρd ?_;refine Qz (cs:=lv.cells++[wl]) (Blk.pre (cs:=lv.cells++[wl]) a6) ?_;refine ρd ?_;refine dld (a4.at (i:=4) rfl) ?_;refine ρd ?_;refine Qz (cs:=mv.cells++[wm]) (Blk.pre (cs:=mv.cells++[wm]) a4) ?_;refine ρd ?_;refine dld (a4.at (i:=5) rfl) ?_;refine ρd ?_;refine Qz (cs:=v.cells++[wt]) (λj u hu=>(hB.ext o).at hu) ?_;refine ρd ?_;refine dcl (Yg (an.ext o) (ac.ext o) (au.ext o) (λk U=>nM (hN k U) (J.trans o).size) (Z.le (by simp only [Tr.sum];omega)) (by simp only [Tr.sz];omega)) ?_
    rintro uj w4 ⟨hj,a2⟩;refine ⟨a2,?_⟩;have C:=o.trans a2;refine ρd ?_;refine dcl (Yg (ab.ext C) (aa.ext C) (a9.ext C) (λk U=>nM (hN k U) (J.trans C).size) (Z.le (by simp only [Tr.sum];omega)) (by simp only [Tr.sz];omega)) ?_;rintro uk w5 ⟨U,a1⟩;refine ⟨a1,?_⟩;have a3:=C.trans a1;refine ρd ?_;refine dcl (Yg (hj.ext a1) U (ao.ext a3) (λk U=>nM (hN k U) (J.trans a3).size) (Z.le (by simp only [Tr.sum];omega)) (by simp only [Tr.sz];omega)) ?_;rintro uo w6 ⟨ho,a8⟩;refine ⟨a8,?_⟩;refine ρd ?_;refine ρ ?_;refine Jj ⟨?_,(J.trans a3).trans a8⟩;have e:Tr.bal (.node ll lv lx (.node ml mv mx mr)) v x r=.node (.node ll lv lx ml) mv mx (.node mr v x r):=by simp only [Tr.bal,if_pos hc,if_neg (Nat.not_le.2 O)]
    rw [e];exact ho
 .refine dr [(0,0),(0,1),(0,2),(0,3),(0,4),(0,5),(0,6),(0,7),(0,8),(0,10),(0,11),(0,12),(0,13),(1,9),(1,14),(0,15),(0,16),(0,17)] kr ?_;refine ρd ?_;have af:decide ((r.ht:Int)+1<(l.ht:Int))=false:=dF om;refine dkf 20 af ?_;refine ρd ?_;refine ρ ?_;refine cf af ?_;refine ρ ?_;by_cases hd:l.ht+1<r.ht
  .cases r with
   | nil=>simp [Tr.ht]at hd
   | node rl rv rx rr=>
    obtain ⟨br,wr,b8,b7,sr,e1,⟨ag,b4⟩,ar,bb,ak,aj⟩:=id aa;obtain rfl:qr=some ⟨br,0,none⟩:=by injection e1
    obtain ⟨aw,rfl⟩:=ak.ptr;obtain ⟨aq,rfl⟩:=aj.ptr;simp only [Tr.sum,Tr.sz]at Z ai;have o:Ext w2 w2.drew.drew:=a7.drew;have ae:decide ((l.ht:Int)+1<((Tr.node rl rv rx rr).ht:Int))=true:=decide_eq_true om;refine dr [(0,0),(0,1),(0,2),(0,3),(0,4),(0,5),(0,6),(0,7),(0,8),(0,10),(0,11),(0,12),(0,13),(1,9),(1,14),(0,15),(0,16),(0,17)] kr ?_;refine ρd ?_;refine dkt 88 ae ?_;refine ρd ?_;refine dld ((ag.ext o).at (i:=5) rfl) ?_;refine ρd ?_;refine dld ((ag.ext o).at (i:=4) rfl) ?_;refine ρd ?_;refine dcl (Ka (aj.ext o)) ?_;rintro u3 w3 ⟨rfl,rfl⟩;refine ⟨Ext.refl _,?_⟩;refine ρd ?_;refine dcl (Ka (ak.ext o)) ?_;rintro u3 w3 ⟨rfl,rfl⟩;refine ⟨Ext.refl _,?_⟩;refine ρd ?_;refine ρ ?_;refine ci (λO=>?_) (λO=>?_)
    .have O:rl.ht<=rr.ht:=by have:=oT O;omega
     have G:Ext w2 w2.drew.drew.drew:=o.drew;have a5:=ag.ext G;refine ρ ?_;refine dr [(0,0),(0,1),(0,2),(0,3),(0,4),(0,5),(0,7),(0,8),(0,9),(0,10),(0,11),(0,12),(0,13),(0,14),(1,6),(1,15),(0,16)] kr ?_;refine ρd ?_;refine Qz (cs:=v.cells++[wt]) (λj u hu=>(hB.ext G).at hu) ?_;refine ρd ?_;refine dld (a5.at (i:=4) rfl) ?_;refine ρd ?_;refine Qz (cs:=rv.cells++[wr]) (Blk.pre (cs:=rv.cells++[wr]) a5) ?_;refine ρd ?_;refine dld (a5.at (i:=5) rfl) ?_;refine ρd ?_;refine dcl (Yg (ad.ext G) (ak.ext G) (a9.ext G) (λk U=>nM (hN k U) (J.trans G).size) (Z.le (by simp only [Tr.sum];omega)) (by simp only [Tr.sz];omega)) ?_;rintro uj w4 ⟨hj,a2⟩;refine ⟨a2,?_⟩;have C:=G.trans a2;refine ρd ?_;refine dcl (Yg hj (aj.ext C) (ar.ext C) (λk U=>nM (hN k U) (J.trans C).size) (Z.le (by simp only [Tr.sum];omega)) (by simp only [Tr.sz];omega)) ?_;rintro uk w5 ⟨U,a1⟩
     refine ⟨a1,?_⟩;refine ρd ?_;refine ρ ?_;refine Jj ⟨?_,(J.trans C).trans a1⟩;have e:Tr.bal l v x (.node rl rv rx rr)=.node (.node l v x rl) rv rx rr:=by simp only [Tr.bal,if_neg hc,if_pos hd,if_pos O]
     rw [e];exact U
    have O:rr.ht<rl.ht:=by have:=oF O;omega
    refine ρ ?_;refine ct ae ?_;cases rl with
    | nil=>simp [Tr.ht]at O
    | node ml mv mx mr=>
     obtain ⟨bm,wm,b2,b1,sm,e2,⟨ap,av⟩,ao,b3,ac,ab⟩:=id ak;obtain rfl:aw=some ⟨bm,0,none⟩:=by injection e2
     obtain ⟨ay,rfl⟩:=ac.ptr;obtain ⟨ax,rfl⟩:=ab.ptr;simp only [Tr.sum,Tr.sz]at Z ai;refine ρ ?_;refine ld ((ag.ext o).at (i:=4) rfl) ?_;refine ρ ?_;have G:Ext w2 w2.drew.drew.drew:=o.drew;have a5:=ag.ext G;have a4:=ap.ext G;refine dr [(0,0),(0,1),(0,2),(0,3),(0,4),(0,5),(0,7),(0,8),(0,9),(0,10),(0,11),(0,12),(0,13),(0,14),(0,15),(0,16),(0,17),(0,18),(0,19),(0,20),(0,21),(0,22),(1,6),(1,23),(1,24),(0,25)] kr ?_;refine ρd ?_;refine Qz (cs:=v.cells++[wt]) (λj u hu=>(hB.ext G).at hu) ?_;refine ρd ?_;refine dld (a4.at (i:=4) rfl) ?_;refine ρd ?_;refine Qz (cs:=mv.cells++[wm]) (Blk.pre (cs:=mv.cells++[wm]) a4) ?_;refine ρd ?_;refine dld (a4.at (i:=5) rfl) ?_;refine ρd ?_;refine Qz (cs:=rv.cells++[wr]) (Blk.pre (cs:=rv.cells++[wr]) a5) ?_;refine ρd ?_;refine dld (a5.at (i:=5) rfl) ?_;refine ρd ?_;refine dcl (Yg (ad.ext G) (ac.ext G) (a9.ext G) (λk U=>nM (hN k U) (J.trans G).size) (Z.le (by simp only [Tr.sum];omega)) (by simp only [Tr.sz];omega)) ?_
     rintro uj w4 ⟨hj,a2⟩;refine ⟨a2,?_⟩;have C:=G.trans a2;refine ρd ?_;refine dcl (Yg (ab.ext C) (aj.ext C) (ar.ext C) (λk U=>nM (hN k U) (J.trans C).size) (Z.le (by simp only [Tr.sum];omega)) (by simp only [Tr.sz];omega)) ?_;rintro uk w5 ⟨U,a1⟩;refine ⟨a1,?_⟩;have a3:=C.trans a1;refine ρd ?_;refine dcl (Yg (hj.ext a1) U (ao.ext a3) (λk U=>nM (hN k U) (J.trans a3).size) (Z.le (by simp only [Tr.sum];omega)) (by simp only [Tr.sz];omega)) ?_;rintro uo w6 ⟨ho,a8⟩;refine ⟨a8,?_⟩;refine ρd ?_;refine ρ ?_;refine Jj ⟨?_,(J.trans a3).trans a8⟩;have e:Tr.bal l v x (.node (.node ml mv mx mr) rv rx rr)=.node (.node l v x ml) mv mx (.node mr rv rx rr):=by simp only [Tr.bal,if_neg hc,if_pos hd,if_neg (Nat.not_le.2 O)]
     rw [e];exact ho
  .refine dr [(0,0),(0,1),(0,2),(0,3),(0,4),(0,5),(0,6),(0,7),(0,8),(0,10),(0,11),(0,12),(0,13),(1,9),(1,14),(0,15),(0,16),(0,17)] kr ?_;refine ρd ?_;have ae:decide ((l.ht:Int)+1<(r.ht:Int))=false:=dF om;refine dkf 88 ae ?_;refine ρd ?_;refine ρ ?_;refine cf ae ?_;have o:Ext w2 w2.drew.drew:=a7.drew;refine ρ ?_;refine lds (cs:=v.cells++[wt]) (λj u hu=>(hB.ext o).at hu) ?_;refine ρ ?_;refine cl (Yg (ad.ext o) (aa.ext o) (a9.ext o) (λk U=>nM (hN k U) (J.trans o).size) hb hs) ?_;rintro uj w4 ⟨hj,a2⟩;refine ρ ?_;refine Jj ⟨?_,(J.trans o).trans a2⟩;have e:Tr.bal l v x r=.node l v x r:=by simp only [Tr.bal,if_neg hc,if_neg hd]
   rw [e];exact hj
open Go.RowKit Pl Go.Wk
variable {d:Bool}{x:Nat}{N:Nat->Prop}{p p0:Option Addr}{a b v:V}{wt:Value}{w:World}
theorem neg_lt: neg d (cmpV a b)=if d=true then cmpV b a else cmpV a b:=by
 unfold neg;split
 .exact (cmp_V.anti a b).symm
 .rfl
theorem Qqs: Ret Tryz.prog 153 [.agg #[.bool d,.pointer p],a.val,b.val] w λu w'=>u=.int .i64 (neg d (cmpV a b))/\Ext w w':=by
 rw [neg_lt];refine Jz Tryz.func153 Tryz.ntmps153 rfl kr rfl ?_;refine ρ ?_;refine bx ?_;intro w1 b1 U a6 a3;refine ρ ?_;refine bx (cs:=a.cells) ?_;intro w2 b2 J a5 a2;refine ρ ?_;refine bx (cs:=b.cells) ?_;intro w3 b3 o a4 Z;have a1:=(a3.ext J).ext o;have C:=a2.ext o;refine ρ ?_;refine ld (a1.at (i:=0) rfl) ?_;refine ρ ?_;refine ci (λh=>?_) (λh=>?_)
 .refine ρ ?_;refine lds (cs:=b.cells) (λj u O=>Z.at O) ?_;refine ρ ?_;refine lds (cs:=a.cells) (λj u O=>C.at O) ?_;refine ρ ?_;refine cl (Jqd b a _) ?_;rintro u w4 ⟨rfl,G⟩;refine ρ ?_;refine Jj ⟨?_,((U.trans J).trans o).trans G⟩;rw [if_pos h]
 .refine ρ ?_;refine lds (cs:=a.cells) (λj u O=>C.at O) ?_;refine ρ ?_;refine lds (cs:=b.cells) (λj u O=>Z.at O) ?_;refine ρ ?_;refine cl (Jqd a b _) ?_;rintro u w4 ⟨rfl,G⟩;refine ρ ?_;refine Jj ⟨?_,((U.trans J).trans o).trans G⟩;rw [if_neg (by rw [h];simp)]
theorem Qzq(l:Tr)(v:V)(x:Nat)(r:Tr): (Tr.bal l v x r).sum=l.sum+x+r.sum:=by
 have:=congrArg tot (Tr.toL_bal l v x r);rw [<-Tr.sum_eq,Jzj,tot,<-Tr.sum_eq,<-Tr.sum_eq]at this;rw [this];simp only;omega
theorem Jzr(d:Bool)(v:V)(x:Nat): ∀ t:Tr,(Tr.put d v x t).sum<=t.sum+x
 | .nil=>by simp [Tr.put,Tr.sum]
 | .node l a y r=>by
  have h1:=Jzr d v x l;have h2:=Jzr d v x r;unfold Tr.put;split
  .rw [Qzq,Tr.sum];omega
  .split
   .rw [Qzq,Tr.sum];omega
   .rw [Tr.sum,Tr.sum];omega
theorem Qdq: ∀ (t:Tr) (p:Value) (w:World),TrV N w t p->NatX N w wt x->(∀ k,N k->k<w.heap.size)->Nb (t.sum+x)->t.sz+1<=1000000 ->
  Ret Tryz.prog 168 [.agg #[.bool d,.pointer p0],p,.agg (v.cells++[wt]).toArray] w λu w'=>TrV N w' (Tr.put d v x t) u/\Ext w w':=by
 intro t;induction t with
 | nil=>
  intro p w hp hw hN hb hs;obtain rfl:p=.pointer none:=hp;refine Jz Tryz.func168 Tryz.ntmps168 rfl kr rfl ?_;refine ρ ?_;refine bx ?_;intro w1 b1 a9 ai ae;refine ρ ?_;refine bx (cs:=v.cells++[wt]) ?_;intro w2 b2 a7 ah ab;have hx:=a9.trans a7;refine ρ ?_;refine pnl ?_;refine ρ ?_;refine lds (cs:=v.cells++[wt]) (λj u U=>ab.at U) ?_;refine ρ ?_;refine cl (Yg (l:=.nil) (r:=.nil) (show TrV N w2 .nil (.pointer none) from rfl) (show TrV N w2 .nil (.pointer none) from rfl) (hw.ext hx) (λk hk=>nM (hN k hk) hx.size) (hb.le (by simp [Tr.sum])) (by simp [Tr.sz])) ?_;rintro u w3 ⟨U,O⟩;refine ρ ?_;exact Jj ⟨U,hx.trans O⟩
 | node l a y r ihl ihr=>
  intro p w hp hw hN hb hs;obtain ⟨bn,wn,pl,pr,sn,rfl,⟨a8,aj⟩,ac,ak,hl,hr⟩:=id hp;obtain ⟨ql,rfl⟩:=hl.ptr;obtain ⟨qr,rfl⟩:=hr.ptr;simp only [Tr.sum]at hb;simp only [Tr.sz]at hs;refine Jz Tryz.func168 Tryz.ntmps168 rfl kr rfl ?_;refine ρ ?_;refine bx ?_;intro w1 b1 a9 ai ae;refine ρ ?_;refine bx (cs:=v.cells++[wt]) ?_;intro w2 b2 a7 ah ab;have hx:=a9.trans a7;refine ρ ?_;refine pnl ?_;refine ρ ?_;have a6:Ext w2 w2.drew:=(Ext.refl w2).drew;have ad:=a8.ext (hx.trans a6);have a5:=(ae.ext a7).ext a6;have a1:=ab.ext a6;refine dr [(0,0),(0,1),(0,2),(0,3),(0,4),(0,5),(0,6),(0,7),(1,8),(0,9)] kr ?_;refine ρd ?_;refine Qz (cs:=[.bool d,.pointer p0]) (λj u U=>a5.at U) ?_;refine ρd ?_;refine Qz (cs:=v.cells) (Blk.pre (cs:=v.cells) a1) ?_;refine ρd ?_;refine Qz (cs:=a.cells) (Blk.pre (cs:=a.cells) ad) ?_;refine ρd ?_;refine dcl (Qqs (a:=v) (b:=a)) ?_;rintro u w3 ⟨rfl,O⟩
  refine ⟨O,?_⟩;refine ρd ?_;refine ρ ?_;have a3:=(hx.trans a6).trans O;refine ci (λhc=>?_) (λhc=>?_)
  .have hc:=oT hc;have C:Ext w3 w3.drew:=(Ext.refl w3).drew;have o:=a3.trans C;have G:=a8.ext o;refine ρ ?_;refine dr [(0,0),(0,1),(0,2),(0,3),(0,4),(0,5),(0,7),(0,8),(0,9),(0,10),(0,11),(0,12),(0,13),(0,14),(1,6),(1,15),(0,16)] kr ?_;refine ρd ?_;refine Qz (cs:=[.bool d,.pointer p0]) (λj u U=>((a5.ext O).ext C).at U) ?_;refine ρd ?_;refine dld (G.at (i:=4) rfl) ?_;refine ρd ?_;refine Qz (cs:=v.cells++[wt]) (λj u U=>((a1.ext O).ext C).at U) ?_;refine ρd ?_;refine Qz (cs:=a.cells++[wn]) (Blk.pre (cs:=a.cells++[wn]) G) ?_;refine ρd ?_;refine dld (G.at (i:=5) rfl) ?_;refine ρd ?_;refine dcl (ihl _ _ (hl.ext o) (hw.ext o) (λk hk=>nM (hN k hk) o.size) (hb.le om) om) ?_;rintro u w4 ⟨a4,J⟩;refine ⟨J,?_⟩;have ag:=Tr.put_sz d v x l;have af:=Jzr d v x l;refine ρd ?_;refine dcl (Qzn a4 (hr.ext (o.trans J)) (ac.ext (o.trans J)) (λk hk=>nM (hN k hk) (o.trans J).size) (hb.le (by simp only [Tr.sum];omega)) (by simp only [Tr.sz];omega)) ?_
   rintro u w5 ⟨aa,a2⟩;refine ⟨a2,?_⟩;refine ρd ?_;refine ρ ?_;refine Jj ⟨?_,(o.trans J).trans a2⟩;rw [Tr.put,if_pos hc];exact aa
  have hc:=oF hc;refine ρ ?_;refine ci (λZ=>?_) (λZ=>?_)
  .have Z:=oT Z;have C:Ext w3 w3.drew:=(Ext.refl w3).drew;have o:=a3.trans C;have G:=a8.ext o;refine ρ ?_;refine dr [(0,0),(0,1),(0,2),(0,3),(0,4),(0,5),(0,6),(0,7),(0,8),(0,9),(0,10),(0,11),(0,12),(0,13),(1,14),(1,15),(0,16)] kr ?_;refine ρd ?_;refine dld (G.at (i:=4) rfl) ?_;refine ρd ?_;refine Qz (cs:=a.cells++[wn]) (Blk.pre (cs:=a.cells++[wn]) G) ?_;refine ρd ?_;refine Qz (cs:=[.bool d,.pointer p0]) (λj u U=>((a5.ext O).ext C).at U) ?_;refine ρd ?_;refine dld (G.at (i:=5) rfl) ?_;refine ρd ?_;refine Qz (cs:=v.cells++[wt]) (λj u U=>((a1.ext O).ext C).at U) ?_;refine ρd ?_;refine dcl (ihr _ _ (hr.ext o) (hw.ext o) (λk hk=>nM (hN k hk) o.size) (hb.le om) om) ?_;rintro u w4 ⟨a4,J⟩;refine ⟨J,?_⟩;have ag:=Tr.put_sz d v x r;have af:=Jzr d v x r;refine ρd ?_;refine dcl (Qzn (hl.ext (o.trans J)) a4 (ac.ext (o.trans J)) (λk hk=>nM (hN k hk) (o.trans J).size) (hb.le (by simp only [Tr.sum];omega)) (by simp only [Tr.sz];omega)) ?_
   rintro u w5 ⟨aa,a2⟩;refine ⟨a2,?_⟩;refine ρd ?_;refine ρ ?_;refine Jj ⟨?_,(o.trans J).trans a2⟩;rw [Tr.put,if_neg hc,if_pos Z];exact aa
  have Z:=oF Z;have C:Ext w3 w3.drew:=(Ext.refl w3).drew;have o:=a3.trans C;have G:=a8.ext o;refine ρ ?_;refine dr [(0,0),(0,1),(0,2),(0,3),(0,4),(0,5),(0,6),(0,7),(0,8),(1,9),(0,10)] kr ?_;refine ρd ?_;refine dld (G.at (i:=4) rfl) ?_;refine ρd ?_;refine Qz (cs:=v.cells++[wt]) (λj u U=>((a1.ext O).ext C).at U) ?_;refine ρd ?_;refine dld (G.at (i:=5) rfl) ?_;refine ρd ?_;refine dcl (Yg (hl.ext o) (hr.ext o) (hw.ext o) (λk hk=>nM (hN k hk) o.size) (hb.le (by simp only [Tr.sum];omega)) (by simp only [Tr.sz];omega)) ?_;rintro u w4 ⟨a4,J⟩;refine ⟨J,?_⟩;refine ρd ?_;refine ρ ?_;refine Jj ⟨?_,o.trans J⟩;rw [Tr.put,if_neg hc,if_neg Z];exact a4
theorem Yb: Qu Tryz.prog 138=some (.agg #[.bool false,.pointer none]):=kr
theorem Qtc(d:Bool)(p:Option Addr)(w:World): (Instr.build 138 #[(0,.bool d),(1,.pointer p)]).run Tryz.prog w=.ok (.agg #[.bool d,.pointer p]) w:=kr
theorem Qsz(d:Bool)(w:World): (Instr.build 138 #[(0,.bool d)]).run Tryz.prog w=.ok (.agg #[.bool d,.pointer none]) w:=kr
theorem Qtr(v:V)(wt:Value)(A:Option Addr)(n c:Nat)(h:wt=.slice A n c)(w:World): (Instr.build 231 #[(0,v.val),(1,wt)]).run Tryz.prog w=.ok (.agg (v.cells++[wt]).toArray) w:=by subst h;kernel_rfl
theorem Qgc: ∀ u∈[Value.bool d,.pointer p],u.oneCell'=true:=λu o=>by
 simp only [List.mem_cons,List.not_mem_nil,or_false]at o;rcases o with rfl|rfl<;>rfl
theorem Qgt: Ret Tryz.prog 136 [.bool d] w λu w'=>u=.agg #[.bool d,.pointer none]/\Ext w w':=by
 refine Jz Tryz.func136 Tryz.ntmps136 rfl kr rfl ?_;refine ρ ?_;refine alc Yb ?_;intro w1 b C O U;refine ρ ?_;refine bld (Qsz d _) ?_;refine ρ ?_;refine stW U ?_;intro Z G J o;refine ρ ?_;exact Jjl G ⟨rfl,o w C O⟩
theorem Jms{p:Value}{t:Tr}(h:TrV N w t p)(hv:Qa v=true)(hw:NatV w wt x)(hN:∀ k,N k->k<w.heap.size)(h0:x≠0)(hn:Nb (t.sum+x))(hs:t.sz+1<=1000000):
  Ret Tryz.prog 137 [.agg #[.bool d,p],v.val,wt] w λu w'=>∃ q,u=.tuple #[.agg #[.bool d,q],.int .i64 0]/\TrV N w' (Tr.put d v x t) q/\Ext w w':=by
 obtain ⟨q,rfl⟩:=h.ptr;refine Jz Tryz.func137 Tryz.ntmps137 rfl kr rfl ?_;refine ρ ?_;refine bx ?_;intro w1 b1 a5 aw ap;refine ρ ?_;refine bx (cs:=v.cells) ?_;intro w2 b2 U av ao;refine ρ ?_;refine alc Yb ?_;intro w3 b3 a4 ab ae;have C:=(a5.trans U).trans a4;have ag:=(ap.ext U).ext a4;have a1:=ao.ext a4;refine ρ ?_;refine lds (cs:=v.cells) (λj u hu=>a1.at hu) ?_;refine ρ ?_;refine cl (Jmf v _) ?_;rintro u w4 ⟨rfl,O⟩;rw [hv];refine ρ ?_;refine cl (Jdr (hw.ext (C.trans O)) (hn.le om).len) ?_;rintro wn w5 ⟨a9,am,a6⟩;have a8:=(C.trans O).trans a6;obtain ⟨A,c,rfl,hc,hm,au⟩:=id a9;have aq:0<(Jq x).length:=by
  rcases Nat.eq_zero_or_pos (Jq x).length with h1|h1
  .have:=List.eq_nil_of_length_eq_zero h1;have e:=Zm x;rw [this]at e;exact absurd e.symm h0
  .exact h1
 refine ρ ?_;refine cf ?_ ?_
 .exact Jzb om
 refine ρ ?_;refine drN (λ_=>False) 10 [(0,0),(0,1),(0,2),(0,3),(0,4),(0,5),(0,6),(0,7),(1,8),(0,9),(2,10),(2,11)] kr ?_;have a2:Ext w5 w5.drew:=(Ext.refl w5).drew;have o:=(O.trans a6).trans a2;have J:=ag.ext o;have af:=a1.ext o;have ad:=ae.ext o;have Z:=a8.trans a2;refine ρn ?_;refine nld (Jm (J.at (i:=0) rfl) (λe=>e)) ?_;refine ρn ?_;refine Xw (cs:=[.bool d,.pointer q]) (λw' hg j u hu=>(Jc J hg (λe=>e)).at hu) ?_;refine ρn ?_;refine nld (Jm (J.at (i:=1) rfl) (λe=>e)) ?_;refine ρn ?_;refine Xw (cs:=v.cells) (λw' hg j u hu=>(Jc af hg (λe=>e)).at hu) ?_;refine ρn ?_;refine Jjc (Qtr v _ A _ c rfl) ?_;refine ρn ?_;refine nop ?_;have aa:b3<w3.heap.size:=ae.lt;have ar:=C.size;have ac:∀ k,(N k∨k=b3)->k<w3.heap.size:=λk G=>G.elim (λh=>nM (hN k h) C.size) (λe=>by rw [e];exact aa);have hh:TrV (λk=>N k∨k=b3) w5.drew t (.pointer q):=(h.old (N':=λk=>N k∨k=b3) λk G=>G.imp id λe=>by rw [e];exact nL (a5.trans U).size ab).ext Z
 have ai:NatX (λk=>N k∨k=b3) w5.drew (.slice A (Jq x).length c) x:=am.x (a9.ext a2) λk G=>nM (ac k G) O.size;refine cl (Qdq t _ _ hh ai (λk G=>nM (ac k G) o.size) hn hs) ?_;rintro u w6 ⟨hu,a3⟩;obtain ⟨q2,rfl⟩:=hu.ptr;refine ρ ?_;refine Js (GrN.ext a3) ?_;refine ρn ?_;refine Jjc (Qtc d q2) ?_;refine ρn ?_;refine Xd ?_;refine stW (ad.ext a3) ?_;intro w7 an ak ah;refine ρ ?_;refine Gw ?_;refine Xd ?_;refine ρ ?_;have a7:Ext w w7:=ah w (Z.trans a3) (nL (a5.trans U).size ab);have aj:=(hu.gr (GrN.by ak (λk G=>.inr (by injection G with G;exact G.symm)))).old (N':=N) λk G=>.inl (.inl G);exact Zf an ⟨_,rfl,aj,a7⟩
open Go.RowKit Pl Go.Wk
variable {d:Bool}{t:Tr}
theorem Jmd{N:Nat->Prop}{J:Tr->World->Prop}{D:World->Prop}{fid:FuncId}{cap:Array Value}{p:Value}{w:World}(hp:TrV N w t p)(hj:J t w)(hht:t.ht<=1000000)(hx:∀ s w w',J s w->Ext w w'->J s w')(hnil:∀ w,J .nil w->D w)(hcall:∀ l v x r u w,TrV N w (.node l v x r) u->J (.node l v x r) w->Ret Tryz.prog fid ((#[]:Array Value).toList++[u]++cap.toList) w λz w'=>∃ c,z=.int .i64 c/\GrN N w w'/\(c<0->J l w')/\(0<c->J r w')/\(c=0->D w')):
  Ret Tryz.prog 151 [.agg #[.bool d,p],.func (.func fid) #[] cap] w λz w'=>(∃ k:Nat,z=.int .i64 (k:Int)/\k<=t.ht)/\D w'/\GrN N w w':=by
 obtain ⟨q,rfl⟩:=hp.ptr;refine Jz Tryz.func151 Tryz.ntmps151 rfl kr rfl ?_;refine ρ ?_;refine bx ?_;intro w1 b O hb hB;refine ρ ?_;refine ld (hB.at (i:=1) rfl) ?_;refine ρ ?_;refine Xt (fun (k:Nat) (s:Tr) (q:Option Addr)=>[(1,.func (.func fid) #[] cap),(5,.int .i64 (k:Int)),(6,.pointer q)])
  (λk s q w'=>k+s.ht<=t.ht/\TrV N w' s (.pointer q)/\J s w'/\GrN N w w') (λ_ s _=>s.sz) 0 t q sB
  ⟨om,hp.ext O,hx _ _ _ hj O,GrN.ext O⟩ ?_
 rintro k s q2 w2 ⟨hk,hs,a1,a2⟩;refine ρ ?_;cases s with
 | nil=>
  obtain rfl:q2=none:=by have:Value.pointer q2=.pointer none:=hs;injection this
  refine pnn ?_;refine ρ ?_;refine Jj ⟨⟨k,rfl,om⟩,hnil _ a1,a2⟩
 | node l v x r=>
  obtain ⟨bn,wn,pl,pr,sn,e,⟨a3,Z⟩,a8,a9,hl,hr⟩:=id hs;obtain rfl:q2=some ⟨bn,0,none⟩:=by injection e
  obtain ⟨ql,rfl⟩:=hl.ptr;obtain ⟨qr,rfl⟩:=hr.ptr;have a7:l.ht+1<=(Tr.node l v x r).ht:=by simp only [Tr.ht];omega
  have a6:r.ht+1<=(Tr.node l v x r).ht:=by simp only [Tr.ht];omega
  have a5:l.sz<(Tr.node l v x r).sz:=by simp only [Tr.sz];omega
  have a4:r.sz<(Tr.node l v x r).sz:=by simp only [Tr.sz];omega
  refine pnn ?_;refine ρ ?_;refine clv (hcall l v x r _ w2 hs a1) ?_;rintro z w3 ⟨c,rfl,C,k1,k2,k3⟩;have hg:=a2.trans C;have G:=Jc a3 C Z;refine ρ ?_;refine ci (λU=>?_) (λU=>?_)
  .have U:=oT U;refine ρ ?_;refine ld (G.at (i:=4) rfl) ?_;refine ρ ?_;exact Xj (k+1) l ql sO ⟨om,hl.gr C,k1 U,hg⟩ om
  have U:=oF U;refine ρ ?_;refine ci (λo=>?_) (λo=>?_)
  .have o:=oT o;refine ρ ?_;refine ld (G.at (i:=5) rfl) ?_;refine ρ ?_;exact Xj (k+1) r qr sO ⟨om,hr.gr C,k2 o,hg⟩ om
  have o:=oF o;refine ρ ?_;refine Jj ⟨⟨k+1,rfl,om⟩,k3 om,hg⟩
structure BefB(bT bV bS bF:Nat)(d:Bool)(q:Option Addr)(v:V)(w:World)(sv:Value)(f:Bool): Prop where
 tb:Blk w bT 138 [.bool d,.pointer q]
 vb:Blk w bV 47 v.cells
 sb:Blk w bS 29 [sv]
 fb:Blk w bF 4 [.bool f]
theorem BefB.ext{bT bV bS bF:Nat}{d:Bool}{q:Option Addr}{v:V}{w w':World}{sv:Value}{f:Bool}(h:BefB bT bV bS bF d q v w sv f)(hx:Ext w w'): BefB bT bV bS bF d q v w' sv f :=
 ⟨h.tb.ext hx,h.vb.ext hx,h.sb.ext hx,h.fb.ext hx⟩
def BefJ(bT bV bS bF:Nat)(d:Bool)(q:Option Addr)(v:V)(t:Tr)(s:Tr)(w:World): Prop :=
 ∃ sv m,BefB bT bV bS bF d q v w sv false/\NatX (λk=>k=bS∨k=bF) w sv m/\m+Tr.befT d v s=Tr.befT d v t/\Tr.hasT d v s=Tr.hasT d v t/\m+s.sum<=t.sum
def BefD(bT bV bS bF:Nat)(d:Bool)(q:Option Addr)(v:V)(t:Tr)(w:World): Prop :=
 ∃ sv,BefB bT bV bS bF d q v w sv (Tr.hasT d v t)/\NatX (λk=>k=bS∨k=bF) w sv (Tr.befT d v t)
theorem Xjh{bT bV bS bF:Nat}{q:Option Addr}{v:V}(hne:bT≠bS/\bT≠bF/\bV≠bS/\bV≠bF/\bS≠bF)(hb:Nb t.sum):
  ∀ l a x r u w,TrV (λk=>k=bS∨k=bF) w (.node l a x r) u->BefJ bT bV bS bF d q v t (.node l a x r) w ->
  Ret Tryz.prog 152 ((#[]:Array Value).toList++[u]++(#[.pointer (some ⟨bT,0,none⟩),.pointer (some ⟨bV,0,none⟩),.pointer (some ⟨bS,0,none⟩),.pointer (some ⟨bF,0,none⟩)]:Array Value).toList) w λz w'=>∃ c,z=.int .i64 c/\GrN (λk=>k=bS∨k=bF) w w'/\(c<0->BefJ bT bV bS bF d q v t l w')/\(0<c->BefJ bT bV bS bF d q v t r w')/\(c=0->BefD bT bV bS bF d q v t w'):=by
 obtain ⟨n1,n2,n3,n4,n5⟩:=hne;rintro l a x r u w hs ⟨sv,m,hB,hm,e1,e2,e3⟩;obtain ⟨bn,wn,pl,pr,sn,rfl,⟨ae,ak⟩,ax,bb,hl,hr⟩:=id hs;obtain ⟨ql,rfl⟩:=hl.ptr;obtain ⟨qr,rfl⟩:=hr.ptr;simp only [Tr.sum]at e3;refine Jz Tryz.func152 Tryz.ntmps152 rfl kr rfl ?_;refine ρ ?_;have ad:Ext w w.drew:=(Ext.refl w).drew;have av:=hB.ext ad;have aq:=ae.ext ad;refine dr [(0,0),(0,1),(0,2),(0,3),(0,4),(0,5),(0,6),(1,7),(0,8)] kr ?_;refine ρd ?_;refine Qz (cs:=[.bool d,.pointer q]) (λj u hu=>av.tb.at hu) ?_;refine ρd ?_;refine Qz (cs:=v.cells) (λj u hu=>av.vb.at hu) ?_;refine ρd ?_;refine Qz (cs:=a.cells) (Blk.pre (cs:=a.cells) aq) ?_;refine ρd ?_;refine dcl (Qqs (a:=v) (b:=a)) ?_;rintro u w1 ⟨rfl,ah⟩;refine ⟨ah,?_⟩;refine ρd ?_;have U:=ad.trans ah;have aw:=hB.ext U;have b3:=hm.ext U;refine ρ ?_;refine ci (λhc=>?_) (λhc=>?_)
 .have hc:=oT hc;refine ρ ?_;refine Jj ⟨neg d (cmpV v a),rfl,GrN.ext U,λ_=>⟨sv,m,aw,b3,?_,?_,om⟩,λh=>om,λh=>om⟩
  .rw [<-e1,Tr.befT,if_pos hc]
  .rw [<-e2,Tr.hasT,if_pos hc]
 have hc:=oF hc;have a9:Ext w1 w1.drew:=(Ext.refl w1).drew;have O:=U.trans a9;have au:=ae.ext O;have G:=aw.ext a9;refine ρ ?_;refine drN (λ_=>False) 10 [(0,0),(0,1),(0,2),(0,3),(0,4),(1,5),(1,6),(2,7)] kr ?_;refine ρn ?_;refine nld (Jm (G.sb.at (i:=0) rfl) (λe=>e)) ?_;refine ρn ?_;refine nld (Jm (au.at (i:=4) rfl) (λe=>e)) ?_;refine ρn ?_;refine nop ?_;refine cl (Jqj (hl.ext O)) ?_;rintro ul w2 ⟨ay,rfl⟩;refine ρ ?_;refine Js (GrN.refl _ _) ?_;refine ρn ?_;refine nop ?_;refine cl (Jjd (hm.ext O).1 ay.1 (hb.le om).len (hb.le om).len) ?_;rintro us w3 ⟨aj,b4,a2⟩;refine ρ ?_;refine Js (GrN.ext a2) ?_;refine ρn ?_;refine Xd ?_;obtain ⟨A3,c3,rfl,bd,_⟩:=id aj;refine Ih (G.ext a2).sb ?_ rfl;intro w4 b6 a8 ba;refine ρ ?_;have ag:=G.ext a2;have ai:=O.trans a2;have ap:∀ k,(k=bS∨k=bF)->k<w1.drew.heap.size:=λk J=>J.elim (λe=>by rw [e];exact G.sb.lt) (λe=>by rw [e];exact G.fb.lt)
 have b2:NatX (λk=>k=bS∨k=bF) w3 (.slice A3 (Jq (m+l.sum)).length c3) (m+l.sum):=b4.x aj ap;have a3:GrN (λk=>k=bS∨k=bF) w3 w4:=GrN.by a8 λk J=>.inl (by injection J with J;exact J.symm)
 have am:=b2.gr a3;have a5:BefB bT bV bS bF d q v w4 (.slice A3 (Jq (m+l.sum)).length c3) false:=⟨ag.tb.grown a8 (by simpa using n1),ag.vb.grown a8 (by simpa using n3),b6,ag.fb.grown a8 (by simpa using n5.symm)⟩;have Z:GrN (λk=>k=bS∨k=bF) w w4:=(GrN.ext ai).trans a3;refine ci (λC=>?_) (λC=>?_)
 .have C:neg d (cmpV v a)=0:=Xl C;refine ρ ?_;refine Ih a5.fb ?_ rfl;intro w5 b7 a7 a1;refine ρ ?_;have ac:GrN (λk=>k=bS∨k=bF) w4 w5:=GrN.by a7 λk J=>.inr (by injection J with J;exact J.symm)
  refine Jj ⟨0,rfl,Z.trans ac,λh=>om,λh=>om,λ_=>⟨_,⟨a5.tb.grown a7 (by simpa using n2),a5.vb.grown a7 (by simpa using n4),a5.sb.grown a7 (by simpa using n5),?_⟩,?_⟩⟩
  .rw [<-e2,Tr.hasT,if_neg hc,if_pos C];exact b7
  .rw [<-e1,Tr.befT,if_neg hc,if_pos C];exact am.gr ac
 have C:neg d (cmpV v a)≠0:=Xm C;have o:Ext w4 w4.drew:=(Ext.refl w4).drew;have a4:=a5.ext o;have ar:=(Jc ae Z ak).ext o;refine ρ ?_;refine drN (λ_=>False) 10 [(0,0),(0,1),(0,2),(0,3),(0,4),(0,5),(1,6),(2,7)] kr ?_;refine ρn ?_;refine nld (Jm (a4.sb.at (i:=0) rfl) (λe=>e)) ?_;refine ρn ?_;refine nld (Jm (ar.at (i:=3) rfl) (λe=>e)) ?_;refine ρn ?_;refine nop ?_;refine cl (Jjd (am.ext o).1 ((ax.gr Z).ext o).1 (hb.le om).len (hb.le om).len) ?_;rintro b8 w5 ⟨aa,ao,a1⟩;refine ρ ?_;refine Js (GrN.ext a1) ?_;refine ρn ?_;refine Xd ?_;obtain ⟨A5,c5,rfl,bc,_⟩:=id aa;refine Ih (a4.ext a1).sb ?_ rfl;intro w6 b5 a6 b9;refine ρ ?_;have af:=a4.ext a1;have b1:NatX (λk=>k=bS∨k=bF) w5 (.slice A5 (Jq (m+l.sum+x)).length c5) (m+l.sum+x):=ao.x aa λk J=>nM (ap k J) (nL a2.size (a3.trans (GrN.ext o)).size);have ab:GrN (λk=>k=bS∨k=bF) w5 w6:=GrN.by a6 λk J=>.inl (by injection J with J;exact J.symm)
 have an:GrN (λk=>k=bS∨k=bF) w w6:=((Z.trans (GrN.ext o)).trans (GrN.ext a1)).trans ab;refine Jj ⟨neg d (cmpV v a),rfl,an,λh=>om,λh=>⟨_,m+l.sum+x,⟨af.tb.grown a6 (by simpa using n1),af.vb.grown a6 (by simpa using n3),b5,af.fb.grown a6 (by simpa using n5.symm)⟩,b1.gr ab,?_,?_,om⟩,λh=>om⟩
 .rw [<-e1,Tr.befT,if_neg hc,if_neg C];omega
 .rw [<-e2,Tr.hasT,if_neg hc,if_neg C]
end Go.Proofs.YtebcagekopgdhaaGreatDoor
namespace Go.Wk
theorem Jgf{P:Program}{n:Nat}{al:AL}{w:World}{tt:TT}[h:Tab P tt]{fn:Func}{Φ:Value->World->Prop}{c t t1 t2 t3 b:Nat}{k:TK}{cs:List Value}{x y z:Value}(hb:Blk w b t cs)(hp:Φ (.tuple #[.agg cs.toArray,x,y,z]) w)(hr:fn.results = #[.cell c t,.tmp t1,.tmp t2,.tmp t3]:=by rfl)(ht:tk tt t=some k:=by rfl)(hk:k.desc=.invalid:=by rfl)(hs:k.size=cs.length:=by rfl)(hc:lk al c=some (.pointer (some ⟨b,0,none⟩)):=by rfl)(h1:lk al t1=some x:=by rfl)(h2:lk al t2=some y:=by rfl)(h3:lk al t3=some z:=by rfl):
  QX n (Vu P fn Φ) .ret al w :=
 Jxq (rs:=[.cell c t,.tmp t1,.tmp t2,.tmp t3]) (vs:=[.agg cs.toArray,x,y,z]) hr ⟨⟨_,hc,Ip h.ok ht hk hs (λj u o=>hb.at o)⟩,h1,h2,h3,trivial⟩ rfl hp
end Go.Wk
namespace Go.Proofs.YtebcagekopgdhaaGreatDoor
open Go.RowKit Pl Go.Wk
attribute [local irreducible] WC WL QX WD WDB WP WN WG
variable {d:Bool}{a b k:Nat}{N:Nat->Prop}{t:Tr}{p:Value}{w:World}
theorem zNat: Qu Tryz.prog 29=some (.slice none 0 0):=kr
theorem Jhw: Qu Tryz.prog 4=some (.bool false):=kr
theorem Xjg{v:V}(h:TrV N w t p)(hb:Nb t.sum)(hs:t.sz<=1000000):
  Ret Tryz.prog 98 [.agg #[.bool d,p],v.val] w λu w'=>∃ sv,∃ k:Nat,u=.tuple #[sv,.bool (Tr.hasT d v t),.int .i64 (k:Int)]/\k<=t.ht/\NatV w' sv (Tr.befT d v t)/\Ext w w':=by
 obtain ⟨q,rfl⟩:=h.ptr;refine Jz Tryz.func98 Tryz.ntmps98 rfl kr rfl ?_;refine ρ ?_;refine bx ?_;intro w1 bT a9 au hT;refine ρ ?_;refine bx (cs:=v.cells) ?_;intro w2 bV a7 ar hV;refine ρ ?_;refine alc zNat ?_;intro w3 U C av hS;refine ρ ?_;refine alc Jhw ?_;intro w4 Z a8 af hF;refine ρ ?_;refine Ih hF ?_ rfl;intro w5 ai aq ac;have lT:=hT.lt;have lV:=hV.lt;have lS:=hS.lt;have an:=a7.size;have am:=C.size;have ak:=a8.size;have nT:bT≠U/\bT≠Z/\bV≠U/\bV≠Z/\U≠Z:=⟨om,om,om,om,om⟩;obtain ⟨n1,n2,n3,n4,n5⟩:=nT;have o:Ext w3 w5:=ac w3 a8 af;have G:Ext w w5:=((a9.trans a7).trans C).trans o;have ab:=((hT.ext a7).ext C).ext o;have ag:=(hV.ext C).ext o;have ah:=hS.ext o;have ao:=a9.size;have hN:TrV (λk=>k=U∨k=Z) w5 t (.pointer q):=(h.old (N':=λk=>k=U∨k=Z) λk hk=>.inr (by rcases hk with rfl|rfl<;>omega)).ext G;have ap:=Tr.ht_le t;refine ρ ?_;refine ldW ab ?_
 refine ρ ?_;refine cl (Jmd (N:=λk=>k=U∨k=Z) (J:=BefJ bT bV U Z d q v t) (D:=BefD bT bV U Z d q v t) hN ⟨_,0,⟨ab,ag,ah,ai⟩,NatX.nil _,om,rfl,om⟩ om ?_ ?_ (Xjh ⟨n1,n2,n3,n4,n5⟩ hb)) ?_
 .rintro s w w' ⟨sv,m,a1,a2,a3,a4,a5⟩ hx;exact ⟨sv,m,a1.ext hx,a2.ext hx,a3,a4,a5⟩
 .rintro w ⟨sv,m,a1,a2,a3,a4,a5⟩;simp only [Tr.befT,Tr.hasT,Nat.add_zero]at a3 a4;refine ⟨sv,?_,?_⟩
  .rw [<-a4];exact a1
  .rw [<-a3];exact a2
 rintro z w6 ⟨⟨k,rfl,hk⟩,⟨sv,aj,ad⟩,ae⟩;have aa:Ext w w6:=ae.old G λk hk=>by rcases hk with rfl|rfl<;>omega
 have a6:Ext w6 w6.drew:=(Ext.refl w6).drew;have O:=aj.ext a6;refine ρ ?_;refine dr [(0,0),(0,1),(0,2),(0,3),(0,4),(0,5)] kr ?_;refine ρd ?_;refine dld (O.sb.at (i:=0) rfl) ?_;refine ρd ?_;refine dld (O.fb.at (i:=0) rfl) ?_;refine ρd ?_;refine ρ ?_;exact Um ⟨sv,k,rfl,hk,(ad.ext a6).1,aa.trans a6⟩
structure FndB(bS bK bV bR:Nat)(w:World)(sv kv:Value)(v:V): Prop where
 sb:Blk w bS 29 [sv]
 kb:Blk w bK 29 [kv]
 vb:Blk w bV 47 v.cells
 rb:Blk w bR 47 V0.cells
theorem FndB.ext{bS bK bV bR:Nat}{w w':World}{sv kv:Value}{v:V}(h:FndB bS bK bV bR w sv kv v)(hx:Ext w w'): FndB bS bK bV bR w' sv kv v:=⟨h.sb.ext hx,h.kb.ext hx,h.vb.ext hx,h.rb.ext hx⟩
def FndJ(bS bK bV bR:Nat)(kv:Value)(k:Nat)(t:Tr)(s:Tr)(w:World): Prop :=
 ∃ sv m v,FndB bS bK bV bR w sv kv v/\NatX (λj=>j=bS∨j=bV∨j=bR) w sv m/\NatX (λj=>j=bS∨j=bV∨j=bR) w kv k/\m<=k/\k<m+s.sum/\m+s.sum<=t.sum/\Tr.findT k t=((Tr.findT (k-m) s).1,m+(Tr.findT (k-m) s).2)
def FndD(bS bK bV bR:Nat)(kv:Value)(k:Nat)(t:Tr)(w:World): Prop :=
 ∃ sv,FndB bS bK bV bR w sv kv (Tr.findT k t).1/\NatX (λj=>j=bS∨j=bV∨j=bR) w sv (Tr.findT k t).2
theorem cmpN_lt: Yv a b<0↔a<b:=by
 unfold Yv;split
 .omega
 .split<;>omega
theorem Qnl{bS bK bV bR:Nat}{kv:Value}(hne:bS≠bK/\bS≠bV/\bK≠bV/\bS≠bR/\bV≠bR)(hb:Nb t.sum):
  ∀ l a x r u w,TrV (λj=>j=bS∨j=bV∨j=bR) w (.node l a x r) u->FndJ bS bK bV bR kv k t (.node l a x r) w ->
  Ret Tryz.prog 155 ((#[]:Array Value).toList++[u]++(#[.pointer (some ⟨bS,0,none⟩),.pointer (some ⟨bK,0,none⟩),.pointer (some ⟨bV,0,none⟩)]:Array Value).toList) w λz w'=>∃ c,z=.int .i64 c/\GrN (λj=>j=bS∨j=bV∨j=bR) w w'/\(c<0->FndJ bS bK bV bR kv k t l w')/\(0<c->FndJ bS bK bV bR kv k t r w')/\(c=0->FndD bS bK bV bR kv k t w'):=by
 obtain ⟨n1,n2,n3,n4,n5⟩:=hne;rintro l a x r u w hs ⟨sv,m,v,hB,hm,hk,e1,e2,e3,e4⟩;obtain ⟨bn,wn,pl,pr,sn,rfl,⟨ac,av⟩,am,ax,hl,hr⟩:=id hs;obtain ⟨ql,rfl⟩:=hl.ptr;obtain ⟨qr,rfl⟩:=hr.ptr;simp only [Tr.sum]at e2 e3;refine Jz Tryz.func155 Tryz.ntmps155 rfl kr rfl ?_;refine ρ ?_;have a1:Ext w w.drew:=(Ext.refl w).drew;have a8:=hB.ext a1;have ag:=ac.ext a1;refine dr [(0,0),(0,1),(0,2),(0,3),(0,4),(1,5),(1,6),(0,7)] kr ?_;refine ρd ?_;refine dld (a8.sb.at (i:=0) rfl) ?_;refine ρd ?_;refine dld (ag.at (i:=4) rfl) ?_;refine ρd ?_;refine dcl (Jqj (hl.ext a1)) ?_;rintro ul w1 ⟨an,rfl⟩;refine ⟨Ext.refl _,?_⟩;refine ρd ?_;refine dcl (Jjd (hm.ext a1).1 an.1 (hb.le om).len (hb.le om).len) ?_;rintro us w2 ⟨ad,ao,ab⟩;refine ⟨ab,?_⟩;refine ρd ?_;have a2:=a1.trans ab;have aj:=hB.ext a2;refine ρ ?_;refine ld (aj.kb.at (i:=0) rfl) ?_;refine ρ ?_;refine cl (Kn (hk.ext a2).1 ad) ?_
 rintro u w3 ⟨rfl,a6⟩;have o:=a2.trans a6;have ai:=aj.ext a6;have af:∀ j,(j=bS∨j=bV∨j=bR)->j<w.drew.heap.size:=λj O=>O.elim (λe=>by rw [e];exact a8.sb.lt) (λe=>e.elim (λe=>by rw [e];exact a8.vb.lt) (λe=>by rw [e];exact a8.rb.lt));have a3:NatX (λj=>j=bS∨j=bV∨j=bR) w3 us (m+l.sum):=ao.x (ad.ext a6) af;refine ρ ?_;refine ci (λhc=>?_) (λhc=>?_)
 .have hc:k<m+l.sum:=cmpN_lt.1 (oT hc);refine ρ ?_;refine Jj ⟨-1,rfl,GrN.ext o,λ_=>⟨sv,m,v,ai,hm.ext o,hk.ext o,e1,hc,om,?_⟩,λh=>om,λh=>om⟩;rw [e4,Tr.findT,if_pos om]
 have hc:¬ k<m+l.sum:=λh=>oF hc (cmpN_lt.2 h);refine ρ ?_;refine ld ((ac.ext o).at (i:=3) rfl) ?_;refine ρ ?_;refine cl (Jjd a3.1 (am.ext o).1 (hb.le om).len (hb.le om).len) ?_;rintro ua w4 ⟨ae,ap,a5⟩;have ah:=ai.ext a5;refine ρ ?_;refine ld (ah.kb.at (i:=0) rfl) ?_;refine ρ ?_;refine cl (Kn ((hk.ext o).ext a5).1 ae) ?_;rintro u w5 ⟨rfl,a4⟩;have U:=(o.trans a5).trans a4;have J:=ah.ext a4;have a9:NatX (λj=>j=bS∨j=bV∨j=bR) w5 ua (m+l.sum+x):=ap.x (ae.ext a4) λj O=>nM (af j O) (ab.trans a6).size;obtain ⟨A1,c1,ea,_⟩:=id a9.1;obtain ⟨A2,c2,es,_⟩:=id a3.1;have oa:ua.oneCell'=true:=by rw [ea];rfl
 have os:us.oneCell'=true:=by rw [es];rfl
 refine ρ ?_;refine ci (λZ=>?_) (λZ=>?_)
 .have Z:m+l.sum+x<=k:=by
   have:=oT Z;rcases Nat.lt_or_ge k (m+l.sum+x) with h|h
   .have:=cmpN_lt.2 h;omega
   .exact h
  refine ρ ?_;refine Ih J.sb ?_ oa;intro w6 au G ak;refine ρ ?_;have C:GrN (λj=>j=bS∨j=bV∨j=bR) w5 w6:=GrN.by G λj O=>.inl (by injection O with O;exact O.symm)
  refine Jj ⟨1,rfl,(GrN.ext U).trans C,λh=>om,λ_=>⟨ua,m+l.sum+x,v,⟨au,J.kb.grown G (by simpa using n1.symm),J.vb.grown G (by simpa using n2.symm),J.rb.grown G (by simpa using n4.symm)⟩,a9.gr C,(hk.ext U).gr C,Z,om,om,?_⟩,λh=>om⟩;rw [e4,Tr.findT,if_neg om,if_pos om,show k-m-(l.sum+x)=k-(m+l.sum+x) by omega];simp only [Prod.mk.injEq,true_and];omega
 have Z:k<m+l.sum+x:=by
  rcases Nat.lt_or_ge k (m+l.sum+x) with h|h
  .exact h
  .exact absurd (Int.not_lt.1 λh'=>by have:=cmpN_lt.1 h';omega) (oF Z)
 have e5:Tr.findT k t=(a,m+l.sum):=by rw [e4,Tr.findT,if_neg om,if_neg om]
 refine ρ ?_;refine lds (cs:=a.cells) (Blk.pre (cs:=a.cells) (ac.ext U)) ?_;refine ρ ?_;refine stb (cs':=a.cells) J.vb ?_ (V.one a);intro w6 aq G ak;refine ρ ?_;refine Ih (J.sb.grown G (by simpa using n2)) ?_ os;intro w7 ar a7 aw;refine ρ ?_;have C:GrN (λj=>j=bS∨j=bV∨j=bR) w5 w6:=GrN.by G λj O=>.inr (.inl (by injection O with O;exact O.symm))
 have aa:GrN (λj=>j=bS∨j=bV∨j=bR) w6 w7:=GrN.by a7 λj O=>.inl (by injection O with O;exact O.symm)
 refine Jj ⟨0,rfl,((GrN.ext U).trans C).trans aa,λh=>om,λh=>om,λ_=>⟨us,⟨ar,(J.kb.grown G (by simpa using n3)).grown a7 (by simpa using n1.symm),?_,(J.rb.grown G (by simpa using n5.symm)).grown a7 (by simpa using n4.symm)⟩,?_⟩⟩
 .rw [e5];exact aq.grown a7 (by simpa using n2.symm)
 .rw [e5];exact (((a3.ext a5).ext a4).gr C).gr aa
theorem Qnk{kv:Value}(h:TrV N w t p)(hkv:NatV w kv k)(hk:k<t.sum)(hb:Nb t.sum)(hs:t.sz<=1000000):
  Ret Tryz.prog 101 [.agg #[.bool d,p],kv] w λu w'=>∃ sv,∃ n:Nat,u=.tuple #[(Tr.findT k t).1.val,sv,.int .i64 (n:Int),.int .i64 0]/\n<=t.ht/\NatV w' sv (Tr.findT k t).2/\Ext w w':=by
 obtain ⟨q,rfl⟩:=h.ptr;obtain ⟨Ak,ck,ek,_⟩:=id hkv;refine Jz Tryz.func101 Tryz.ntmps101 rfl kr rfl ?_;refine ρ ?_;refine bx ?_;intro w1 bT ac ba hT;refine ρ ?_;refine bx (cs:=[kv]) ?_ (hv:=by rw [ek];rfl);intro w2 bK a9 bc hK;refine ρ ?_;refine alc (cs:=V0.cells) Uu ?_;intro w3 bR a8 au hR;have aa:=(ac.trans a9).trans a8;have C:Ext w3 w3.drew:=(Ext.refl w3).drew;have G:=aa.trans C;have ah:=(hT.ext a9).ext a8;have ai:=hK.ext a8;refine ρ ?_;refine dr [(0,0),(0,1),(0,2),(1,3),(1,4),(0,5)] kr ?_;refine ρd ?_;refine dld ((ai.ext C).at (i:=0) rfl) ?_;refine ρd ?_;refine dld ((ah.ext C).at (i:=1) rfl) ?_;refine ρd ?_;refine dcl (Jqj (h.ext G)) ?_;rintro ut w4 ⟨ao,rfl⟩;refine ⟨Ext.refl _,?_⟩;refine ρd ?_;refine dcl (Kn (hkv.ext G) ao.1) ?_;rintro u w4 ⟨rfl,a7⟩;refine ⟨a7,?_⟩;refine ρd ?_;have am:¬ (0<=Yv k t.sum):=Int.not_le.2 (cmpN_lt.2 hk);refine ρ ?_
 refine cf (dF am) ?_;have b1:=G.trans a7;refine ρ ?_;refine alc (cs:=V0.cells) Uu ?_;intro w5 U ad b9 hV;refine ρ ?_;refine alc zNat ?_;intro w6 Z ab bb hS;have lT:=hT.lt;have lK:=hK.lt;have lR:=hR.lt;have lV:=hV.lt;have b7:=ac.size;have b6:=a9.size;have b5:=a8.size;have b4:=(C.trans a7).size;have b3:=ad.size;have b2:=ab.size;have n1:Z≠bK:=om
 have n2:Z≠U:=om
 have n3:bK≠U:=om
 have n4:Z≠bR:=om
 have n5:U≠bR:=om
 have o:Ext w3 w6:=((C.trans a7).trans ad).trans ab;have O:Ext w w6:=aa.trans o;have aw:=ah.ext o;have ay:=ai.ext o;have av:=hV.ext ab;have hN:TrV (λk=>k=Z∨k=U∨k=bR) w6 t (.pointer q):=(h.old (N':=λk=>k=Z∨k=U∨k=bR) λk hk=>.inr (by rcases hk with rfl|rfl|rfl<;>omega)).ext O;have aq:NatX (λk=>k=Z∨k=U∨k=bR) w kv k:=NatX.old (N:=λ_=>False) ⟨hkv,λ_ _ _ _ _ h=>h⟩ λk hk=>.inr (by rcases hk with rfl|rfl|rfl<;>omega);have b8:=Tr.ht_le t;refine ρ ?_;refine ldW aw ?_;refine ρ ?_;refine cl (Jmd (N:=λk=>k=Z∨k=U∨k=bR) (J:=FndJ Z bK U bR kv k t) (D:=FndD Z bK U bR kv k t) hN ⟨_,0,V0,⟨hS,ay,av,hR.ext o⟩,NatX.nil _,aq.ext O,om,om,om,by simp⟩ om ?_ ?_ (Qnl ⟨n1,n2,n3,n4,n5⟩ hb)) ?_
 .rintro s w w' ⟨sv,m,v,a1,a2,a3,a4⟩ hx;exact ⟨sv,m,v,a1.ext hx,a2.ext hx,a3.ext hx,a4⟩
 .rintro w ⟨sv,m,v,a1,a2,a3,a4,a5,_⟩;simp only [Tr.sum]at a5;omega
 rintro z w7 ⟨⟨n,rfl,hn⟩,⟨sv,ak,ap⟩,ar⟩;have ae:Ext w w7:=ar.old O λk hk=>by rcases hk with rfl|rfl|rfl<;>omega
 refine ρ ?_;refine drN (λk=>k=bR) 10 [(0,0),(0,1),(0,2),(1,3),(0,4),(0,5),(0,6)] kr ?_;have a6:Ext w7 w7.drew:=(Ext.refl w7).drew;have aj:=ak.ext a6;refine ρn ?_;refine Xw (cs:=(Tr.findT k t).1.cells) (λw' hg j u hu=>(Jc aj.vb hg n5).at hu) ?_;refine ρn ?_;refine nld (Jm (aj.sb.at (i:=0) rfl) n4) ?_;refine ρn ?_;refine nop ?_;refine stb (cs':=(Tr.findT k t).1.cells) (ak.rb.ext a6) ?_ (V.one _);intro w8 ax ag an;refine ρ ?_;refine Js (GrN.by ag λj hj=>by injection hj with hj;exact hj.symm) ?_;refine ρn ?_;refine ρ ?_;have af:GrN (λk=>k=Z∨k=U∨k=bR) w7.drew w8:=GrN.by ag λj hj=>.inr (.inr (by injection hj with hj;exact hj.symm))
 exact Jgf ax ⟨sv,n,rfl,hn,((ap.ext a6).gr af).1,an w (ae.trans a6) (nL (ac.trans a9).size au)⟩
end Go.Proofs.YtebcagekopgdhaaGreatDoor
namespace Go.Wk
open Maps
variable {d n ty:Nat}
theorem dmlk{P:Program}{al:AL}{w:World}{Q:Exit->Act->World->Prop}{ops:Array Oper}{drest:List (Nat×Oper)}{pos:String}{aft:Array Edge}{tt:TT}[hT:Tab P tt]{t k e b m:Nat}{kd:TK}{f:Lit->Option Value}{x y:Operand}{key z:Value}{kl:Lit}(K:Keyed P k)(hM:MapS P k w b m f)(hz:Qu P e=some z)(hkey:keyOf P k key=some kl)(kk:WD P n ops Q drest ((d,(f kl).getD z)::al) w)(ht:tk tt t=some kd:=by rfl)(hk:kd.desc=.map k e:=by rfl)(hx:ev al x=some (.map (some b)):=by rfl)(hy:ev al y=some key:=by rfl)(hd:Nat.blt d n=true:=by rfl):
  WD P n ops Q ((0,⟨some d,.lookup t x y false,ty,pos,aft,none⟩)::drest) al w :=
 dy (λw' u a o=>by
  have:=((hM.ext u).look K (Vm hT.ok ht hk rfl) (Jct hz w') hkey).2;simp [execOp,o.ev hx,o.ev hy,this]) hd kk
end Go.Wk
namespace Go.Proofs.YtebcagekopgdhaaGreatDoor
open Go.RowKit Pl Go.Wk
attribute [local irreducible] WC WL QX WD WDB WP WN WG
variable {chs l:List (Nat×List Nat)}{cs ta va:List Value}{B0 b c cv f k n:Nat}{T:Nat->Row->Nat}{A VA:Option Addr}{r x:Row}{u vch vx:Value}{w w':World}
theorem Us(hx:Ext w w'){p:Addr}(h:w.cell? p=some u): w'.cell? p=some u:=by
 have o:p.block<w.heap.size:=by
  rcases Nat.lt_or_ge p.block w.heap.size with h1|h1
  .exact h1
  .unfold World.cell? at h;rw [Array.getElem?_eq_none h1]at h;simp at h
 rw [hx.cell o];exact h
theorem KS: Maps.Keyed Tryz.prog 9:=Maps.string_keyed Tryz.underlying9
def FitR(r:Row): Prop:=r.length<=32/\∀ v∈r,Ve v/\v.bytes.length<=24
theorem FitR.len(h:FitR r): (idn r).length<=2880:=by have:=Qjb h.2;have:=h.1;omega
theorem FitR.pm{cs:List Nat}(h:FitR r)(hc:∀ c∈cs,c<r.length)(hl:cs.length<=32): FitR (pmR cs r) :=
 ⟨by rw [Qm];exact hl,λv o=>by
  obtain ⟨c,u,rfl⟩:=List.mem_map.1 o;exact h.2 _ (getD_mem' V0 r (hc c u))⟩
theorem Gy(h:FitR r): keyOf Tryz.prog 9 (.string (str (idn r)))=some (.string (idn r)) :=
 WideMaps.keyOf_string_mk Tryz.underlying9 (by have:=h.len;show (idn r).toArray.size<=maxLen;rw [List.size_toArray];unfold maxLen;omega)
def ChG(w:World)(cs:List Value)(p:Nat×List Nat): Prop:=∃ A c,cs=[.int .i64 (p.1:Int),.slice A p.2.length c]/\p.2.length<=c/\p.2.length<=32/\Rd w 1 A p.2.length (Jt (nz p.2))
def DnV(AR:Nat->Prop)(T:Row->Nat)(w:World)(x:Value): Prop:=∃ mb m fm,x=.map (some mb)/\m<=1000000/\(MapS Tryz.prog 9 w mb m fm/\¬ AR mb)/\(∀ k:Row,fm (.string (idn k))=if 0<T k then some (.bool true) else none)/\∀ kl,fm kl≠none->∃ k:Row,kl=.string (idn k)
def DnT(AR:Nat->Prop)(T:Row->Nat)(w:World)(x:Value): Prop:=∃ mb m fm,x=.map (some mb)/\m<=1000000/\(MapS Tryz.prog 9 w mb m fm/\¬ AR mb)/\∀ k:Row,(fm (.string (idn k))=none/\T k=0)∨∃ y,fm (.string (idn k))=some y/\0<T k/\NatX AR w y (T k)
theorem DnV.gr{AR:Nat->Prop}{T:Row->Nat}{w w':World}{x:Value}(h:DnV AR T w x)(hg:GrN AR w w'): DnV AR T w' x:=by
 obtain ⟨u,m,fm,O,J,⟨G,o⟩,C⟩:=h;exact ⟨u,m,fm,O,J,⟨G.gr hg o,o⟩,C⟩
theorem DnT.gr{AR:Nat->Prop}{T:Row->Nat}{w w':World}{x:Value}(h:DnT AR T w x)(hg:GrN AR w w'): DnT AR T w' x:=by
 obtain ⟨u,m,fm,O,J,⟨G,o⟩,C⟩:=h;refine ⟨u,m,fm,O,J,⟨G.gr hg o,o⟩,λk=>?_⟩;rcases C k with h6|⟨y,h6,h7,h8⟩
 .exact .inl h6
 .exact .inr ⟨y,h6,h7,h8.gr hg⟩
def wtL(T:Nat->Row->Nat)(x:Row): List (Nat×List Nat)->Nat
 | []=>1
 | p::l=>T p.1 (pmR p.2 x)*wtL T x l
theorem Jzg(T:Nat->Row->Nat)(x:Row): ∀ l m,wtL T x (l++m)=wtL T x l*wtL T x m
 | [],m=>by rw [List.nil_append,wtL,Nat.one_mul]
 | p::l,m=>by rw [List.cons_append,wtL,wtL,Jzg T x l m,Nat.mul_assoc]
theorem Qwm{p:Nat×List Nat}(hp:p∈l)(h0:T p.1 (pmR p.2 x)=0): wtL T x l=0:=by
 obtain ⟨a,b,rfl⟩:=List.append_of_mem hp;rw [Jzg,wtL,h0,Nat.zero_mul,Nat.mul_zero]
theorem Jbp{T:Nat->Row->Nat}{x:Row}: ∀ {l:List (Nat×List Nat)},(∀ p∈l,T p.1 (pmR p.2 x)<=4294967296^20)->wtL T x l<=(4294967296^20)^l.length
 | [],_=>by simp [wtL]
 | p::l,h=>by
  rw [wtL,List.length_cons,Nat.pow_succ,Nat.mul_comm];exact Nat.mul_le_mul (Jbp λq hq=>h q (List.mem_cons_of_mem _ hq)) (h p mC)
theorem Nb.pow(h:n<=(4294967296^20)^k)(hk:k<=32): Nb n:=by
 refine Nat.lt_of_le_of_lt h ?_;rw [<-Nat.pow_mul];exact Nat.pow_lt_pow_right (by decide) (by rw [Jhh];omega)
theorem Qwj: Qu Tryz.prog 247=some (.agg #[.int .i64 0,.slice none 0 0]):=kr
theorem Qgd{a:Int}: ∀ u∈[Value.int .i64 a,.slice A n c],u.oneCell'=true:=λu o=>by
 simp only [List.mem_cons,List.not_mem_nil,or_false]at o;rcases o with rfl|rfl<;>rfl
theorem Uf(n:Nat)(h:n<18446744073709551616)(w:World): Ret Tryz.prog 16 [.int .u64 (n:Int)] w λv w'=>NatV w' v n/\Fresh w v/\Ext w w':=by
 refine Jz Tryz.func16 Tryz.ntmps16 rfl kr rfl ?_;refine ρ ?_;refine Ym rfl rfl (by decide) rfl ?_;refine ρ ?_;refine bsl (bsN _ _) ?_;intro J b u C o;rw [Uy,Jmm]at o;have G:Rd J 1 (some ⟨b,0,none⟩) 2 (Nc [UInt32.ofNat n,UInt32.ofNat (n / 4294967296)]):=o.rd rfl;refine ρ ?_;refine cl (Iv (l:=[UInt32.ofNat n,UInt32.ofNat (n / 4294967296)]) (c:=2) G (Nat.le_refl _) (by simp)) ?_;rintro v O ⟨rfl,rfl⟩;have:=Jqh G (by simp);rw [Jmg n h]at this ⊢;refine ρ ?_;exact Jj ⟨this,λU _ _ e=>by injection e with e;injection e with e;subst e;exact C,u⟩
theorem Jlz{AR:Nat->Prop}{TA:Option Addr}{ct:Nat}(hTB:TB B0 w)(hB:Blk w b 157 cs)(c1:cs[1]?=some (.int .i64 (f:Int)))(c7:cs[7]?=some (.slice VA n cv))(c8:cs[8]?=some (.slice TA n ct))(hV:Rd w 1 VA n va)(hTa:Rd w 1 TA n ta)(hch:GV 2 ChG w vch chs)(hlen:chs.length<=32)(hn:∀ p∈chs,p.1<n/\∀ c∈p.2,c<x.length)(hx:RowV w vx x)(hfit:FitR x)(hdv:∀ p∈chs,f<=p.1->DnV AR (T p.1) w (va.getD p.1 (.map none)))(hdt:∀ p∈chs,p.1<f->DnT AR (T p.1) w (ta.getD p.1 (.map none)))(hT1:∀ p∈chs,f<=p.1->∀ k,T p.1 k<=1)(hTb:∀ p∈chs,∀ k,T p.1 k<=4294967296^20):
  Ret Tryz.prog 133 [.pointer (some ⟨b,0,none⟩),vch,vx] w λu w'=>NatV w' u (wtL T x chs)/\Fresh w u/\Ext w w':=by
 obtain ⟨A,c,cc,rfl,bh,bg,b6,b5⟩:=hch.parts;refine Jz Tryz.func133 Tryz.ntmps133 rfl kr rfl ?_;refine ρ ?_;refine cl (Uf 1 (by decide) _) ?_;rintro vp w1 ⟨av,b4,ar⟩;refine ρ ?_;refine Ja (fun (i:Nat) (vp:Value)=>[(0,.pointer (some ⟨b,0,none⟩)),(2,vx),(7,vp),(12,.slice A chs.length c),(13,.int .i64 (chs.length:Int)),(14,.int .i64 (i:Int))])
  (λi vp w'=>i<=chs.length/\Ext w w'/\NatV w' vp (wtL T x (chs.take i))/\Fresh w vp) (λi _=>chs.length-i) 0 vp sB
  ⟨Nat.zero_le _,ar,by rw [List.take_zero];exact av,b4⟩ ?_
 rintro i vp w2 ⟨hi,a7,a8,ak⟩;refine ρ ?_;refine ci (λh=>?_) (λh=>?_)
 .have li:i<chs.length:=by have:=oT h;omega
  clear h;obtain ⟨ce,bf,⟨CA,cC,rfl,b7,ac,an⟩,a6⟩:=b5 i li;have G:chs[i]∈chs:=List.getElem_mem li;have ag:wtL T x (chs.take (i+1))=wtL T x (chs.take i)*T chs[i].1 (pmR chs[i].2 x):=by
   rw [List.take_succ_eq_append_getElem li,Jzg,wtL,wtL,Nat.mul_one]
  have ax:wtL T x (chs.take i)<=(4294967296^20)^i:=by
   have:=Jbp (T:=T) (x:=x) (l:=chs.take i) λp hp=>hTb p (List.mem_of_mem_take hp) _;rw [List.length_take,Nat.min_eq_left hi]at this;exact this
  have aw:Nb (wtL T x (chs.take i)):=Nb.pow ax om;have am:Nb (T chs[i].1 (pmR chs[i].2 x)):=Nb.pow (k:=1) (by rw [Nat.pow_one];exact hTb _ G _) om;generalize hq:chs[i]=q at *
  obtain ⟨U,C⟩:=q;simp only at b7 ac an a6 ag am;have a4:=hn _ G;simp only at a4;refine ρ ?_;refine ixq 2 i (b6.ext a7) li ?_;refine ρ ?_;have a9:∀ j u,([.int .i64 (U:Int),.slice CA C.length cC]:List Value)[j]?=some u->w2.cell? ((adr A (i*2)).add j)=some u:=λj u hu=>Us a7 (a6 j u hu);refine lds (cs:=[.int .i64 (U:Int),.slice CA C.length cC]) a9 ?_;refine ρ ?_;refine alc Qwj ?_;intro w3 bc aq b8 ba;refine ρ ?_;refine stW ba ?_;intro w4 O be ap;have a2:Ext w2 w4:=ap w2 aq b8;have a3:=a7.trans a2;refine ρ ?_;refine ld (O.at (i:=1) rfl) ?_;refine ρ ?_;refine cl (Jrp (cs:=C) (hx.ext a3) (an.ext a3) a4.2 om) ?_;rintro vk w5 ⟨b1,a1⟩;have ab:=a3.trans a1;have a5:FitR (pmR C x):=hfit.pm a4.2 ac;obtain ⟨KA,kc,rfl,bd,bb,ay⟩:=id b1;refine ρ ?_;refine cl (Jxl (r:=pmR C x) (hTB.ext ab) ay (λv hv=>(a5.2 v hv).1) (by have:=a5.len;omega) (by have:=a5.1;omega)) ?_;rintro u w6 ⟨rfl,Z⟩
  have aa:=ab.trans Z;have ae:Ext w6 w6.drew:=(Ext.refl w6).drew;have ao:=((O.ext a1).ext Z).ext ae;have b9:=hB.ext (aa.trans ae);refine ρ ?_;refine dr [(0,0),(0,1),(0,2),(0,3),(0,4),(0,5),(0,6),(0,7)] kr ?_;refine ρd ?_;refine dld (ao.at (i:=0) rfl) ?_;refine ρd ?_;refine dld (b9.at (i:=1) c1) ?_;refine ρd ?_;refine ρ ?_;have J:Ext w6 w6.drew.drew:=ae.drew;have o:=aa.trans J;refine ci (λh=>?_) (λh=>?_)
  .have lf:U<f:=by have:=oT h;omega
   obtain ⟨mb,m,fm,e1,e2,⟨e3,e4⟩,e5⟩:=hdt _ G lf;simp only at e1 e5;have af:ta[U]?=some (.map (some mb)):=by
    rw [<-e1];have hl:=hTa.1;simp [List.getD,List.getElem?_eq_getElem (show U<ta.length by omega)]
   refine ρ ?_;refine dr [(0,0),(0,1),(0,2),(0,3),(0,4),(0,5),(0,6),(0,7),(0,8),(0,9),(0,10),(1,11),(0,12)] kr ?_;refine ρd ?_;refine dld ((hB.ext o).at (i:=8) c8) ?_;refine ρd ?_;refine dld ((((O.ext a1).ext Z).ext J).at (i:=0) rfl) ?_;refine ρd ?_;refine dix U (hTa.ext o) a4.1 ?_;refine ρd ?_;refine dld ((hTa.ext o).cell af) ?_;refine ρd ?_;refine dmlk KS (e3.ext o) zNat (Gy a5) ?_;have ai:NatV w6.drew.drew ((fm (.string (idn (pmR C x)))).getD (.slice none 0 0)) (T U (pmR C x)):=by
    rcases e5 (pmR C x) with ⟨h6,h7⟩|⟨y,h6,h7,h8⟩
    .rw [h6,h7];exact NatV.nil _
    .rw [h6];exact h8.1.ext o
   refine ρd ?_;refine dcl (Jzz (a8.ext ((a2.trans a1).trans Z |>.trans J)) ai aw.len am.len) ?_;rintro vr w7 ⟨au,aj,ah⟩;refine ⟨ah,?_⟩;refine ρd ?_;refine ρ ?_;refine Jl (i+1) vr sO ⟨li,o.trans ah,?_,λad m c e=>nL o.size (aj ad m c e)⟩ om;rw [ag];exact au
  .have lf:f<=U:=by have:=oF h;omega
   obtain ⟨mb,m,fm,e1,e2,⟨e3,e4⟩,e5,e6⟩:=hdv _ G lf;simp only at e1 e5;have af:va[U]?=some (.map (some mb)):=by
    rw [<-e1];have hl:=hV.1;simp [List.getD,List.getElem?_eq_getElem (show U<va.length by omega)]
   refine ρ ?_;refine dr [(0,0),(0,1),(0,2),(0,3),(0,4),(0,5),(0,6),(0,7),(0,8),(0,9),(0,10)] kr ?_;refine ρd ?_;refine dld ((hB.ext o).at (i:=7) c7) ?_;refine ρd ?_;refine dld ((((O.ext a1).ext Z).ext J).at (i:=0) rfl) ?_;refine ρd ?_;refine dix U (hV.ext o) a4.1 ?_;refine ρd ?_;refine dld ((hV.ext o).cell af) ?_;refine ρd ?_;refine dmlk KS (e3.ext o) Jhw (Gy a5) ?_;rw [e5];by_cases h0:0<T U (pmR C x)
   .rw [if_pos h0];have h1:=hT1 _ G lf (pmR C x);simp only at h1;refine ρd ?_;refine ρ ?_;refine Jl (i+1) vp sO ⟨li,o,?_,ak⟩ om;rw [ag,show T U (pmR C x)=1 by omega,Nat.mul_one];exact a8.ext ((a2.trans a1).trans Z |>.trans J)
   .rw [if_neg h0];refine ρd ?_;refine ρ ?_;have b3:Fresh w (.slice none 0 0):=λad m c e=>by cases e
    refine Jj ⟨?_,b3,o⟩;rw [Qwm G (show T U (pmR C x)=0 by omega)];exact NatV.nil _
 have b2:i=chs.length:=by have:=oF h;omega
 rw [b2,List.take_length]at a8;refine ρ ?_;exact Jj ⟨a8,ak,a7⟩
open Go.RowKit Pl Go.Wk
def chK(kf:Nat->Nat)(pf:Nat->Int)(v k:Nat): List (Nat×List Nat):=((List.range k).filter λc=>decide (pf c=(v:Int))).map λc=>(c,Ql (bk (kf v ||| 2^v) 32) (kf c))
theorem Jyx(kf:Nat->Nat)(pf:Nat->Int)(v k:Nat): chK kf pf v (k+1)=chK kf pf v k++if pf k=(v:Int) then [(k,Ql (bk (kf v ||| 2^v) 32) (kf k))] else []:=by
 unfold chK;rw [List.range_succ,List.filter_append,List.map_append];congr 1
 split
 .rename_i h;simp [h]
 .rename_i h;simp [h]
theorem Jxw(kf:Nat->Nat)(pf:Nat->Int)(v k:Nat): (chK kf pf v k).length<=k:=by
 unfold chK;rw [List.length_map];have:=List.length_filter_le (λc=>decide (pf c=(v:Int))) (List.range k);rw [List.length_range]at this;exact this
theorem Jgq(vars:List Nat)(s:Nat): (Ql vars s).length<=vars.length:=by
 have:=List.length_filter_le (λi=>s.testBit (vars.getD i 0)) (List.range vars.length);rw [List.length_range]at this;exact this
theorem EC: ElT Tryz.prog 206 247 2 32 (.agg #[.int .i64 0,.slice none 0 0]):=⟨Tryz.underlying206,info_parts kr,rfl,by decide⟩
theorem Qts(z:Int)(v:Value)(A:Option Addr)(n c:Nat)(h:v=.slice A n c)(w:World): (Instr.build 247 #[(0,.int .i64 z),(1,v)]).run Tryz.prog w=.ok (.agg [.int .i64 z,v].toArray) w:=by subst h;kernel_rfl
theorem Qsq(z:Int)(v:Value)(A:Option Addr)(n c:Nat)(h:v=.slice A n c)(w:World): (Instr.buildSlice 206 1 #[(0,.agg [.int .i64 z,v].toArray)]).run Tryz.prog w=.ok (.slice (some ⟨w.heap.size,0,none⟩) 1 1) (w.alloc (.cells [.int .i64 z,v].toArray 247)):=by subst h;kernel_rfl
theorem Qxh{w:World}{b n v cb:Nat}{cs:List Value}{BA:Option Addr}{vR:Value}{kf:Nat->Nat}{pf:Nat->Int}{R:Nat->List Row}(hB:Blk w b 157 cs)(c5:cs[5]?=some (.slice BA n cb))(c6:cs[6]?=some vR)(hBags:Rd w 3 BA n (Qh n (Qf kf pf)))(hR:GV 3 AtG w vR ((List.range n).map λv=>Vf (kf v ||| 2^v) (R v)))(hn:n<=32)(hv:v<n)(hk:∀ v,v<n->kf v<4294967296):
  Ret Tryz.prog 130 [.pointer (some ⟨b,0,none⟩),.int .i64 (v:Int)] w λu w'=>OwnG 247 2 ChG w' w.heap.size u (chK kf pf v n)/\Ext w w':=by
 obtain ⟨RA,rc,ao,rfl,ad,ac,a8,ai⟩:=hR.parts;rw [List.length_map,List.length_range]at c6 ad ac a8;obtain ⟨re,an,⟨t,rfl,a9⟩,Z⟩:=ai v (by simpa using hv);simp only [List.getElem_map,List.getElem_range]at a9;obtain ⟨⟨PA,pc,aa,aq,ap,ae⟩,b1,ab⟩:=id a9;obtain ⟨t1,t2,t3⟩:=t;simp only [Vf]at aa;subst aa;have a5:(nz (bk (kf v ||| 2^v) 32)).length=(bk (kf v ||| 2^v) 32).length:=Qq _;refine Jz Tryz.func130 Tryz.ntmps130 rfl kr rfl ?_;refine ρ ?_;refine ld (hB.at (i:=5) c5) ?_;refine ρ ?_;refine Ja (fun (k:Nat) (vl:Value)=>[(0,.pointer (some ⟨b,0,none⟩)),(1,.int .i64 (v:Int)),(5,vl),(11,.int .i64 (n:Int)),(12,.int .i64 (k:Int))])
  (λk vl w'=>k<=n/\Ext w w'/\OwnG 247 2 ChG w' w.heap.size vl (chK kf pf v k)) (λk _=>n-k) 0 (.slice none 0 0) sB
  ⟨Nat.zero_le _,Ext.refl _,OwnG.nil _ _⟩ ?_
 rintro k vl w1 ⟨av,C,U⟩;refine ρ ?_;refine ci (λh=>?_) (λh=>?_)
 .have lk:k<n:=by have:=oT h;omega
  clear h;have am:=hB.ext C;have J:∀ {w'} (hx:Ext w w') j u,(Qf kf pf k)[j]?=some u->w'.cell? ((adr BA (k*3)).add j)=some u:=λhx j u hu=>by
   have hj:j<3:=by
    rcases Nat.lt_or_ge j 3 with h'|h'
    .exact h'
    .rw [List.getElem?_eq_none (by simp [Qf];omega)]at hu;cases hu
   rw [Xg];exact (hBags.ext hx).cell ((Jjk (sz:=3) (λ_ _=>rfl) lk hj).trans hu)
  refine ρ ?_;refine ld (am.at (i:=5) c5) ?_;refine ρ ?_;refine ixq 3 k (hBags.ext C) lk ?_;refine ρ ?_;refine ld (J C 2 _ rfl) ?_;refine ρ ?_;refine ci (λh=>?_) (λh=>?_)
  .have hp:pf k=(v:Int):=Xl h;have a1:Ext w1 w1.drew:=(Ext.refl w1).drew;have o:=C.trans a1;have ay:=hB.ext o;obtain ⟨LA,lc,b2,au,a3⟩:=U.form;refine ρ ?_;refine drN (λk=>w.heap.size<=k) 10 [(0,0),(0,1),(0,2),(0,3),(0,4),(0,5),(0,6),(0,7),(0,8),(0,9),(0,10),(0,11),(0,12),(0,13),(0,14),(0,15),(0,16),(0,17),(1,18),(0,19),(1,20),(1,21),(0,22)] kr ?_;have aw:¬ w.heap.size<=b:=by have:=hB.lt;omega
   have G:∀ {p:Addr} {u:Value},w.cell? p=some u->∀ w',GrN (λk=>w.heap.size<=k) w1.drew w'->w'.cell? p=some u:=fun {p u} h w' hg=>
    Us ((hg.old o λk hk=>hk)) h
   refine ρn ?_;refine nld (G (hB.at (i:=6) c6)) ?_;refine ρn ?_;refine Vr 3 v (a8.ext o) hv ?_;refine ρn ?_;refine nld (G (Z 0 _ rfl)) ?_;refine ρn ?_;refine nld (G (hB.at (i:=5) c5)) ?_;refine ρn ?_;refine Vr 3 k (hBags.ext o) lk ?_;refine ρn ?_;refine nld (G (J (Ext.refl w) 1 _ rfl)) ?_;refine ρn ?_;refine nop ?_;rw [a5];refine cl (Qqp (vars:=bk (kf v ||| 2^v) 32) (a5 ▸ ae.ext o) (hk k lk) (λu hu=>(bk_mem.1 hu).1) (Yy _ _)) ?_;rintro uc w2 ⟨a7,a4⟩;refine ρ ?_;refine Js (GrN.ext a4) ?_;obtain ⟨CA,cc,rfl,ah,ag⟩:=Jv a7;refine ρn ?_;refine Jjc (Qts _ _ CA _ cc rfl) ?_;refine ρn ?_;refine nop ?_;refine bsl (Qsq _ _ CA _ cc rfl) ?_;intro w3 b3 a2 ax ak;refine ρ ?_;refine Js (GrN.ext a2) ?_;refine ρn ?_;refine nop ?_;have O:Ext w1 w3:=(a1.trans a4).trans a2;have hΦ:Off (Qs w.heap.size vl) w3 (λu=>ChG u [.int .i64 (k:Int),.slice CA (Ql (bk (kf v ||| 2^v) 32) (kf k)).length cc] (k,Ql (bk (kf v ||| 2^v) 32) (kf k))):=by
    have h1:=Jqs (Jk a7 a2) (N:=Qs w.heap.size vl) λg eg hN=>by
     have:=(ag g eg).1;rcases hN with h'|h'
     .have:=o.size;omega
     .have:=(a3 g h').2;have:=a1.size;omega
    refine h1.imp λu h=>⟨CA,cc,rfl,ah,?_,Rd.own h⟩;exact nL (Jgq (bk (kf v ||| 2^v) 32) (kf k)) (Yy (kf v ||| 2^v) 32)
   refine apG EC (Φ:=ChG) (U.ext O) ak rfl Qgd hΦ (by have:=Jxw kf pf v k;omega) om (C.trans O).size ?_;intro v4 w4 aj a6 ar;refine ρ ?_;refine Js (GrN.by a6 λg eg=>(a3 g eg).1) ?_;refine ρn ?_;refine ρ ?_;refine Jl (k+1) v4 sO ⟨lk,Qb (C.trans O) a6 (λg eg=>(a3 g eg).1),?_⟩ om;rw [Jyx,if_pos hp];exact aj
  .have hp:pf k≠(v:Int):=Xm h;refine ρ ?_;refine Jl (k+1) vl sO ⟨lk,C,?_⟩ om;rw [Jyx,if_neg hp,List.append_nil];exact U
 have af:k=n:=by have:=oF h;omega
 rw [af]at U;refine ρ ?_;exact Jj ⟨U,C⟩
open Go.RowKit Pl Go.Wk
variable {cols:List Nat}{rows:List Row}{cs ta va:List Value}{b cv n:Nat}{pf:Nat->Int}{BA VA:Option Addr}{k:Row}{W:Row->Nat}{w w' wF:World}
structure FixW(B0 n f:Nat)(kf:Nat->Nat)(pf:Nat->Int)(R:Nat->List Row)(vR:Value)(BA:Option Addr)(wF:World): Prop where
 tb:TB B0 wF
 bags:Rd wF 3 BA n (Qh n (Qf kf pf))
 rels:GV 3 AtG wF vR ((List.range n).map λv=>Vf (kf v ||| 2^v) (R v))
 n32:n<=32
 fn:f<=n
 kb:∀ v,v<n->kf v<4294967296
 pn:∀ c,c<n->pf c≠(c:Int)
 rows:∀ v,v<n->∀ x∈R v,x.length=(bk (kf v ||| 2^v) 32).length/\FitR x
 rlen:∀ v,v<n->(R v).length<=65536
def bCs(n f:Nat)(Dv Pv Av:Value)(BA:Option Addr)(cb:Nat)(vR:Value)(VA:Option Addr)(cv:Nat)(TA:Option Addr)(ct:Nat)(Kv:Value): List Value :=
 [.int .i64 (n:Int),.int .i64 (f:Int),Dv,Pv,Av,.slice BA n cb,vR,.slice VA n cv,.slice TA n ct,Kv]
def ARk(n f:Nat)(VA:Option Addr)(cv:Nat)(TA:Option Addr)(ct:Nat)(Kv:Value)(k:Nat): Prop:=(Value.slice VA n cv).ownBlock=some k∨(Value.slice TA n ct).ownBlock=some k∨Kv.ownBlock=some k
structure BldW(wF:World)(b n:Nat)(cs:List Value)(VA:Option Addr)(cv:Nat)(TA:Option Addr)(ct:Nat)(w:World)(va ta:List Value): Prop where
 ext:Ext wF w
 blk:Blk w b 157 cs
 va:w.ownsRow wF.heap.size 205 1 (.slice VA n cv) n va
 ta:w.ownsRow wF.heap.size 213 1 (.slice TA n ct) n ta
theorem BldW.ext'{TA:Option Addr}{ct:Nat}(h:BldW wF b n cs VA cv TA ct w va ta)(hx:Ext w w'): BldW wF b n cs VA cv TA ct w' va ta :=
 ⟨h.ext.trans hx,h.blk.ext hx,Jk h.va hx,Jk h.ta hx⟩
def Zy(kf:Nat->Nat)(v:Nat): List Nat:=Ql (bk (kf v ||| 2^v) 32) (kf v)
open Classical in
noncomputable def Yt (rows:List Row) (cols:List Nat) (W:Row->Nat) (k:Row):Nat:=if ∃ x∈rows,0<W x/\pmR cols x=k then 1 else 0
theorem redT_pos: 0<Yt rows cols W k↔∃ x∈rows,0<W x/\pmR cols x=k:=by
 unfold Yt;split
 .rename_i h;exact ⟨λ_=>h,λ_=>Nat.one_pos⟩
 .rename_i h;exact ⟨λo=>om,λo=>absurd o h⟩
theorem Jps: Yt rows cols W k<=1:=by
 unfold Yt;split<;>omega
theorem Jhj{a:Atm}(h:AtG w cs a)(hx:Ext w w'): AtG w' cs a:=by
 obtain ⟨t,e,o⟩:=h;exact ⟨t,e,o.ext hx⟩
theorem Jjf{kf:Nat->Nat}{v:Nat}{p:Nat×List Nat}(h:p∈chK kf pf v n): p.1<n/\pf p.1=(v:Int)/\p.2=Ql (bk (kf v ||| 2^v) 32) (kf p.1):=by
 obtain ⟨c,o,rfl⟩:=List.mem_map.1 h;obtain ⟨C,u⟩:=List.mem_filter.1 o;exact ⟨List.mem_range.1 C,of_decide_eq_true u,rfl⟩
theorem Jfh{v:Value}(h:NatV w v n): ∃ A c,v=.slice A (Jq n).length c/\(0<(Jq n).length↔0<n):=by
 obtain ⟨A,c,e,_⟩:=h;refine ⟨A,c,e,λh=>Nat.pos_of_ne_zero (Jsz h),λh=>limbs_pos' om⟩
theorem Qdb{B0 f v cb ct:Nat}{kf:Nat->Nat}{R:Nat->List Row}{vR Dv Pv Av Kv:Value}{TA:Option Addr}{T:Nat->Row->Nat}{AR:Nat->Prop}(hF:FixW B0 n f kf pf R vR BA wF)(hW:BldW wF b n (bCs n f Dv Pv Av BA cb vR VA cv TA ct Kv) VA cv TA ct w va ta)(hv:v<n)(hdv:∀ c,c<n->pf c=(v:Int)->f<=c->DnV AR (T c) w (va.getD c (.map none)))(hdt:∀ c,c<n->pf c=(v:Int)->c<f->DnT AR (T c) w (ta.getD c (.map none)))(hT1:∀ c,f<=c->∀ k,T c k<=1)(hTb:∀ c k,T c k<=4294967296^20)(hAR:∀ k,ARk n f VA cv TA ct Kv k->AR k)(hARl:∀ k,AR k->k<w.heap.size):
  Ret Tryz.prog 83 [.pointer (some ⟨b,0,none⟩),.int .i64 (v:Int)] w λu w'=>u=.tuple #[]/\∃ mv,BldW wF b n (bCs n f Dv Pv Av BA cb vR VA cv TA ct Kv) VA cv TA ct w' (va.set v mv) ta/\GrN (λk=>(Value.slice VA n cv).ownBlock=some k) w w' /\
   DnV AR (Yt (R v) (Zy kf v) λx=>wtL T x (chK kf pf v n)) w' mv:=by
 obtain ⟨bi,hB,a7,c2⟩:=hW;have bp:=hF.n32;refine Jz Tryz.func83 Tryz.ntmps83 rfl kr rfl ?_;refine ρ ?_;refine ld (hB.at (i:=7) rfl) ?_;refine ρ ?_;refine mkm 9 ?_;intro w1 U O cn hM;obtain ⟨s1,s2,s3,s4,s5⟩:=Zv (Jk a7 O) (q:=v) om (.map (some U));have dc:va.length=n:=by have:=a7.1;omega
 refine ρ ?_;refine ix v (Rd.own (Jk a7 O)) om ?_;refine ρ ?_;refine sto (s1.trans (show va[v]?=some (va.getD v (.map none)) by simp [List.getD,List.getElem?_eq_getElem (show v<va.length by omega)])) s2 ?_;refine ρ ?_;obtain ⟨w2,bj⟩:∃ w2,w2=w1.setCell (adr VA v) (.map (some U)):=⟨_,rfl⟩;rw [<-bj]at s3 s5 ⊢;clear bj;have ai:∀ g,(Value.slice VA n cv).ownBlock=some g->wF.heap.size<=g/\g<w.heap.size:=(Jv a7).choose_spec.choose_spec.2.2;have bf:∀ g,(Value.slice TA n ct).ownBlock=some g->wF.heap.size<=g/\g<w.heap.size:=(Jv c2).choose_spec.choose_spec.2.2;have d5:=O.size;have d8:=hM.lt;have ah:Blk w2 b 157 _:=(hB.ext O).grown s5 ((hB.ext O).ne_own (Jk a7 O) rfl);have aw:w2.ownsRow wF.heap.size 213 1 (.slice TA n ct) n ta:=Zj (Jk c2 O) (Jk a7 O) s5 rfl;have c5:MapS Tryz.prog 9 w2 U 0 (λ_=>none):=hM.kept s5 (λe=>by have:=(ai U e.symm).2;omega);have bv:GrN AR w w2:=(GrN.ext O).trans (GrN.by s5 λk C=>hAR k (.inl C))
 have a2:Ext wF w2:=Qb (bi.trans O) s5 λk C=>(ai k C).1;have br:wF.heap.size<=U:=nL bi.size cn;have au:=c5.lt;obtain ⟨RA,rc,db,c7,cj,ch,bb,cy⟩:=hF.rels.parts;rw [List.length_map,List.length_range]at c7 cj ch bb;obtain ⟨re,d6,⟨t,d4,bd⟩,a4⟩:=cy v (by simpa using hv);subst d4;simp only [List.getElem_map,List.getElem_range]at bd;obtain ⟨⟨PA,pc,c9,de,dd,ck⟩,c8,ca⟩:=id bd;obtain ⟨t1,t2,t3⟩:=t;simp only [Vf]at c9 c8;subst c9;subst c8;have bo:(nz (bk (kf v ||| 2^v) 32)).length=(bk (kf v ||| 2^v) 32).length:=Qq _;have ap:∀ j u,(Qf kf pf v)[j]?=some u->wF.cell? ((adr BA (v*3)).add j)=some u:=λj u hu=>by
  have hj:j<3:=by
   rcases Nat.lt_or_ge j 3 with h'|h'
   .exact h'
   .rw [List.getElem?_eq_none (by simp [Qf];omega)]at hu;cases hu
  rw [Xg];exact hF.bags.cell ((Jjk (sz:=3) (λ_ _=>rfl) hv hj).trans hu)
 subst c7;have aj:Ext w2 w2.drew:=(Ext.refl w2).drew;have G:=a2.trans aj;have bc:=ah.ext aj;refine dr [(0,0),(0,1),(0,3),(0,4),(0,5),(0,6),(0,7),(0,8),(0,9),(0,10),(0,11),(0,12),(0,13),(0,14),(0,15),(0,16),(0,17),(0,18),(1,2),(1,19),(0,20),(0,21)] kr ?_;refine ρd ?_;refine dld (bc.at (i:=6) rfl) ?_;refine ρd ?_;refine Kw 3 v (bb.ext G) hv ?_;refine ρd ?_;refine dld (Us G (a4 0 _ rfl)) ?_;refine ρd ?_;refine dld (bc.at (i:=5) rfl) ?_;refine ρd ?_;refine Kw 3 v (hF.bags.ext G) hv ?_;refine ρd ?_;refine dld (Us G (ap 1 _ rfl)) ?_;refine ρd ?_;refine dcl (Qxh (R:=R) bc rfl rfl (hF.bags.ext G) (hF.rels.ext G λcs a h=>Jhj h G) bp hv hF.kb) ?_;rintro vl w3 ⟨d0,am⟩;refine ⟨am,?_⟩;have bh:=G.trans am;refine ρd ?_;rw [bo];refine dcl (Qqp (vars:=bk (kf v ||| 2^v) 32) (bo ▸ ck.ext bh) (hF.kb v hv) (λu hu=>(bk_mem.1 hu).1) (Yy _ _)) ?_;rintro uc w4 ⟨bz,b4⟩
 refine ⟨b4,?_⟩;obtain ⟨CA,cc,rfl,di,cw⟩:=Jv bz;refine ρd ?_;refine ρ ?_;have a3:=(aj.trans am).trans b4;have a9:=a2.trans a3;have d3:=ah.ext a3;have b6:∀ j u,([.int .i64 ((bk (kf v ||| 2^v) 32).length:Int),t3]:List Value)[j]?=some u->w4.cell? (((adr RA (v*3)).add 1).add j)=some u:=λj u hu=>by
  have:=a4 (1+j) u (by rw [Nat.add_comm];exact hu);rw [Xg]at this;rw [Xg,Xg,Nat.add_assoc];exact Us a9 this
 refine ld (d3.at (i:=6) rfl) ?_;refine ρ ?_;refine ixq 3 v (bb.ext a9) hv ?_;refine ρ ?_;refine lds (cs:=[.int .i64 ((bk (kf v ||| 2^v) 32).length:Int),t3]) b6 ?_;refine ρ ?_;refine cl (Jdf (ar:=(bk (kf v ||| 2^v) 32).length) (ls:=R v) ((bd.ext a9).rel)) ?_;rintro ur w5 ⟨b3,an⟩;obtain ⟨ps,GA,gc,be,rfl,dh,d7,bn,b5⟩:=an;have Z:(R v).length=ps.length:=by rw [be,List.length_map]
 have aa:=a3.trans b3;have bq:U<w4.heap.size:=nM au a3.size;have b7:b≠U:=λe=>by have h1:=hB.lt;omega
 refine ρ ?_;refine Xt (fun (i:Nat) (m:Nat) (fm:Lit->Option Value)=>[(0,.pointer (some ⟨b,0,none⟩)),(1,.int .i64 (v:Int)),(4,vl),(5,.slice CA (Zy kf v).length cc),(43,.slice GA ps.length gc),(44,.int .i64 (ps.length:Int)),(45,.int .i64 (i:Int))])
  (λi m fm w'=>i<=ps.length/\GrN (λk=>k=U) w5 w'/\MapS Tryz.prog 9 w' U m fm/\m<=i/\(∀ k:Row,fm (.string (idn k))=if 0<Yt ((R v).take i) (Zy kf v) (λx=>wtL T x (chK kf pf v n)) k then some (.bool true) else none)/\∀ kl,fm kl≠none->∃ k:Row,kl=.string (idn k)) (λi _ _=>ps.length-i) 0 0 (λ_=>none) sB
  ⟨Nat.zero_le _,GrN.refl _ _,c5.ext aa,Nat.le_refl _,λk=>?_,λkl h=>absurd rfl h⟩ ?_
 .rw [if_neg];intro h;obtain ⟨x,hx,_⟩:=redT_pos.1 h;simp at hx
 rintro i m fm w6 ⟨hi,af,c4,df,ao,b8⟩;refine ρ ?_;refine ci (λh=>?_) (λh=>?_)
 .have li:i<ps.length:=by have:=oT h;omega
  clear h;obtain ⟨x,b1⟩:∃ x,x=(ps.getD i z0).2:=⟨_,rfl⟩;have cd:x∈R v:=by rw [be,b1];exact List.mem_map_of_mem (getD_mem' z0 ps li)
  have ay:(R v).getD i []=x:=by rw [be,b1];simp [List.getD,List.getElem?_eq_getElem li]
  obtain ⟨ax,a8⟩:=hF.rows v hv x cd;have o:GrN (λk=>k=U) w2 w6:=(GrN.ext aa).trans af;have a1:Ext wF w6:=o.old a2 λk C=>by rw [C];exact br
  have d2:=Jc ah o b7;have c1:=Rd.own (Jr s3 o λg eg e=>by have:=(ai g eg).2;omega);have cx:=Rd.own (Jr aw o λg eg e=>by have:=(bf g eg).2;omega);have cz:GV 2 ChG w6 vl (chK kf pf v n):=((((d0.ext b4).ext b3).gr af λk C=>by rw [C];exact au)).gv (by have:=Jxw kf pf v n;omega);have av:GrN (λk=>k<w4.heap.size) w5 w6:=af.mono λk _ C=>by rw [C];exact bq
  have ac:RowV w6 (ps.getD i z0).1 x:=by rw [b1];exact b5 _ (getD_mem' z0 ps li) w6 av
  have aq:=bn w6 av;have a5:GrN AR w w6:=((bv.mono λk _ C=>(.inl C:AR k∨k=U)).trans (o.mono λk _ C=>.inr C)).mono λk C h=>h.elim id λe=>by omega
  have bm:∀ c,c≠v->(va.set v (.map (some U))).getD c (.map none)=va.getD c (.map none):=λc hc=>by simp [List.getD,List.getElem?_set_ne (Ne.symm hc)]
  have cm:∀ c,c<n->pf c=(v:Int)->c≠v:=λc hc hp e=>hF.pn c hc (by rw [hp,e]);refine ρ ?_;refine ix i aq li ?_;refine ρ ?_;refine ld (aq.cell (show (ps.map (·.1))[i]?=some (ps.getD i z0).1 by simp [List.getD,List.getElem?_eq_getElem li])) ?_
  refine ρ ?_;refine cl (Jlz (T:=T) (AR:=AR) (hF.tb.ext a1) d2 rfl rfl rfl c1 cx cz (by have:=Jxw kf pf v n;omega) (λp hp=>?_) ac a8 (λp hp ae=>?_) (λp hp ae=>?_) (λp hp ae k=>hT1 _ ae k) (λp hp k=>hTb _ k)) ?_
  .obtain ⟨h1,h2,h3⟩:=Jjf hp;refine ⟨h1,λc hc=>?_⟩;rw [h3]at hc;rw [ax];exact Jxr hc
  .obtain ⟨h1,h2,h3⟩:=Jjf hp;rw [bm _ (cm _ h1 h2)];exact (hdv _ h1 h2 ae).gr a5
  .obtain ⟨h1,h2,h3⟩:=Jjf hp;exact (hdt _ h1 h2 ae).gr a5
  rintro vw w7 ⟨ce,_,a6⟩;obtain ⟨WA,wc,rfl,ab⟩:=Jfh ce;have c3:=c4.ext a6;have b9:=af.trans (GrN.ext a6);refine ρ ?_;refine ci (λh=>?_) (λh=>?_)
  .have ad:0<wtL T x (chK kf pf v n):=ab.1 (by have:=oT h;omega);have bt:GrN (λk=>k=U) w2 w7:=o.trans (GrN.ext a6);have bg:=a1.trans a6;have J:Ext w7 w7.drew:=(Ext.refl w7).drew;have d1:=(Jc ah bt b7).ext J;have c0:Rd w7.drew 1 VA n (va.set v (.map (some U))):=c1.ext (a6.trans J);have bw:Rd w7.drew 1 CA (Zy kf v).length (Jt (nz (Zy kf v))):=Rd.own (Jk (Jr (Jk bz b3) b9 λg eg e=>by have:=(cw g eg).1;have:=am.size;have:=aj.size;omega) J);have ag:FitR (pmR (Zy kf v) x):=a8.pm (λc hc=>by rw [ax];exact Jxr hc) (nL (Jgq _ _) (Yy _ _));have cg:(va.set v (.map (some U)))[v]?=some (.map (some U)):=by rw [List.getElem?_set_self om]
   refine ρ ?_;refine drN (λ_=>False) 10 [(0,0),(0,1),(0,2),(0,3),(0,4),(0,5),(0,6),(0,7),(0,8),(1,9),(1,10),(2,11)] kr ?_;refine ρn ?_;refine nld (Jm (d1.at (i:=7) rfl) (λe=>e)) ?_;refine ρn ?_;refine nix v c0 hv ?_;refine ρn ?_;refine nld (Jm (c0.cell cg) (λe=>e)) ?_;refine ρn ?_;refine nop ?_;refine cl (Jrp (cs:=Zy kf v) ((ac.ext a6).ext J) bw (λc hc=>by rw [ax];exact Jxr hc) (by have:=Jgq (bk (kf v ||| 2^v) 32) (kf v);have:=Yy (kf v ||| 2^v) 32;unfold Zy;omega)) ?_;rintro uk w8 ⟨cq,ak⟩;obtain ⟨KA,kc,rfl,dg,d9,co⟩:=id cq;refine ρ ?_;refine Js (GrN.ext ak) ?_;refine ρn ?_;refine nop ?_;refine cl (Jxl (r:=pmR (Zy kf v) x) ((hF.tb.ext (bg.trans J)).ext ak) co (λu hu=>(ag.2 u hu).1) (by have:=ag.len;omega) (by have:=ag.1;omega)) ?_;rintro un w9 ⟨rfl,b2⟩;refine ρ ?_;refine Js (GrN.ext b2) ?_;refine ρn ?_;refine Xd ?_;refine mup KS (((c3.ext J).ext ak).ext b2) (by unfold maxLen;omega) (Gy ag) ?_
   intro da c6 bu;refine ρ ?_;refine Xj (i+1) (m+1) (upL fm (.string (idn (pmR (Zy kf v) x))) (some (.bool true))) sO ⟨li,((b9.trans (GrN.ext J)).trans ((GrN.ext ak).trans (GrN.ext b2))).trans (GrN.by bu λk C=>by injection C with C;exact C.symm),c6,om,λk=>?_,λkl bs=>?_⟩ om
   .by_cases e:pmR (Zy kf v) x=k
    .rw [<-e,Gh (KS.key (Gy ag)),if_pos];refine redT_pos.2 ⟨x,?_,ad,rfl⟩;rw [Qy [] (by rw [Z];exact li),ay];exact List.mem_append_right _ (List.mem_singleton.2 rfl)
    .rw [Yp (λe'=>e (Jyj (by injection e'.symm))),ao k];have e2:(0<Yt ((R v).take (i+1)) (Zy kf v) (λx=>wtL T x (chK kf pf v n)) k)↔(0<Yt ((R v).take i) (Zy kf v) (λx=>wtL T x (chK kf pf v n)) k):=by
      rw [redT_pos,redT_pos,Qy [] (by rw [Z];exact li),ay];constructor
      .rintro ⟨y,hy,h1,h2⟩;rcases List.mem_append.1 hy with h3|h3
       .exact ⟨y,h3,h1,h2⟩
       .rw [List.mem_singleton.1 h3]at h2;exact absurd h2 e
      .rintro ⟨y,hy,h1,h2⟩;exact ⟨y,List.mem_append_left _ hy,h1,h2⟩
     simp only [e2]
   .by_cases e:kl=.string (idn (pmR (Zy kf v) x))
    .exact ⟨_,e⟩
    .rw [Yp e]at bs;exact b8 kl bs
  .have ad:¬ 0<wtL T x (chK kf pf v n):=λh'=>by have:=ab.2 h';have:=oF h;omega
   refine ρ ?_;refine Xj (i+1) m fm sO ⟨li,b9,c3,om,λk=>?_,b8⟩ om;rw [ao k];have e:(0<Yt ((R v).take (i+1)) (Zy kf v) (λx=>wtL T x (chK kf pf v n)) k)↔(0<Yt ((R v).take i) (Zy kf v) (λx=>wtL T x (chK kf pf v n)) k):=by
    rw [redT_pos,redT_pos,Qy [] (by rw [Z];exact li),ay];constructor
    .rintro ⟨y,hy,h1,h2⟩;rcases List.mem_append.1 hy with h3|h3
     .exact ⟨y,h3,h1,h2⟩
     .rw [List.mem_singleton.1 h3]at h1;exact absurd h1 ad
    .rintro ⟨y,hy,h1,h2⟩;exact ⟨y,List.mem_append_left _ hy,h1,h2⟩
   simp only [e]
 have cr:i=ps.length:=by have:=oF h;omega
 rw [cr,<-Z,List.take_length]at ao;have o:GrN (λk=>k=U) w2 w6:=(GrN.ext aa).trans af;have a1:Ext wF w6:=o.old a2 λk C=>by rw [C];exact br
 have ba:GrN (λk=>(Value.slice VA n cv).ownBlock=some k) w w2:=(GrN.ext O).trans (GrN.by s5 λk C=>C);have a5:GrN (λk=>(Value.slice VA n cv).ownBlock=some k) w w6:=((ba.mono λk _ C=>(.inl C:(Value.slice VA n cv).ownBlock=some k∨k=U)).trans (o.mono λk _ C=>.inr C)).mono λk C h=>h.elim id λe=>by omega
 refine ρ ?_;refine Gb ⟨rfl,.map (some U),⟨a1,Jc ah o b7,Jr s3 o λg eg e=>(by have:=(ai g eg).2;omega),Jr aw o λg eg e=>(by have:=(bf g eg).2;omega)⟩,a5,U,m,fm,rfl,by have:=hF.rlen v hv;omega,⟨c4,?_⟩,ao,b8⟩;intro h';have:=hARl U h';omega
end Go.Proofs.YtebcagekopgdhaaGreatDoor
namespace Go.Wk
open Go.RowKit
variable {cs xs:List Value}{base c e m n q ty:Nat}{A:Option Addr}{P:Program}{w:World}
theorem Qfw{sz:Nat}(ho:w.ownsRow base e sz (.slice A m c) m xs)(hj:q+cs.length<=m*sz)(h0:0<cs.length)(h1:∀ u∈cs,u.oneCell'=true):
  ∃ w',(storeCells (adr A q) cs).run P w=.ok () w'/\w'.ownsRow base e sz (.slice A m c) m (xs.take q++cs++xs.drop (q+cs.length))/\w.grownBy w' (Value.slice A m c).ownBlock:=by
 rcases ho.2 with ⟨hn,J⟩|⟨g,cap,cur,hv,hb,hg,hc,hcm,hcs,ht⟩
 .rw [J,Nat.zero_mul]at hj;omega
 injection hv with G _ e3
 subst G;subst e3;have O:m*sz<=c*sz:=nO _ hc;have U:adr (some ⟨g,0,none⟩) q=⟨g,q,none⟩:=by simp [adr,Vo]
 rw [U];have o:=run_storeCells_at (P:=P) g q e cs 0 cur w hg om h1;simp only [Nat.add_zero]at o;refine ⟨_,o,⟨?_,.inr ⟨g,c,_,rfl,hb,setRow_heap w g cur _ e (0,0) hg,hc,hcm,?_,?_⟩⟩,?_⟩
 .have:=ho.1;simp only [List.length_append,List.length_take,List.length_drop];omega
 .simp only [List.size_toArray,List.length_append,List.length_take,List.length_drop,Array.length_toList,hcs];omega
 .simp only;have C:(cur.toList.take q++cs).length=q+cs.length:=by rw [List.length_append,List.length_take,Array.length_toList,hcs];omega
  rw [List.take_append,C];have G:(cur.toList.take q++cs).take (m*sz)=cur.toList.take q++cs:=List.take_of_length_le om;rw [G,<-ht,List.take_take,Nat.min_eq_left om,List.drop_take]
 .exact Jjh w g (cur.toList.take q++cs++cur.toList.drop (q+cs.length)).toArray
theorem stoG{al:AL}{Q:Exit->Act->World->Prop}{ops:Array Oper}{rest:List Oper}{pos:String}{aft:Array Edge}{tt:TT}[h:Tab P tt]{x y:Operand}{t sz:Nat}{k:TK}(ho:w.ownsRow base e sz (.slice A m c) m xs)(hj:q+cs.length<=m*sz)(h0:0<cs.length)(kk:∀ w1,w1.ownsRow base e sz (.slice A m c) m (xs.take q++cs++xs.drop (q+cs.length))->w.grownBy w1 (Value.slice A m c).ownBlock->WL P n ops Q rest al w1)(h1:∀ u∈cs,u.oneCell'=true)(ht:tk tt t=some k:=by rfl)(hk:k.desc=.invalid:=by rfl)(hs:k.size=cs.length:=by rfl)(hx:ev al x=some (.pointer (some (adr A q))):=by rfl)(hy:ev al y=some (.agg cs.toArray):=by rfl):
  WL P n ops Q (⟨none,.store t x y,ty,pos,aft,none⟩::rest) al w:=by
 obtain ⟨w',C,G,J⟩:=Qfw (P:=P) ho hj h0 h1;refine Iz (λa O=>?_) (kk w' G J);have o:=Vk w (Jql h.ok ht hk w).2;simp [execOp,O.ev hx,O.ev hy,Instr.storeAt,Instr.sureAddr,storeVar,Value.cells,o,hs,C]
end Go.Wk
namespace Go.Proofs.YtebcagekopgdhaaGreatDoor
open Go.RowKit Pl Go.Wk
attribute [local irreducible] WC WL QX WD WDB WP WN WG
variable {d:Bool}{N:Nat->Prop}{v:Value}{w w':World}
abbrev BkT:= Row×Tr
def BkE(d:Bool)(N:Nat->Prop)(w:World)(cs:List Value)(b:BkT): Prop:=∃ kv q,cs=[kv,.bool d,q]/\RowX w N kv b.1/\TrV N w b.2 q
theorem RowX.gr{r:Row}(h:RowX w N v r)(hg:GrN N w w'): RowX w' N v r:=by
 obtain ⟨A,c,J,G,C,u,o⟩:=h;exact ⟨A,c,J,G,C,Vv u hg λh0 U e=>o (λO=>by rw [O]at h0;simp [Jd]at h0) U e,o⟩
theorem BkE.gr{d:Bool}{N:Nat->Prop}{w w':World}{cs:List Value}{b:BkT}(h:BkE d N w cs b)(hg:GrN N w w'): BkE d N w' cs b:=by
 obtain ⟨kv,q,C,u,o⟩:=h;exact ⟨kv,q,C,u.gr hg,o.gr hg⟩
theorem BkE.ext{d:Bool}{N:Nat->Prop}{w w':World}{cs:List Value}{b:BkT}(h:BkE d N w cs b)(hx:Ext w w'): BkE d N w' cs b:=h.gr (GrN.ext hx)
theorem BkE.old{d:Bool}{N N':Nat->Prop}{w:World}{cs:List Value}{b:BkT}(h:BkE d N w cs b)(hs:∀ k,N' k->N k∨w.heap.size<=k): BkE d N' w cs b:=by
 obtain ⟨kv,q,C,u,o⟩:=h;exact ⟨kv,q,C,u.mono λk G h=>(hs k h).elim id λJ=>om,o.old hs⟩
structure OwnB(d:Bool)(base:Nat)(w:World)(v:Value)(ps:List (List Value×BkT)): Prop where
 own:w.ownsRow base 140 3 v ps.length (Qj ps)
 el:∀ p∈ps,BkE d (Qs base v) w p.1 p.2
theorem BkE.len{cs:List Value}{b:BkT}(h:BkE d N w cs b): cs.length=3:=by
 obtain ⟨kv,q,rfl,_⟩:=h;rfl
theorem OwnB.nil(d:Bool)(base:Nat)(w:World): OwnB d base w (.slice none 0 0) []:=⟨Xo _ _ _ _,λp o=>by cases o⟩
theorem OwnB.form{base:Nat}{ps:List (List Value×BkT)}(h:OwnB d base w v ps): ∃ A c,v=.slice A ps.length c/\ps.length<=c/\∀ g,v.ownBlock=some g->base<=g/\g<w.heap.size:=Jv h.own
theorem OwnB.gr{d:Bool}{base:Nat}{w w':World}{v:Value}{ps:List (List Value×BkT)}(h:OwnB d base w v ps){N:Nat->Prop}(hg:GrN N w w')(hN:∀ k,N k->k<base): OwnB d base w' v ps:=by
 obtain ⟨_,_,_,_,C⟩:=h.form;exact ⟨Jr h.own hg (λg G hn=>by have:=(C g G).1;have:=hN g hn;omega),λp o=>(h.el p o).gr (hg.mono λk _ u=>.inl (hN k u))⟩
theorem OwnB.ext{d:Bool}{base:Nat}{w w':World}{v:Value}{ps:List (List Value×BkT)}(h:OwnB d base w v ps)(hx:Ext w w'): OwnB d base w' v ps:=h.gr (N:=λ_=>False) (GrN.ext hx) λk e=>e.elim
theorem BkE.one{d:Bool}{N:Nat->Prop}{w:World}{cs:List Value}{b:BkT}(h:BkE d N w cs b): ∀ u∈cs,u.oneCell'=true:=by
 obtain ⟨kv,q,rfl,G,C⟩:=h;obtain ⟨p,rfl⟩:=C.ptr;intro u o;simp only [List.mem_cons,List.not_mem_nil,or_false]at o;rcases o with rfl|rfl|rfl
 .exact G.v.one
 .rfl
 .rfl
theorem EBk: ElT Tryz.prog 134 140 3 40 (.agg #[.slice none 0 0,.bool false,.pointer none]):=⟨Tryz.underlying134,info_parts kr,rfl,by decide⟩
open Go.RowKit Pl Go.Wk
variable {d dir:Bool}{ps:List (List Value×BkT)}{bs i:List (Row×Tr)}{b base m n ty:Nat}{x:Row}{wt:Row->Nat}
theorem apB{al:AL}{w:World}{Q:Exit->Act->World->Prop}{ops:Array Oper}{rest:List Oper}{d:Nat}{pos:String}{aft:Array Edge}{x y:Operand}{v:Value}{cs:List Value}{bt:BkT}(ho:OwnB dir base w v ps)(hb:Blk w b 140 cs)(hΦ:BkE dir (Qs base v) w cs bt)(hm:ps.length<=1000000)(hbase:base<=w.heap.size)(kk:∀ v' w',OwnB dir base w' v' (ps++[(cs,bt)])->w.grownBy w' v.ownBlock->WL Tryz.prog n ops Q rest ((d,v')::al) w')(hx:ev al x=some v:=by rfl)(hy:ev al y=some (.slice (some ⟨b,0,none⟩) 1 1):=by rfl)(hd:Nat.blt d n=true:=by rfl):
  WL Tryz.prog n ops Q (⟨some d,.call { callee:=.builtin .append,args:=#[x,y],argTypes:=#[134,134] },ty,pos,aft,none⟩::rest) al w:=by
 refine apb (m':=1) (news:=cs) EBk ho.own (hb.rd (n:=1) (by rw [hΦ.len])) hΦ.one (by unfold maxLen;omega) om hbase ?_ hx hy hd;intro v' w' C G hn;refine kk v' w' ⟨?_,?_⟩ G
 .rw [List.length_append,List.length_singleton];have e:Qj (ps++[(cs,bt)])=Qj ps++cs:=by simp [Qj]
  rw [e];exact C
 .have key:∀ p:List Value×BkT,BkE dir (Qs base v) w p.1 p.2->BkE dir (Qs base v') w' p.1 p.2:=λp u=>by
   have O:BkE dir (λk=>Qs base v k∨Qs base v' k) w p.1 p.2:=u.old λk o=>by
    rcases o with h|h|h
    .exact .inl h
    .exact .inl (.inl h)
    .rcases hn k h with h'|h'
     .exact .inl (.inr h')
     .exact .inr h'
   exact (O.gr (GrN.by G λk o=>.inl (.inr o))).old λk o=>.inl (.inr o)
  intro p J;rcases List.mem_append.1 J with u|u
  .exact key p (ho.el p u)
  .rw [List.mem_singleton.1 u];exact key (cs,bt) hΦ
theorem Qng(hl:∀ p∈ps,p.1.length=3)(kv x1 x2 y1 y2:Value)(b b':BkT):
  (Qj (ps++[([kv,x1,x2],b)])).take (ps.length*3+1)++[y1,y2]++(Qj (ps++[([kv,x1,x2],b)])).drop (ps.length*3+1+2)=Qj (ps++[([kv,y1,y2],b')]):=by
 have e:∀ z:List Value×BkT,Qj (ps++[z])=Qj ps++z.1:=λz=>by simp [Qj]
 have C:=Jgc hl;rw [e,e,<-C];simp only;have u:(Qj ps++[kv,x1,x2]).take ((Qj ps).length+1)=Qj ps++[kv]:=by
  rw [List.take_append,List.take_of_length_le om,Nat.add_sub_cancel_left];rfl
 have o:(Qj ps++[kv,x1,x2]).drop ((Qj ps).length+1+2)=[]:=List.drop_of_length_le (by simp);rw [u,o];simp
theorem Qbl(h0:wt x≠0)(h1:¬ (bs.getLast?.map (·.1))=some (x.take m)): Pl.stepG d wt m bs x=bs++[(x.take m,Tr.put d (x.getD m V0) (wt x) .nil)]:=by
 rw [Pl.stepG,if_neg h0,if_neg h1]
theorem Qbm{t:Tr}(h0:wt x≠0): Pl.stepG d wt m (i++[(x.take m,t)]) x=i++[(x.take m,Tr.put d (x.getD m V0) (wt x) t)]:=by
 rw [Pl.stepG,if_neg h0,if_pos (by simp)];simp
theorem Qbk(h0:wt x=0): Pl.stepG d wt m bs x=bs:=by rw [Pl.stepG,if_pos h0]
def Vq(d:Bool)(wt:Row->Nat)(m:Nat)(rs:List Row): List BkT:=rs.foldl (Pl.stepG d wt m) []
theorem Jyk(d:Bool)(wt:Row->Nat)(m:Nat)(rs:List Row)(x:Row): Vq d wt m (rs++[x])=Pl.stepG d wt m (Vq d wt m rs) x:=by
 unfold Vq;rw [List.foldl_append];rfl
theorem Jkl{rs:List Row}(hs:Lt [] rs)(hl:∀ y∈rs,y.length=m+1): GInv d wt m rs (Vq d wt m rs):=by
 suffices h:∀ k,k<=rs.length->GInv d wt m (rs.take k) (Vq d wt m (rs.take k)) by
  have:=h rs.length (Nat.le_refl _);rw [List.take_length]at this;exact this
 intro k;induction k with
 | zero=>intro _;exact GInv.nil d wt m
 | succ k ih=>
  intro u;have e:=Qy [] (show k<rs.length by omega);rw [e,Jyk];refine (ih om).step ?_ ?_
  .rw [<-e];exact hs.sublist (List.take_sublist _ _)
  .rw [<-e];exact λy o=>hl y (List.mem_of_mem_take o)
def Ud(bs:List BkT)(k:Row): Nat:=match bs.find? λb=>decide (b.1=k) with
 | some b=>b.2.sum
 | none=>0
theorem Jcd(bs:List BkT)(k:Row): Ud bs k=tot (entK bs k):=by
 unfold Ud entK;cases bs.find? λb=>decide (b.1=k) with
 | some b=>exact Tr.sum_eq _
 | none=>rfl
end Go.Proofs.YtebcagekopgdhaaGreatDoor
namespace Go.Wk
variable {d n t ty:Nat}
theorem dalc'{P:Program}{al:AL}{w:World}{Q:Exit->Act->World->Prop}{ops:Array Oper}{drest:List (Nat×Oper)}{pos:String}{aft:Array Edge}{z:Value}{cs:List Value}(hz:Qu P t=some z)(kk:∀ w1 b,Ext w w1->w.heap.size<=b->Blk w1 b t cs->WD P n ops Q drest ((d,.pointer (some ⟨b,0,none⟩))::al) w1)(hv:z.cells=cs.toArray:=by rfl)(hd:Nat.blt d n=true:=by rfl):
  WD P n ops Q ((1,⟨some d,.alloc t,ty,pos,aft,none⟩)::drest) al w:=Up (alc hz (λw1 b o C u=>Jh (Un o (kk w1 b o C u))) hv hd)
end Go.Wk
namespace Go.Proofs.YtebcagekopgdhaaGreatDoor
open Go.RowKit Pl Go.Wk
attribute [local irreducible] WC WL QX WD WDB WP WN WG
variable {d:Bool}{S e k m n:Nat}{AR N:Nat->Prop}{Av Pv v vR:Value}{w wF:World}
theorem Qzg(kv:Value)(A:Option Addr)(n c:Nat)(d:Bool)(p:Option Addr)(h:kv=.slice A n c)(w:World): (Instr.build 140 #[(0,kv),(1,.agg #[.bool d,.pointer p])]).run Tryz.prog w=.ok (.agg [kv,.bool d,.pointer p].toArray) w:=by subst h;kernel_rfl
theorem Qxx(kv:Value)(A:Option Addr)(n c:Nat)(d:Bool)(p:Option Addr)(h:kv=.slice A n c)(w:World): (Instr.buildSlice 134 1 #[(0,.agg [kv,.bool d,.pointer p].toArray)]).run Tryz.prog w=.ok (.slice (some ⟨w.heap.size,0,none⟩) 1 1) (w.alloc (.cells [kv,.bool d,.pointer p].toArray 140)):=by subst h;kernel_rfl
def DnB(AR:Nat->Prop)(d:Bool)(w:World)(x:Value)(bs:List BkT): Prop:=∃ (ps:List (List Value×BkT)) (A:Option Addr) (c:Nat),bs=ps.map (·.2)/\x=.slice A ps.length c/\ps.length<=c/\ps.length<=65536/\Rd w 3 A ps.length (Qj ps)/\(0<ps.length->∀ ad,A=some ad->¬ AR ad.block)/\∀ p∈ps,p.1.length=3/\BkE d AR w p.1 p.2
theorem DnB.gr{AR:Nat->Prop}{d:Bool}{w w':World}{x:Value}{bs:List BkT}(h:DnB AR d w x bs)(hg:GrN AR w w'): DnB AR d w' x bs:=by
 obtain ⟨ps,A,c,Z,U,O,J,G,C,u⟩:=h;refine ⟨ps,A,c,Z,U,O,J,Vv G hg λh0 ad e=>C ?_ ad e,C,λp o=>⟨(u p o).1,(u p o).2.gr hg⟩⟩;have:=G.1;omega
theorem Nb.big(hS:S<=4294967296^e)(he:e<=800)(hk:k<=4294967296)(hn:n<=k*S): Nb n:=by
 have o:k*S<=4294967296^(e+1):=by
  rw [Nat.pow_succ,Nat.mul_comm];exact Nat.mul_le_mul hS hk
 exact Nat.lt_of_le_of_lt (nL hn o) (Nat.pow_lt_pow_right (by decide) (by rw [Jhh];omega))
theorem Jpm(x:Row)(h:m<=x.length): (Jd x).take (m*3)=Jd (x.take m):=by
 have e:Jd x=Jd (x.take m)++Jd (x.drop m):=by rw [<-rowC_app',List.take_append_drop]
 rw [e];refine List.take_left' ?_;rw [Jdc,List.length_take,Nat.min_eq_left h]
theorem Jmr{p:Value}{t:Tr}(h:TrV N w t p)(hn:Nb t.sum): Ret Tryz.prog 114 [.agg #[.bool d,p]] w λu w'=>NatV w' u t.sum/\Fresh w u/\Ext w w':=by
 obtain ⟨q,rfl⟩:=h.ptr;refine Jz Tryz.func114 Tryz.ntmps114 rfl kr rfl ?_;refine ρ ?_;refine bx ?_;intro w1 b o hb U;refine ρ ?_;refine ld (U.at (i:=1) rfl) ?_;refine ρ ?_;refine cl (Jqj (h.ext o)) ?_;rintro u w2 ⟨O,rfl⟩;refine ρ ?_;refine cl (Jdr O.1 hn.len) ?_;rintro u3 w3 ⟨G,J,C⟩;refine ρ ?_;exact Jj ⟨G,λZ m c e=>nL o.size (J Z m c e),o.trans C⟩
theorem Jbm: Qu Tryz.prog 140=some (.agg #[.slice none 0 0,.bool false,.pointer none]):=kr
theorem Jvv{p:Option Addr}(h:v.oneCell'=true): ∀ u∈[v,.bool d,.pointer p],u.oneCell'=true:=λu o=>by
 simp only [List.mem_cons,List.not_mem_nil,or_false]at o;rcases o with rfl|rfl|rfl
 .exact h
 .rfl
 .rfl
theorem Qym(bs:List BkT)(b:BkT)(k:Row)(h:b.1 ∉ bs.map (·.1)): Ud (bs++[b]) k=if b.1=k then b.2.sum else Ud bs k:=by
 unfold Ud;rw [List.find?_append];by_cases e:b.1=k
 .rw [if_pos e];have:bs.find? (λc=>decide (c.1=k))=none:=List.find?_eq_none.2 λc o u=>h (by rw [e];exact List.mem_map.2 ⟨c,o,by simpa using u⟩);rw [this];simp [e]
 .rw [if_neg e];cases hf:bs.find? (λc=>decide (c.1=k)) with
  | some c=>simp
  | none=>simp [e]
theorem Qyk{wt:Row->Nat}{rs:List Row}{bs:List BkT}(h:GInv d wt m rs bs){b:BkT}(hb:b∈bs): 0<b.2.sum:=by
 obtain ⟨G,C⟩:=h.con b hb;rw [Tr.sum_eq,G,Jys];exact (Qyh λp o=>by obtain ⟨x,_,_,_,_,u⟩:=entL_mem.1 o;exact u).2 C
theorem Qmx{B0 f b v cb cv ct ck dc:Nat}{kf:Nat->Nat}{pf:Nat->Int}{R:Nat->List Row}{BA VA TA KA DA:Option Addr}{va ta ba:List Value}{ds:List Bool}{T:Nat->Row->Nat}(hF:FixW B0 n f kf pf R vR BA wF)(hds:ds.length=f)(hD:RdB wF DA ds)(hW:BldW wF b n (bCs n f (.slice DA f dc) Pv Av BA cb vR VA cv TA ct (.slice KA f ck)) VA cv TA ct w va ta)(hBa:w.ownsRow wF.heap.size 134 1 (.slice KA f ck) f ba)(hvf:v<f)(hm:0<(bk (kf v ||| 2^v) 32).length)(hval:∀ x∈R v,Qa (x.getD ((bk (kf v ||| 2^v) 32).length-1) V0)=true)(hlt:Lt [] (R v))(hdv:∀ c,c<n->pf c=(v:Int)->f<=c->DnV AR (T c) w (va.getD c (.map none)))(hdt:∀ c,c<n->pf c=(v:Int)->c<f->DnT AR (T c) w (ta.getD c (.map none)))(hT1:∀ c,f<=c->∀ k,T c k<=1)(hTb:∀ c k,T c k<=4294967296^20)(hAR:∀ k,ARk n f VA cv TA ct (.slice KA f ck) k->AR k)(hARl:∀ k,AR k->k<w.heap.size):
  Ret Tryz.prog 84 [.pointer (some ⟨b,0,none⟩),.int .i64 (v:Int)] w λu w'=>u=.int .i64 0/\∃ mv lv,BldW wF b n (bCs n f (.slice DA f dc) Pv Av BA cb vR VA cv TA ct (.slice KA f ck)) VA cv TA ct w' va (ta.set v mv)/\w'.ownsRow wF.heap.size 134 1 (.slice KA f ck) f (ba.set v lv) /\
   GrN AR w w'/\DnT AR (Ud (Vq (ds.getD v false) (λx=>wtL T x (chK kf pf v n)) ((bk (kf v ||| 2^v) 32).length-1) (R v))) w' mv /\
   DnB AR (ds.getD v false) w' lv (Vq (ds.getD v false) (λx=>wtL T x (chK kf pf v n)) ((bk (kf v ||| 2^v) 32).length-1) (R v)):=by
 obtain ⟨eb,hB,ff,aq⟩:=hW;have er:=hF.n32;have j6:=hF.fn;have hv:v<n:=om
 have hr:Rd wF 1 DA f (ds.map Value.bool):=hds ▸ hD;refine Jz Tryz.func84 Tryz.ntmps84 rfl kr rfl ?_;refine ρ ?_;refine ld (hB.at (i:=8) rfl) ?_;refine ρ ?_;refine mkm 9 ?_;intro w1 mb a3 gs hM;obtain ⟨s1,s2,s3,s4,s5⟩:=Zv (Jk aq a3) (q:=v) om (.map (some mb));have iv:ta.length=n:=by have:=aq.1;omega
 refine ρ ?_;refine ix v (Rd.own (Jk aq a3)) om ?_;refine ρ ?_;refine sto (s1.trans (show ta[v]?=some (ta.getD v (.map none)) by simp [List.getD,List.getElem?_eq_getElem (show v<ta.length by omega)])) s2 ?_;refine ρ ?_;obtain ⟨w2,ej⟩:∃ w2,w2=w1.setCell (adr TA v) (.map (some mb)):=⟨_,rfl⟩;rw [<-ej]at s3 s5 ⊢;clear ej;have ga:∀ g,(Value.slice VA n cv).ownBlock=some g->wF.heap.size<=g/\g<w.heap.size:=(Jv ff).choose_spec.choose_spec.2.2;have cz:∀ g,(Value.slice TA n ct).ownBlock=some g->wF.heap.size<=g/\g<w.heap.size:=(Jv aq).choose_spec.choose_spec.2.2;have e2:∀ g,(Value.slice KA f ck).ownBlock=some g->wF.heap.size<=g/\g<w.heap.size:=(Jv hBa).choose_spec.choose_spec.2.2;have i7:=a3.size;have ie:=hM.lt;have dq:Blk w2 b 157 _:=(hB.ext a3).grown s5 ((hB.ext a3).ne_own (Jk aq a3) rfl);have cq:w2.ownsRow wF.heap.size 205 1 (.slice VA n cv) n va:=Zj (Jk ff a3) (Jk aq a3) s5 rfl
 have fu:w2.ownsRow wF.heap.size 134 1 (.slice KA f ck) f ba:=Zj (Jk hBa a3) (Jk aq a3) s5 rfl;have fq:MapS Tryz.prog 9 w2 mb 0 (λ_=>none):=hM.kept s5 (λe=>by have:=(cz mb e.symm).2;omega);have f6:GrN AR w w2:=(GrN.ext a3).trans (GrN.by s5 λk C=>hAR k (.inr (.inl C)));have ag:Ext wF w2:=Qb (eb.trans a3) s5 λk C=>(cz k C).1;have gt:wF.heap.size<=mb:=nL eb.size gs;have ic:=fq.lt;obtain ⟨RA,rc,ip,g1,gk,gj,fj,ha⟩:=hF.rels.parts;rw [List.length_map,List.length_range]at g1 gk gj fj;obtain ⟨re,i8,⟨t,i3,du⟩,c2⟩:=ha v (by simpa using hv);subst i3;simp only [List.getElem_map,List.getElem_range]at du;obtain ⟨⟨PA,pc,g4,j0,iz,iy⟩,g3,g8⟩:=id du;obtain ⟨t1,t2,t3⟩:=t;simp only [Vf]at g4 g3;subst g4;subst g3;have ep:(nz (bk (kf v ||| 2^v) 32)).length=(bk (kf v ||| 2^v) 32).length:=Qq _;subst g1;refine cl (Qxh (R:=R) dq rfl rfl (hF.bags.ext ag) (hF.rels.ext ag λcs a h=>Jhj h ag) er hv hF.kb) ?_
 rintro vl w3 ⟨ho,d5⟩;have b8:=ag.trans d5;have hx:=dq.ext d5;have d9:∀ j u,([.int .i64 ((bk (kf v ||| 2^v) 32).length:Int),t3]:List Value)[j]?=some u->w3.cell? (((adr RA (v*3)).add 1).add j)=some u:=λj u hu=>by
  have:=c2 (1+j) u (by rw [Nat.add_comm];exact hu);rw [Xg]at this;rw [Xg,Xg,Nat.add_assoc];exact Us b8 this
 refine ρ ?_;refine ld (hx.at (i:=6) rfl) ?_;refine ρ ?_;refine ixq 3 v (fj.ext b8) hv ?_;refine ρ ?_;refine lds (cs:=[.int .i64 ((bk (kf v ||| 2^v) 32).length:Int),t3]) d9 ?_;refine ρ ?_;refine cl (Jdf (ar:=(bk (kf v ||| 2^v) 32).length) (ls:=R v) ((du.ext b8).rel)) ?_;rintro ur w5 ⟨ee,c1⟩;obtain ⟨ps,GA,gc,dw,rfl,j4,ia,en,d8⟩:=c1;have dd:(R v).length=ps.length:=by rw [dw,List.length_map]
 have iw:=hF.rlen v hv;have a1:=d5.trans ee;have da:=en.here;have aw:∀ p∈ps,RowV w5 p.1 p.2:=λp hp=>(d8 p hp).here;have c5:=dq.ext a1;have au:=ag.trans a1;have hh:=ho.ext ee;have dm:=fq.ext a1;have em:∀ c,c≠v->(ta.set v (.map (some mb))).getD c (.map none)=ta.getD c (.map none):=λc hc=>by simp [List.getD,List.getElem?_set_ne (Ne.symm hc)]
 have gq:∀ c,c<n->pf c=(v:Int)->c≠v:=λc hc hp e=>hF.pn c hc (by rw [hp,e]);have cn:GrN AR w w5:=f6.trans (GrN.ext a1);have bm:=cn;obtain ⟨d,hd⟩:∃ d,d=ds.getD v false:=⟨_,rfl⟩;obtain ⟨m,c3⟩:∃ m,m=(bk (kf v ||| 2^v) 32).length-1:=⟨_,rfl⟩;obtain ⟨wt,d6⟩:∃ wt:Row->Nat,wt=λx=>wtL T x (chK kf pf v n):=⟨_,rfl⟩;rw [<-hd,<-c3,<-d6];rw [<-c3]at hval;obtain ⟨S,hS⟩:∃ S:Nat,S=(4294967296^20)^32:=⟨_,rfl⟩;obtain ⟨e,he,fh⟩:∃ e,e<=800/\S<=4294967296^e:=⟨20*32,om,by rw [hS,<-Nat.pow_mul];exact Nat.le_refl _⟩;have ef:∀ x,wt x<=S:=λx=>by
  rw [d6,hS];refine nL (Jbp λp hp=>hTb _ _) (Nat.pow_le_pow_right (Nat.pow_pos (by decide)) ?_);have:=Jxw kf pf v n;omega
 refine ρ ?_;refine Ja (fun (i:Nat) (vb:Value)=>[(0,.pointer (some ⟨b,0,none⟩)),(1,.int .i64 (v:Int)),(5,vl),(6,vb),(34,.slice GA ps.length gc),(35,.int .i64 (ps.length:Int)),(36,.int .i64 (i:Int))])
  (λi vb w'=>i<=ps.length/\Ext w5 w'/\∃ J,OwnB d w5.heap.size w' vb J/\J.map (·.2)=Vq d wt m ((R v).take i)/\J.length<=i/\∀ q∈J,q.2.2.sum<=i*S/\q.2.2.sz<=i) (λi _=>ps.length-i) 0 (.slice none 0 0) sB
  ⟨Nat.zero_le _,Ext.refl _,[],OwnB.nil _ _ _,rfl,Nat.le_refl _,λq hq=>by cases hq⟩ ?_
 clear hS;rintro i vb w6 ⟨hi,G,J,am,ab,gl,b4⟩;obtain ⟨LA,lc,rfl,gu,ao⟩:=am.form;refine ρ ?_;refine ci (λh=>?_) (λh=>?_)
 .have li:i<ps.length:=by have:=oT h;omega
  clear h;obtain ⟨x,bw⟩:∃ x,x=(ps.getD i z0).2:=⟨_,rfl⟩;have e6:x∈R v:=by rw [dw,bw];exact List.mem_map_of_mem (getD_mem' z0 ps li)
  have gf:(R v).getD i []=x:=by rw [dw,bw];simp [List.getD,List.getElem?_eq_getElem li]
  obtain ⟨e7,d0⟩:=hF.rows v hv x e6;have bf:RowV w6 (ps.getD i z0).1 x:=by rw [bw];exact (aw _ (getD_mem' z0 ps li)).ext G
  have cd:=da.ext G;have b7:=au.trans G;have cg:=cn.trans (GrN.ext G);have hf:GV 2 ChG w6 vl (chK kf pf v n):=(hh.ext G).gv (by have:=Jxw kf pf v n;omega);have c0:=Qy [] (show i<(R v).length by omega);rw [gf]at c0;refine ρ ?_;refine ix i cd li ?_;refine ρ ?_;refine ld (cd.cell (show (ps.map (·.1))[i]?=some (ps.getD i z0).1 by simp [List.getD,List.getElem?_eq_getElem li])) ?_
  refine ρ ?_;refine cl (Jlz (T:=T) (AR:=AR) (hF.tb.ext b7) (c5.ext G) rfl rfl rfl (Rd.own (Jk cq (a1.trans G))) (Rd.own (Jk s3 (a1.trans G))) hf (by have:=Jxw kf pf v n;omega) (λp hp=>?_) bf d0 (λp hp bh=>?_) (λp hp bh=>?_) (λp hp bh k=>hT1 _ bh k) (λp hp k=>hTb _ k)) ?_
  .obtain ⟨O,h2,h3⟩:=Jjf hp;refine ⟨O,λc hc=>?_⟩;rw [h3]at hc;rw [e7];exact Jxr hc
  .obtain ⟨O,h2,h3⟩:=Jjf hp;exact (hdv _ O h2 bh).gr cg
  .obtain ⟨O,h2,h3⟩:=Jjf hp;rw [em _ (gq _ O h2)];exact (hdt _ O h2 bh).gr cg
  rintro vw w7 ⟨d7,f7,b3⟩;have i2:wtL T x (chK kf pf v n)=wt x:=by rw [d6]
  rw [i2]at d7;obtain ⟨WA,wc,rfl,bd⟩:=Jfh d7;refine ρ ?_;refine ci (λh=>?_) (λh=>?_)
  .have h0:wt x=0:=by
    have:=Xl h;rcases Nat.eq_zero_or_pos (wt x) with h'|h'
    .exact h'
    .have:=bd.2 h';omega
   refine ρ ?_;refine Jl (i+1) _ sO ⟨li,G.trans b3,J,am.ext b3,?_,om,λq hq=>⟨?_,by have:=(b4 q hq).2;omega⟩⟩ om
   .rw [c0,Jyk,Qbk h0];exact ab
   .have:=(b4 q hq).1;rw [Nat.succ_mul];omega
  have h0:wt x≠0:=λe=>by (have:=Xm h;have O:¬ 0<(Jq (wt x)).length:=λh'=>by have:=bd.1 h';omega);(omega)
  clear h;obtain ⟨XA,xc,g0,iu,i5,gg⟩:=id bf;have j1:x.length=m+1:=by rw [e7,c3];omega
  rw [g0];have df:RdR w7 XA (x.take m):=by
   have O:=(Rd.ext gg b3).take (m:=m) om;have h2:(Jd x).take (m*3)=Jd (x.take m):=Jpm x om;rw [h2]at O;have h3:(x.take m).length=m:=by rw [List.length_take];omega
   unfold RdR;rw [h3];exact O
  have bj:RowV w7 (.slice XA m xc) (x.take m):=⟨XA,xc,by rw [List.length_take,Nat.min_eq_left om],by rw [List.length_take];omega,by rw [List.length_take];omega,df⟩;have cc:=G.trans b3;have ak:=am.ext b3;refine ρ ?_;refine slh m ?_;refine ρ ?_;refine Jlt (fun (bb:Bool) (_:Unit)=>[(66,.bool bb),(0,.pointer (some ⟨b,0,none⟩)),(1,.int .i64 (v:Int)),(5,vl),(6,.slice LA J.length lc),(8,.slice XA x.length xc),(9,.slice WA (Jq (wt x)).length wc),(10,.slice XA m xc),(34,.slice GA ps.length gc),(35,.int .i64 (ps.length:Int)),(36,.int .i64 (i:Int))])
   (λbb _ w'=>Ext w7 w'/\(bb=true↔¬ (J.getLast?.map (·.2.1))=some (x.take m))) ?_ ?_
  .refine ki 55 (λh=>?_) (λh=>?_)
   .have gm:J=[]:=List.eq_nil_of_length_eq_zero (by have:=Xl h;omega);refine ρ ?_;refine Za true () sB ⟨Ext.refl _,?_⟩;rw [gm];simp
   .have db:J≠[]:=λe=>by have:=Xm h;rw [e]at this;simp at this
    obtain ⟨o,z,ez,dv,_⟩:=Jym db;have af:z∈J:=by rw [ez];simp
    obtain ⟨kv,zq,b5,bv,b6⟩:=ak.el z af;have i9:J.length=o.length+1:=by rw [ez];simp
    have gb:(Qj J)[(o.length)*3+0]?=some kv:=by
     rw [Ke (p:=z) (λp hp=>(ak.el p hp).len) (by rw [ez];simp) om,b5];rfl
    have eo:=Rd.own ak.own;refine ρ ?_;refine ixq 3 o.length eo om ?_;refine ρ ?_;refine ld (by have:=eo.cell gb;rw [<-Xg]at this;exact this) ?_;refine ρ ?_;refine cl (Jpk bv.v bj) ?_;rintro u w8 ⟨rfl,d1⟩;refine ρ ?_;refine Za (!decide (z.2.1=x.take m)) () sB ⟨d1,?_⟩;rw [dv];simp
  rintro bb _ w8 ⟨a6,fa⟩;refine Xa (λs:((List (List Value×BkT))×Value×Option Addr×Tr)×Value=>[(0,.pointer (some ⟨b,0,none⟩)),(1,.int .i64 (v:Int)),(5,vl),(6,s.2),(8,.slice XA x.length xc),(9,.slice WA (Jq (wt x)).length wc),(10,.slice XA m xc),(34,.slice GA ps.length gc),(35,.int .i64 (ps.length:Int)),(36,.int .i64 (i:Int))])
   (λs w'=>Ext w5 w'/\GrN (λk=>Qs w5.heap.size (.slice LA J.length lc) k/\w5.heap.size<=k) w7 w'/\OwnB d w5.heap.size w' s.2 (s.1.1++[([s.1.2.1,.bool d,.pointer s.1.2.2.1],(x.take m,s.1.2.2.2))])/\Vq d wt m ((R v).take (i+1))=s.1.1.map (·.2)++[(x.take m,Tr.put d (x.getD m V0) (wt x) s.1.2.2.2)]/\s.1.1.length<=i/\s.1.2.2.2.sum<=i*S/\s.1.2.2.2.sz<=i/\∀ q∈s.1.1,q.2.2.sum<=i*S/\q.2.2.sz<=i) ?_ ?_
  .have bq:=ak.ext a6;refine ci (λh=>?_) (λh=>?_)
   .have ep:=fa.1 h;have a8:=cc.trans a6;have a4:Ext w8 w8.drew:=(Ext.refl w8).drew;have hs:=(c5.ext a8).ext a4;have ea:=(au.trans a8).trans a4;have h8:¬ w5.heap.size<=b:=by have:=c5.lt;omega
    refine ρ ?_;refine drN (λk=>w5.heap.size<=k) 10 [(0,0),(0,1),(0,3),(0,4),(0,5),(0,6),(0,7),(0,8),(0,9),(0,10),(1,2),(1,11),(0,12),(1,13),(1,14),(0,15)] kr ?_;refine ρn ?_;refine nld (Jm (hs.at (i:=2) rfl) h8) ?_;refine ρn ?_;refine nix v (Rd.ext hr ea) om ?_;refine ρn ?_;refine nld (λw' hg=>Us (au.trans (hg.old (a8.trans a4) λk C=>C)) (RdB.cell hD (show v<ds.length by omega))) ?_;refine ρn ?_;refine nop ?_;refine cl (Jxt ((bj.ext a6).ext a4) (Qs w5.heap.size (.slice LA J.length lc)) λk C=>?_) ?_
    .rcases C with h'|h'
     .exact nM h' (a8.trans a4).size
     .exact nM (ao k h').2 ((b3.trans a6).trans a4).size
    rintro kv w9 ⟨ex,bz⟩;obtain ⟨an,ae,rfl,_⟩:=id ex;refine ρ ?_;refine Js (GrN.ext bz) ?_;refine ρn ?_;refine nop ?_;refine cl Qgt ?_;rintro u g9 ⟨rfl,a2⟩;refine ρ ?_;refine Js (GrN.ext a2) ?_;rw [<-hd];refine ρn ?_;refine Jjc (Qzg _ an _ ae d none rfl) ?_;refine ρn ?_;refine nop ?_;refine bsl (Qxx _ an _ ae d none rfl) ?_;intro bu j8 a9 ik fz;refine ρ ?_;refine Js (GrN.ext a9) ?_;refine ρn ?_;refine nop ?_;have av:Ext w8 bu:=((a4.trans bz).trans a2).trans a9;have eu:BkE d (Qs w5.heap.size (.slice LA J.length lc)) bu [.slice an (x.take m).length ae,.bool d,.pointer none] (x.take m,.nil):=⟨_,_,rfl,(ex.ext a2).ext a9,rfl⟩;refine apB (bq.ext av) fz eu om (a8.trans av).size ?_;intro dz bt fl ah;refine ρ ?_;refine Js (GrN.by ah λg eg=>(ao g eg).1) ?_;refine ρn ?_;refine ρ ?_;refine Jb ((J,.slice an (x.take m).length ae,none,.nil),dz) sB ⟨?_,?_,fl,?_,gl,by simp [Tr.sum],by simp [Tr.sz],b4⟩
    .exact Qb (a8.trans av) ah λg eg=>(ao g eg).1
    .exact (GrN.ext (a6.trans av)).trans (GrN.by ah λg eg=>⟨.inr eg,(ao g eg).1⟩)
    .rw [c0,Jyk,<-ab];exact Qbl h0 (by rw [List.getLast?_map];simpa [Option.map_map] using ep)
   .have hl:(J.getLast?.map (·.2.1))=some (x.take m):=Classical.byContradiction λh'=>by rw [fa.2 h']at h;cases h
    have db:J≠[]:=λe=>by rw [e]at hl;cases hl
    obtain ⟨o,z,ez,dv,_⟩:=Jym db;rw [dv]at hl;have e5:z.2.1=x.take m:=by simpa using hl
    have af:z∈J:=by rw [ez];simp
    obtain ⟨kv,zq,b5,bv,b6⟩:=bq.el z af;obtain ⟨zp,rfl⟩:=b6.ptr;obtain ⟨zc,zk,zt⟩:=z;simp only at b5 e5;subst b5;subst e5;have fd:=b4 _ af;refine ρ ?_;refine Jb ((o,kv,zp,zt),.slice LA J.length lc) sB ⟨cc.trans a6,GrN.ext a6,by rw [<-ez];exact bq,?_,?_,fd.1,fd.2,λq hq=>b4 q (by rw [ez];simp [hq])⟩
    .rw [c0,Jyk,<-ab,ez,List.map_append];exact Qbm h0
    .have:J.length=o.length+1:=by rw [ez];simp
     simp only;omega
  .rintro ⟨⟨o,kv,q,t⟩,dz⟩ w9 ⟨bc,f4,aj,f3,gy,gi,gh,f0⟩;simp only at aj f3 gy gi gh f0;obtain ⟨LB,lb,rfl,gw,ax⟩:=aj.form;have ac:(o++[([kv,.bool d,.pointer q],(x.take m,t))]).length=o.length+1:=by simp
   rw [ac]at gw ax ⊢;have ay:=aj.own;rw [ac]at ay;refine ρ ?_;refine ixq 3 o.length (Rd.own ay) om ?_;refine ρ ?_;have Z:Ext w9 w9.drew:=(Ext.refl w9).drew;have b9:=bc.trans Z;have im:=aj.ext Z;have dk:=Jk ay Z;have ge:RowV w9.drew (.slice XA x.length xc) x:=by
    have:=(aw _ (getD_mem' z0 ps li)).ext b9;rw [<-bw,g0]at this;exact this
   obtain ⟨j9,io,i1,_,_,c7⟩:=id ge;injection i1 with exx1 _ exx2
   subst exx1;subst exx2;have f9:BkE d (Qs w5.heap.size (.slice LB (o.length+1) lb)) w9 [kv,.bool d,.pointer q] (x.take m,t):=by
    have:=aj.el ([kv,.bool d,.pointer q],(x.take m,t)) (by simp);rw [ac]at this;exact this
   obtain ⟨ir,q',g7,eu,ek⟩:=id f9;simp only [List.cons.injEq,and_true,true_and]at g7;obtain ⟨g6,g5⟩:=g7;subst g6;subst g5;have de:∀ j u,([.bool d,.pointer q]:List Value)[j]?=some u->w9.drew.cell? (((adr LB (o.length*3)).add 1).add j)=some u:=λj u hu=>by
    have j3:j<2:=(List.getElem?_eq_some_iff.1 hu).1;have O:(Qj (o++[([kv,.bool d,.pointer q],(x.take m,t))]))[o.length*3+(1+j)]?=some u:=by
     rw [Ke (p:=([kv,.bool d,.pointer q],(x.take m,t))) (λp hp=>(aj.el p hp).len) (by simp) om,Nat.add_comm 1 j];exact hu
    have:=(Rd.own dk).cell O;rw [Xg,Xg,Nat.add_assoc];exact this
   have eh:NatV w9.drew (.slice WA (Jq (wt x)).length wc) (wt x):=by
    have O:NatX (λk=>Qs w5.heap.size (.slice LA J.length lc) k/\w5.heap.size<=k) w7 (.slice WA (Jq (wt x)).length wc) (wt x):=f7.x d7 λk C=>by
     rcases C.1 with h'|h'
     .have:=G.size;omega
     .exact (ao k h').2
    exact (O.gr f4).1.ext Z
   have be:Qa (x.getD m V0)=true:=hval x e6;have ce:Nb (t.sum+wt x):=Nb.big (k:=i+1) fh he om (by have:=ef x;rw [Nat.succ_mul];omega);have e0:t.sz+1<=1000000:=om
   have bi:∀ k,Qs w5.heap.size (.slice LB (o.length+1) lb) k->k<w9.heap.size:=λk C=>by
    rcases C with h'|h'
    .exact nM h' bc.size
    .exact (ax k h').2
   refine drH (λi=>Nat.ble 16 i) ?_;refine Zp (fuel':=7) 8 [(0,0),(0,1),(0,2),(0,3),(0,4),(0,5),(0,6),(0,7),(0,8),(0,9),(0,10)] #[true,true,true,true,true,true,true,true,true,true,true,false,false,false,false,false,false,false] kr kr rfl ?_;refine ρd ?_;refine Qz (cs:=[.bool d,.pointer q]) de ?_;refine ρd ?_;refine Kw 3 m c7 om ?_;refine ρd ?_;refine Qz (cs:=(x.getD m V0).cells) (λj u hu=>RdR.cell c7 om hu) ?_;refine ρd ?_;refine Xv ?_;refine hcut 2 (lst 18 16) (fun (y:Nat×Option Addr)=>[(12,.pointer (some ⟨y.1,0,none⟩)),(100,.agg #[.bool d,.pointer y.2]),(101,.int .i64 0),(0,.pointer (some ⟨b,0,none⟩)),(1,.int .i64 (v:Int)),(5,vl),(6,.slice LB (o.length+1) lb),(11,.pointer (some (adr LB (o.length*3)))),(34,.slice GA ps.length gc),(35,.int .i64 (ps.length:Int)),(36,.int .i64 (i:Int))])
    (λy W=>Ext w9.drew W/\Blk W y.1 138 [.bool false,.pointer none]/\w9.drew.heap.size<=y.1/\TrV (λk=>Qs w5.heap.size (.slice LB (o.length+1) lb) k∨k=y.1) W (Tr.put d (x.getD m V0) (wt x) t) (.pointer y.2)) ?_ ?_
   .rintro ⟨dx,p2⟩ W ⟨e9,fx,fb,fg⟩;simp only at fx fb fg;refine Zp (fuel':=0) 8 [(2,16),(2,17)] (lst 18 18) kr kr rfl ?_;refine Jo ?_;refine stW fx ?_;intro W2 fw cj i6;refine Jh (Qp ?_);refine Jo ?_;refine ρ ?_;refine Qp ?_;refine Vx (Xv ?_);refine hend kr ?_;refine ρ ?_;have d4:Ext w5 W:=b9.trans e9;have c9:Ext w9 W:=Z.trans e9;have ec:w9.heap.size<=dx:=nL Z.size fb;have ap:GrN (λk=>k=dx) W W2:=GrN.by cj λk C=>by injection C with C;exact C.symm
    have fk:W2.ownsRow w5.heap.size 140 3 (.slice LB (o.length+1) lb) (o.length+1) (Qj (o++[([kv,.bool d,.pointer q],(x.take m,t))])):=Jr (Jk ay c9) ap λg eg e=>by have:=(ax g eg).2;omega
    refine ρ ?_;refine ldW fw ?_;refine ρ ?_;refine Go.Wk.kv 108 (congrArg (λp=>Value.pointer (some p)) (Xg LB (o.length*3) 1)) ?_;refine stoG (q:=o.length*3+1) (cs:=[.bool d,.pointer p2]) fk (by simp;omega) (by simp) ?_ Qgc;intro W3 cw ch;have dg:∀ p∈o,p.1.length=3:=λp hp=>(aj.el p (by simp [hp])).len;have i4:=Qng dg kv (.bool d) (.pointer q) (.bool d) (.pointer p2) (x.take m,t) (x.take m,Tr.put d (x.getD m V0) (wt x) t);rw [show o.length*3+1+([Value.bool d,.pointer p2]:List Value).length=o.length*3+1+2 from rfl,i4]at cw;have d3:Ext w5 W2:=Qb d4 cj λk C=>by injection C with C;have:=bc.size;omega
    have d2:Ext w5 W3:=Qb d3 ch λk C=>(ax k C).1;have cm:GrN (λk=>Qs w5.heap.size (.slice LB (o.length+1) lb) k) W2 W3:=GrN.by ch λk C=>.inr C
    have co:∀ p:List Value×BkT,BkE d (Qs w5.heap.size (.slice LB (o.length+1) lb)) w9 p.1 p.2->BkE d (Qs w5.heap.size (.slice LB (o.length+1) lb)) W3 p.1 p.2:=λp hp=>by
     have O:BkE d (λk=>Qs w5.heap.size (.slice LB (o.length+1) lb) k∨k=dx) w9 p.1 p.2:=hp.old λk C=>C.imp id λe=>by rw [e];exact ec
     exact (((O.ext c9).gr (ap.mono λk _ C=>.inr C)).old λk C=>.inl (.inl C)).gr cm
    refine ρ ?_;refine Jl (i+1) (.slice LB (o.length+1) lb) sO ⟨li,d2,o++[([kv,.bool d,.pointer p2],(x.take m,Tr.put d (x.getD m V0) (wt x) t))],⟨?_,λp hp=>?_⟩,?_,by simp;omega,λp hp=>?_⟩ om
    .have:(o++[([kv,Value.bool d,.pointer p2],(x.take m,Tr.put d (x.getD m V0) (wt x) t))]).length=o.length+1:=by simp
     rw [this];exact cw
    .rcases List.mem_append.1 hp with O|O
     .have:=aj.el p (by simp [O]);rw [ac]at this;exact co p this
     .rw [List.mem_singleton.1 O];obtain ⟨iq,q3,e3,ey,_⟩:=co ([kv,.bool d,.pointer q],(x.take m,t)) f9;simp only [List.cons.injEq,and_true,true_and]at e3;rw [<-e3.1]at ey;exact ⟨kv,.pointer p2,rfl,ey,((fg.gr (ap.mono λk _ C=>.inr C)).old λk C=>.inl (.inl C)).gr cm⟩
    .rw [f3];simp
    .rcases List.mem_append.1 hp with O|O
     .have:=f0 p O;rw [Nat.succ_mul];omega
     .rw [List.mem_singleton.1 O];have h2:=Jzr d (x.getD m V0) (wt x) t;have h3:=Tr.put_sz d (x.getD m V0) (wt x) t;have h4:=ef x;simp only;rw [Nat.succ_mul];omega
   intro rest;refine htwo 11 15 kr rfl rfl rfl ?_ ?_
   .refine ρ ?_;refine cl (Jms (ek.ext Z) be eh (λk C=>nM (bi k C) Z.size) h0 ce e0) ?_;rintro u W ⟨q2,rfl,bg,hy⟩;obtain ⟨p2,rfl⟩:=bg.ptr;refine Jh (Kr hy ?_);refine Zp (fuel':=4) 8 [(0,12),(0,13)] (lst 18 14) kr kr rfl ?_;refine ρd ?_;refine Xv ?_;refine Ye (fuel':=3) 14 kr kr rfl rfl ?_;refine ρp ?_;refine ρd ?_;refine Xv ?_;refine Zp (fuel':=2) 8 [(1,15)] (lst 18 16) kr kr rfl ?_;refine dalc' (cs:=[.bool false,.pointer none]) Yb ?_;intro W2 bs b2 ai b1;refine Vx (Xv ?_);exact rest (bs,p2) _ _ ⟨hy.trans b2,b1,Nat.le_trans hy.size ai,(bg.old λk C=>C.imp id λe=>by rw [e];exact ai).ext b2⟩ sB
   .refine ρ ?_;refine alc Yb ?_;intro W bs hy ai b1;refine Jh (Kr hy ?_);refine Zp (fuel':=3) 8 [(1,11),(0,12),(0,13)] #[true,true,true,true,true,true,true,true,true,true,true,true,true,true,false,true,false,false] kr kr rfl ?_;refine ρd ?_;have hb:∀ k,(Qs w5.heap.size (.slice LB (o.length+1) lb) k∨k=bs)->k<W.heap.size:=λk C=>by
     rcases C with h'|h'
     .exact nM (bi k h') (Z.trans hy).size
     .rw [h'];exact b1.lt
    refine dcl (Jms (N:=λk=>Qs w5.heap.size (.slice LB (o.length+1) lb) k∨k=bs) (((ek.ext Z).old λk C=>C.imp id λe=>by rw [e];exact ai).ext hy) be (eh.ext hy) hb h0 ce e0) ?_;rintro u W2 ⟨q2,rfl,bg,b2⟩;obtain ⟨p2,rfl⟩:=bg.ptr;refine ⟨b2,?_⟩;refine ρd ?_;refine Xv ?_;refine Ye (fuel':=2) 14 kr kr rfl rfl ?_;refine ρp ?_;refine ρd ?_;refine Xv ?_;refine hlist (listed':=lst 18 16) kr ?_;exact rest (bs,p2) _ _ ⟨hy.trans b2,b1.ext b2,ai,bg⟩ sB
 .have h5:i=ps.length:=by have:=oF h;omega
  clear h;rw [h5,<-dd,List.take_length]at ab;have dn:GInv d wt m (R v) (Vq d wt m (R v)):=Jkl hlt λy hy=>by rw [(hF.rows v hv y hy).1,c3];omega
  have b7:=au.trans G;have ii:=(GrN.ext (N:=λk=>k=mb) (a1.trans G));have fp:=dm.ext G;have ib:=fp.lt;have hw:=c5.ext G;have h9:=Jk s3 (a1.trans G);have et:∀ g,(Value.slice LA J.length lc).ownBlock=some g->¬ g=mb:=λg eg e=>by have:=(ao g eg).1;have:=dm.lt;omega
  have h7:¬ b=mb:=λe=>by have:=hB.lt;omega
  have dl:=dm.lt;have i0:∀ k,(AR k∨k=mb)->k<w6.heap.size:=by
   rintro k (h'|h')
   .have:=hARl k h';have:=(bm.size);have:=G.size;omega
   .omega
  refine ρ ?_;refine Xt (fun (j:Nat) (mc:Nat) (fm:Lit->Option Value)=>[(0,.pointer (some ⟨b,0,none⟩)),(1,.int .i64 (v:Int)),(6,.slice LA J.length lc),(110,.slice LA J.length lc),(111,.int .i64 (J.length:Int)),(112,.int .i64 (j:Int))])
   (λj mc fm w'=>j<=J.length/\GrN (λk=>k=mb) w6 w'/\MapS Tryz.prog 9 w' mb mc fm/\mc<=j/\∀ k:Row,(fm (.string (idn k))=none/\Ud ((J.map (·.2)).take j) k=0)∨∃ y,fm (.string (idn k))=some y/\0<Ud ((J.map (·.2)).take j) k/\NatX (λk=>AR k∨k=mb) w' y (Ud ((J.map (·.2)).take j) k)) (λj _ _=>J.length-j) 0 0 (λ_=>none) sB
   ⟨Nat.zero_le _,GrN.refl _ _,fp,Nat.le_refl _,λk=>.inl ⟨rfl,rfl⟩⟩ ?_
  rintro j mc fm w7 ⟨hj,U,fo,j2,di⟩;have c4:=Jc hw U h7;have ak:=Jr am.own U et;have fi:=Jr h9 U λg eg e=>by have:=(cz g eg).2;omega
  have c8:Ext wF w7:=U.old b7 λk C=>by rw [C];exact gt
  refine ρ ?_;refine ci (λh=>?_) (λh=>?_)
  .have lj:j<J.length:=by have:=oT h;omega
   clear h;obtain ⟨z,hz⟩:∃ z,z=J[j]:=⟨_,rfl⟩;have af:z∈J:=by rw [hz];exact List.getElem_mem lj
   have e4:z.2∈Vq d wt m (R v):=by rw [<-ab];exact List.mem_map_of_mem af
   have f8:=(am.el z af).gr (U.mono λk _ C=>.inl (by rw [C];exact dl));obtain ⟨kv,zq,b5,bv,b6⟩:=id f8;obtain ⟨zp,rfl⟩:=b6.ptr;obtain ⟨an,ae,rfl,ih,ig,ew,_⟩:=id bv;have a7:FitR z.2.1:=by
    obtain ⟨y,hy,e1,_⟩:=entL_ne.1 (dn.con z.2 e4).2;have:=(hF.rows v hv y hy).2;rw [<-e1];exact ⟨by have:=this.1;rw [List.length_take];omega,λu hu=>this.2 u (List.mem_of_mem_take hu)⟩
   have dj:∀ i u,([.slice an z.2.1.length ae,.bool d,.pointer zp]:List Value)[i]?=some u->w7.cell? ((adr LA (j*3)).add i)=some u:=λi u hu=>by
    have gz:i<3:=(List.getElem?_eq_some_iff.1 hu).1;rw [Xg];refine (Rd.own ak).cell ?_;rw [Ke (p:=z) (λp hp=>(am.el p hp).len) (by rw [hz];exact gE lj) gz,b5];exact hu
   refine ρ ?_;refine ixq 3 j (Rd.own ak) lj ?_;refine ρ ?_;refine lds (cs:=[.slice an z.2.1.length ae,.bool d,.pointer zp]) dj ?_;refine ρ ?_;refine alc Jbm ?_;intro w8 j7 d1 fc fy;refine ρ ?_;refine stb (cs':=[.slice an z.2.1.length ae,.bool d,.pointer zp]) fy ?_ (Jvv rfl);intro w9 dt j5 bz;have ed:Ext w7 w9:=bz w7 d1 fc;have e8:Ext w9 w9.drew:=(Ext.refl w9).drew;have a5:=ed.trans e8;refine ρ ?_;refine drN (λ_=>False) 10 [(0,0),(0,1),(0,2),(0,3),(0,4),(0,5),(0,6),(0,7),(0,8),(0,10),(0,11),(1,9),(1,12),(2,13)] kr ?_;have cr:=Rd.own (Jk fi a5);have br:=dt.ext e8;refine ρn ?_;refine nld (Jm ((c4.ext a5).at (i:=8) rfl) (λe=>e)) ?_;refine ρn ?_;refine nix v cr hv ?_;refine ρn ?_;refine nld (Jm (cr.cell (show (ta.set v (.map (some mb)))[v]?=some (.map (some mb)) by rw [List.getElem?_set_self om])) (λe=>e)) ?_;refine ρn ?_;refine nld (Jm (br.at (i:=0) rfl) (λe=>e)) ?_
   refine ρn ?_;refine Xw (cs:=[.bool d,.pointer zp]) (λw' hg j u hu=>Jm (br.sub (i:=1) (j:=j) (by rw [Nat.add_comm];exact hu)) (λe=>e) w' hg) ?_;refine ρn ?_;refine nop ?_;refine cl (Jxl (r:=z.2.1) (hF.tb.ext (c8.trans a5)) (ew.ext a5) (λu hu=>(a7.2 u hu).1) (by have:=a7.len;omega) (by have:=a7.1;omega)) ?_;rintro un g9 ⟨rfl,a2⟩;refine ρ ?_;refine Js (GrN.ext a2) ?_;refine ρn ?_;refine nop ?_;refine cl (Jmr ((b6.ext a5).ext a2) (Nb.big (k:=i) fh he om (b4 z af).1)) ?_;rintro uy bu ⟨c6,h6,a9⟩;obtain ⟨YA,yc,rfl,_⟩:=id c6;have ca:=(a5.trans a2).trans a9;refine ρ ?_;refine Js (GrN.ext a9) ?_;refine ρn ?_;refine Xd ?_;refine mup KS (fo.ext ca) (by unfold maxLen;omega) (Gy a7) ?_;intro bt ft ah;have bp:GrN (λk=>k=mb) bu bt:=GrN.by ah λk C=>by injection C with C;exact C.symm
   have bo:GrN (λk=>k=mb) w7 bt:=(GrN.ext ca).trans bp;have gd:NatX (λk=>AR k∨k=mb) bt (.slice YA (Jq z.2.2.sum).length yc) z.2.2.sum :=
    (h6.x c6 λk C=>nM (i0 k C) (nL U.size (a5.trans a2).size)).gr (bp.mono λk _ C=>.inr C)
   have g2:(J.map (·.2)).take (j+1)=(J.map (·.2)).take j++[z.2]:=by
    rw [List.take_succ_eq_append_getElem (by rw [List.length_map];exact lj),List.getElem_map,hz]
   have gn:z.2.1 ∉ ((J.map (·.2)).take j).map (·.1):=by
    have O:=dn.lt;rw [<-ab,<-List.take_append_drop (j+1) (J.map (·.2)),g2,List.map_append,List.map_append]at O
    intro hm;have h2:=(List.pairwise_append.1 (List.pairwise_append.1 O).1).2.2 _ hm z.2.1 (by simp);rw [Yw]at h2;omega
   refine ρ ?_;refine Xj (j+1) (mc+1) (upL fm (.string (idn z.2.1)) (some (.slice YA (Jq z.2.2.sum).length yc))) sO ⟨lj,U.trans bo,ft,om,λk=>?_⟩ om;rw [g2,Qym _ _ _ gn];by_cases e:z.2.1=k
   .rw [if_pos e,<-e,Gh (KS.key (Gy a7))];exact .inr ⟨_,rfl,Qyk dn e4,gd⟩
   .rw [if_neg e,Yp (λe'=>e (Jyj (by injection e'.symm)))];rcases di k with O|⟨y,O,h2,h3⟩
    .exact .inl O
    .exact .inr ⟨y,O,h2,h3.gr (bo.mono λk _ C=>.inr C)⟩
  .have gx:j=J.length:=by have:=oF h;omega
   clear h;have dh:(J.map (·.2)).take j=Vq d wt m (R v):=by rw [ab,gx,List.take_of_length_le];rw [<-ab,List.length_map];exact Nat.le_refl _
   rw [dh]at di;have aa:=Jr (Jk fu (a1.trans G)) U λg eg e=>by have:=(e2 g eg).2;omega
   have fe:=Jr (Jk cq (a1.trans G)) U λg eg e=>by have:=(ga g eg).2;omega
   obtain ⟨r1,r2,r3,r4,r5⟩:=Zv aa (q:=v) om (.slice LA J.length lc);have ij:ba.length=f:=by have:=hBa.1;omega
   refine ρ ?_;refine ld (c4.at (i:=9) rfl) ?_;refine ρ ?_;refine ix v (Rd.own aa) hvf ?_;refine ρ ?_;refine sto (r1.trans (show ba[v]?=some (ba.getD v (.slice none 0 0)) by simp [List.getD,List.getElem?_eq_getElem (show v<ba.length by omega)])) r2 ?_;refine ρ ?_;obtain ⟨w8,ei⟩:∃ w8,w8=w7.setCell (adr KA v) (.slice LA J.length lc):=⟨_,rfl⟩;rw [<-ei]at r3 r5 ⊢;clear ei;have f2:GrN AR w w7:=(((bm.trans (GrN.ext G)).mono λk _ C=>(.inl C:AR k∨k=mb)).trans (U.mono λk _ C=>.inr C)).mono λk C h=>h.elim id λe=>by omega
   have bn:GrN AR w7 w8:=GrN.by r5 λk C=>hAR k (.inr (.inr C))
   have f5:GrN (λk=>AR k∨k=mb) w6 w8:=(U.mono λk _ C=>.inr C).trans (bn.mono λk _ C=>.inl C);have bq:=Zj ak aa r5 rfl;have cx:¬ AR mb:=by
    intro h';have:=hARl mb h';omega
   have cy:∀ k,(AR k∨k=mb)->k<w5.heap.size:=by
    rintro k (h'|h')
    .have:=hARl k h';have:=(bm.size);omega
    .omega
   refine Jj ⟨rfl,.map (some mb),.slice LA J.length lc,⟨Qb c8 r5 λk C=>(e2 k C).1,c4.grown r5 (c4.ne_own aa rfl),Zj fe aa r5 rfl,Zj fi aa r5 rfl⟩,r3,f2.trans bn,
    ⟨mb,mc,fm,rfl,om,⟨fo.kept r5 (λe=>cx (hAR mb (.inr (.inr e.symm)))),cx⟩,λk=>?_⟩,
    ⟨J,LA,lc,ab.symm,rfl,gu,om,Rd.own bq,λh0 ad e=>?_,λp hp=>⟨(am.el p hp).len,?_⟩⟩⟩
   .rcases di k with O|⟨y,O,h2,h3⟩
    .exact .inl O
    .exact .inr ⟨y,O,h2,(h3.old λk C=>.inl (.inl C)).gr bn⟩
   .intro hA;have:=(ao ad.block (by rw [e];simp [Value.ownBlock])).1;have:=cy _ (.inl hA);omega
   .have O:BkE d (λk=>AR k∨k=mb) w6 p.1 p.2:=(am.el p hp).old λk C=>.inl (.inl (cy k C));exact (O.gr f5).old λk C=>.inl (.inl C)
end Go.Proofs.YtebcagekopgdhaaGreatDoor
namespace Go.Proofs.YtebcagekopgdhaaGreatDoor
open Pl Go.Wk
variable {k n v:Nat}{g h pl:Nat->Nat}
def Qe: Nat->(Nat->Nat)->Nat
 | 0,_=>0
 | n+1,g=>Qe n g+g n
theorem Jch(e:∀ c,c<n->g c=h c): Qe n g=Qe n h:=by
 induction n with
 | zero=>rfl
 | succ n ih=>rw [Qe,Qe,ih (λc o=>e c om),e n om]
theorem Jnb(n:Nat)(g h:Nat->Nat): Qe n (λc=>g c+h c)=Qe n g+Qe n h:=by
 induction n with
 | zero=>rfl
 | succ n ih=>rw [Qe,Qe,Qe,ih];omega
theorem Jmz(e:∀ c,c<n->g c=0): Qe n g=0:=by
 induction n with
 | zero=>rfl
 | succ n ih=>rw [Qe,ih (λc o=>e c om),e n om]
theorem Qbc(g:Nat->Nat)(hk:k<n): g k<=Qe n g:=by
 induction n with
 | zero=>omega
 | succ n ih=>
  rw [Qe];by_cases e:k=n
  .subst e;omega
  .have:=ih om;omega
theorem Qbb(x:Nat)(hv:v<n): Qe n (λc=>if c=v then x else 0)=x:=by
 induction n with
 | zero=>omega
 | succ n ih=>
  rw [Qe];by_cases e:v=n
  .subst e;rw [if_pos rfl,Jmz λc o=>if_neg om];omega
  .rw [if_neg (λh=>e h.symm),ih om];omega
theorem pw2(a b s t:Nat)(h:a*s<=b*t): (2^a)^s<=(2^b)^t:=by
 rw [<-Nat.pow_mul,<-Nat.pow_mul];exact Nat.pow_le_pow_right (by decide) h
theorem Jhz{T T':Nat->Row->Nat}{x:Row}: ∀ {l:List (Nat×List Nat)},(∀ p∈l,T p.1=T' p.1)->wtL T x l=wtL T' x l
 | [],_=>rfl
 | p::l,h=>by rw [wtL,wtL,h p mC,Jhz λq hq=>h q (List.mem_cons_of_mem _ hq)]
section
variable (n f:Nat) (kf:Nat->Nat) (pf:Nat->Int) (R:Nat->List Row) (ds:List Bool)
def lastC(v:Nat): Nat:=(bk (kf v ||| 2^v) 32).length-1
noncomputable def Gm(T:Nat->Row->Nat)(v:Nat): Row->Nat :=
 if v<n then (if v<f then Ud (Vq (ds.getD v false) (λx=>wtL T x (chK kf pf v n)) (lastC kf v) (R v)) else Yt (R v) (Zy kf v) λx=>wtL T x (chK kf pf v n)) else λ_=>0
noncomputable def TF: Nat->Nat->Row->Nat
 | 0=>λ_ _=>0
 | s+1=>λv=>Gm n f kf pf R ds (TF s) v
noncomputable def TV(pl:Nat->Nat)(v:Nat): Row->Nat:=TF n f kf pf R ds (pl v+1) v
variable {n f:Nat} {kf:Nat->Nat} {pf:Nat->Int} {R:Nat->List Row} {ds:List Bool}
theorem Jnc{T T':Nat->Row->Nat}(h:∀ c,c<n->pf c=(v:Int)->T c=T' c): Gm n f kf pf R ds T v=Gm n f kf pf R ds T' v:=by
 have e:(λx=>wtL T x (chK kf pf v n))=λx=>wtL T' x (chK kf pf v n):=by
  funext x
  exact Jhz λp o=>by obtain ⟨C,u,_⟩:=Jjf o;exact h _ C u
 unfold Gm;rw [e]
def ChF(n:Nat)(pf:Nat->Int)(pl:Nat->Nat): Prop:=∀ c v:Nat,c<n->pf c=(v:Int)->v<n/\pl c<pl v
theorem Qkw{pl:Nat->Nat}(hch:ChF n pf pl): ∀ (s s' v:Nat),v<n->pl v<s->pl v<s'->TF n f kf pf R ds s v=TF n f kf pf R ds s' v
 | 0,_,_,_,h,_=>by omega
 | s+1,0,_,_,_,h=>by omega
 | s+1,s'+1,v,hv,h1,h2=>Jnc λc hc hp=>by
  have:=(hch c v hc hp).2;exact Qkw hch s s' c hc om om
theorem Qkv(hch:ChF n pf pl)(hv:v<n): TV n f kf pf R ds pl v=Gm n f kf pf R ds (TV n f kf pf R ds pl) v :=
 Jnc λc o u=>by
  have:=(hch c v o u).2;exact Qkw hch (pl v) (pl c+1) c o om om
theorem Qks(hv:¬ v<n)(k:Row): TV n f kf pf R ds pl v k=0:=by
 show Gm n f kf pf R ds _ v k=0;unfold Gm;rw [if_neg hv]
theorem Jbg(hch:ChF n pf pl)(hfn:f<=n)(hv:v<f): TV n f kf pf R ds pl v=Ud (Vq (ds.getD v false) (λx=>wtL (TV n f kf pf R ds pl) x (chK kf pf v n)) (lastC kf v) (R v)):=by
 rw [Qkv hch om];unfold Gm;rw [if_pos om,if_pos hv]
theorem Jwm(hch:ChF n pf pl)(hv:v<n)(hf:f<=v): TV n f kf pf R ds pl v=Yt (R v) (Zy kf v) λx=>wtL (TV n f kf pf R ds pl) x (chK kf pf v n):=by
 rw [Qkv hch hv];unfold Gm;rw [if_pos hv,if_neg om]
section
variable (n) (pf)
def stF: Nat->Nat->Nat
 | 0=>λ_=>0
 | s+1=>λv=>1+Qe n λc=>if pf c=(v:Int) then stF s c else 0
def stV(pl:Nat->Nat)(v:Nat): Nat:=stF n pf (pl v+1) v
end
theorem Jng{pl:Nat->Nat}(hch:ChF n pf pl): ∀ (s s' v:Nat),v<n->pl v<s->pl v<s'->stF n pf s v=stF n pf s' v
 | 0,_,_,_,h,_=>by omega
 | s+1,0,_,_,_,h=>by omega
 | s+1,s'+1,v,hv,h1,h2=>by
  show 1+_=1+_;congr 1
  refine Jch λc hc=>?_;split
  .rename_i hp;have:=(hch c v hc hp).2;exact Jng hch s s' c hc om om
  .rfl
theorem Jnf(hch:ChF n pf pl)(hv:v<n): stV n pf pl v=1+Qe n λc=>if pf c=(v:Int) then stV n pf pl c else 0:=by
 show 1+_=1+_;congr 1
 refine Jch λc o=>?_;split
 .rename_i hp;have:=(hch c v o hp).2;exact Jng hch (pl v) (pl c+1) c o om om
 .rfl
theorem Jnd{pl:Nat->Nat}(hch:ChF n pf pl)(hpf:∀ c,c<n->pf c = -1∨∃ p:Nat,pf c=p/\p<n)(hin:∀ u v,u<n->v<n->pl u=pl v->u=v)(hat:∀ i,i<n->∃ v,v<n/\pl v=i):
  ∀ i,i<=n->Qe n (λc=>if pl c<i/\(pf c = -1∨i<=pl (pf c).toNat) then stV n pf pl c else 0)=i
 | 0,_=>Jmz λc _=>if_neg om
 | i+1,hi=>by
  have ih:=Jnd hch hpf hin hat i om;obtain ⟨v,hv,hpv⟩:=hat i om;have e1:Qe n (λc=>(if pl c<i+1/\(pf c = -1∨i+1<=pl (pf c).toNat) then stV n pf pl c else 0)+if pf c=(v:Int) then stV n pf pl c else 0)=Qe n (λc=>(if pl c<i/\(pf c = -1∨i<=pl (pf c).toNat) then stV n pf pl c else 0)+if c=v then stV n pf pl v else 0):=by
   refine Jch λc hc=>?_;by_cases ec:c=v
   .subst ec;have hne:pf c≠(c:Int):=λe=>by have:=(hch c c hc e).2;omega
    rw [if_neg hne,if_pos rfl,if_neg (show ¬ (pl c<i/\_) by omega)];rw [if_pos]
    .omega
    refine ⟨om,?_⟩;rcases hpf c hc with h|⟨p,h,_⟩
    .exact .inl h
    .have:=(hch c p hc h).2;rw [h];right;simp only [Int.toNat_natCast];omega
   .rw [if_neg ec];have hnp:pl c≠i:=λe=>ec (hin c v hc hv om);by_cases ep:pf c=(v:Int)
    .have h1:=(hch c v hc ep).2;have h2:pl (pf c).toNat=i:=by rw [ep];simp only [Int.toNat_natCast];exact hpv
     rw [if_pos ep,if_neg (show ¬ (pl c<i+1/\(pf c = -1∨i+1<=pl (pf c).toNat)) by omega),if_pos (show pl c<i/\(pf c = -1∨i<=pl (pf c).toNat) from ⟨om,.inr om⟩)];omega
    .rw [if_neg ep];have h3:(pl c<i+1/\(pf c = -1∨i+1<=pl (pf c).toNat))↔(pl c<i/\(pf c = -1∨i<=pl (pf c).toNat)):=by
      rcases hpf c hc with h|⟨p,h,hp⟩
      .simp only [h,true_or,and_true];omega
      .have h4:pl p≠i:=λe=>ep (by rw [h,hin p v hp hv om]);rw [h];simp only [Int.toNat_natCast];omega
     simp only [h3]
  rw [Jnb,Jnb,Qbb _ hv,ih,Jnf hch hv]at e1;omega
theorem Qbp(hch:ChF n pf pl)(hpf:∀ c,c<n->pf c = -1∨∃ p:Nat,pf c=p/\p<n)(hin:∀ u v,u<n->v<n->pl u=pl v->u=v)(hat:∀ i,i<n->∃ v,v<n/\pl v=i)(hpl:∀ v,v<n->pl v<n)(hv:v<n): stV n pf pl v<=n:=by
 have G:=Jnd hch hpf hin hat (pl v+1) (hpl v hv);have o:=Qbc (n:=n) (λc=>if pl c<pl v+1/\(pf c = -1∨pl v+1<=pl (pf c).toNat) then stV n pf pl c else 0) hv;rw [G]at o;have C:pl v<pl v+1/\(pf v = -1∨pl v+1<=pl (pf v).toNat):=by
  refine ⟨om,?_⟩;rcases hpf v hv with h|⟨p,h,_⟩
  .exact .inl h
  .have:=(hch v p hv h).2;rw [h];right;simp only [Int.toNat_natCast];omega
 simp only [C,and_self,if_true]at o;have:=hpl v hv;omega
theorem Jhx{T:Nat->Row->Nat}{x:Row}{st:Nat->Nat}{kf:Nat->Nat}{pf:Nat->Int}{v n:Nat}(hT:∀ c,c<n->pf c=(v:Int)->∀ k,T c k<=65536^st c): ∀ k,k<=n->wtL T x (chK kf pf v k)<=65536^Qe k (λc=>if pf c=(v:Int) then st c else 0)
 | 0,_=>Nat.le_refl _
 | k+1,hk=>by
  have ih:=Jhx (T:=T) (x:=x) (kf:=kf) hT k om;rw [Jyx,Jzg,Qe,Nat.pow_add];refine Nat.mul_le_mul ih ?_;split
  .rename_i hp;rw [wtL,wtL,Nat.mul_one];exact hT k om hp _
  .exact Nat.le_refl _
theorem Jmt{wt:Row->Nat}{m S:Nat}(h:∀ x,wt x<=S)(k:Row): ∀ rs:List Row,tot (Qt wt m rs k)<=rs.length*S
 | []=>by simp [Qt,tot]
 | x::rs=>by
  have ih:=Jmt (m:=m) h k rs;have e:tot (Qt wt m (x::rs) k)<=wt x+tot (Qt wt m rs k):=by
   unfold Qt;rw [List.filter_cons];split
   .rw [List.map_cons,tot];exact Nat.le_refl _
   .omega
  have:=h x;rw [List.length_cons,Nat.succ_mul];omega
theorem Qkt{pl:Nat->Nat}(hch:ChF n pf pl)(hfn:f<=n)(hlt:∀ v,v<f->Lt [] (R v))(hl:∀ v,v<f->∀ y∈R v,y.length=lastC kf v+1)(hR:∀ v,v<n->(R v).length<=65536):
  ∀ (s v:Nat),v<n->pl v<s->∀ k,TV n f kf pf R ds pl v k<=65536^stV n pf pl v
 | 0,_,_,h,_=>by omega
 | s+1,v,hv,hs,k=>by
  have hW:∀ x,wtL (TV n f kf pf R ds pl) x (chK kf pf v n)<=65536^Qe n (λc=>if pf c=(v:Int) then stV n pf pl c else 0):=λx=>
   Jhx (λc hc hp k=>Qkt hch hfn hlt hl hR s c hc (by have:=(hch c v hc hp).2;omega) k) n (Nat.le_refl _)
  rw [Jnf hch hv,Nat.pow_add,Nat.pow_one];by_cases hf:v<f
  .rw [Jbg hch hfn hf,Jcd,(Jkl (hlt v hf) (hl v hf)).entK,Jys];exact nL (Jmt hW k _) (nO _ (hR v hv))
  .rw [Jwm hch hv om];refine nL Jps ?_;exact Nat.mul_pos (by decide) (Nat.pow_pos (by decide))
theorem Jhn(hch:ChF n pf pl)(c:Nat)(hc:f<=c)(k:Row): TV n f kf pf R ds pl c k<=1:=by
 by_cases h:c<n
 .rw [Jwm hch h hc];exact Jps
 .rw [Qks h];omega
theorem Xqm(hch:ChF n pf pl)(hfn:f<=n)(hn:n<=32)(hpf:∀ c,c<n->pf c = -1∨∃ p:Nat,pf c=p/\p<n)(hin:∀ u v,u<n->v<n->pl u=pl v->u=v)(hat:∀ i,i<n->∃ v,v<n/\pl v=i)(hpl:∀ v,v<n->pl v<n)(hlt:∀ v,v<f->Lt [] (R v))(hl:∀ v,v<f->∀ y∈R v,y.length=lastC kf v+1)(hR:∀ v,v<n->(R v).length<=65536)(c:Nat)(k:Row): TV n f kf pf R ds pl c k<=4294967296^20:=by
 by_cases h:c<n
 .refine nL (Qkt hch hfn hlt hl hR (pl c+1) c h om k) ?_;have C:=Qbp hch hpf hin hat hpl h;have o:=pw2 16 32 (stV n pf pl c) 20 om;rw [show (65536:Nat)=2^16 by decide,show (4294967296:Nat)=2^32 by decide];exact o
 .rw [Qks h];omega
end
open Pl Go.Wk
variable {c i s t u v:Nat}
structure ElR(n f m:Nat)(es perm:List Nat)(vars:Nat->List Nat)(rs:Nat->List Row)(kf:Nat->Nat)(pf:Nat->Int)(R:Nat->List Row): Prop where
 pm:PermOk n f perm
 n32:n<=32
 lt:∀ i,i<m->∀ v∈vars i,v<n
 len:∀ i,i<m->∀ r∈rs i,r.length=(vars i).length
 el:es.length=m
 eb:∀ i,i<m->∀ u,(es.getD i 0).testBit u=true↔u∈vars i
 ep:∀ e∈es,e<2^n
 bags:Jjt n es (Qv perm f) kf pf
 rows:∀ v,v<n->Jbj n m vars rs (kf v ||| 2^v) (R v)
section
variable {n f m:Nat} {es perm:List Nat} {vars:Nat->List Nat} {rs:Nat->List Row} {kf:Nat->Nat} {pf:Nat->Int} {R:Nat->List Row} {ds:List Bool}
abbrev plO(perm:List Nat)(f:Nat): Nat->Nat:=plc (Qv perm f)
theorem PermOk.plN(h:PermOk n f perm)(hv:v<n): plO perm f v<n:=by
 have:=(Ue h.ond (h.omem.2 hv)).1;rw [h.olen]at this;exact this
theorem PermOk.inj(h:PermOk n f perm)(hu:u<n)(hv:v<n)(e:plO perm f u=plO perm f v): u=v:=by
 rw [<-(Ue h.ond (h.omem.2 hu)).2,<-(Ue h.ond (h.omem.2 hv)).2];show (Qv perm f).getD (plO perm f u) 0=(Qv perm f).getD (plO perm f v) 0;rw [e]
theorem PermOk.hits(h:PermOk n f perm)(hi:i<n): ∃ v,v<n/\plO perm f v=i:=by
 have o:i<(Qv perm f).length:=by rw [h.olen];exact hi
 exact ⟨(Qv perm f).getD i 0,h.olt (getD_mem' 0 _ o),Io h.ond o⟩
theorem PermOk.plPerm(h:PermOk n f perm)(hi:i<perm.length): plO perm f (perm.getD i 0)=i:=by
 have o:i<(Qv perm f).length:=by simp [Qv];omega
 have e:(Qv perm f).getD i 0=perm.getD i 0:=by simp [Qv,List.getD,List.getElem?_append_left hi]
 rw [<-e];exact Io h.ond o
theorem PermOk.plFree(h:PermOk n f perm)(hu:u<f): plO perm f u=perm.length+(f-1-u):=by
 have o:perm.length+(f-1-u)<(Qv perm f).length:=by simp [Qv];omega
 have e:(Qv perm f).getD (perm.length+(f-1-u)) 0=u:=by
  simp only [Qv,List.getD];rw [List.getElem?_append_right om,Nat.add_sub_cancel_left,List.getElem?_reverse (by simp;omega),List.length_range,List.getElem?_range om];simp only [Option.getD_some];omega
 have:=Io h.ond o;rw [e]at this;exact this
theorem PermOk.plLow(h:PermOk n f perm)(hu:u<f)(hv:f<=v)(hn:v<n): plO perm f v<plO perm f u:=by
 have C:v∈perm:=by
  have:=h.omem.2 hn;rcases List.mem_append.1 this with o|o
  .exact o
  .have:=List.mem_range.1 (List.mem_reverse.1 o);omega
 obtain ⟨i,hi,e⟩:=List.getElem_of_mem C;have o:=h.plPerm hi;rw [Jp 0 _ hi,e]at o;rw [o,h.plFree hu];omega
theorem ElR.inv(h:ElR n f m es perm vars rs kf pf R): NbInv [] (nb0 n es):=Jsj h.ep
theorem ElR.kbit(h:ElR n f m es perm vars rs kf pf R)(hv:v<n)(hu:(kf v).testBit u=true): u<n/\plO perm f v<plO perm f u:=by
 obtain ⟨_,U,_⟩:=h.bags v hv;rw [U]at hu;have o:u<n:=Jyg (nb:=nb0 n es) (ord:=Qv perm f) (N:=n) (λa b C=>(Jxb h.ep C).2.1) hu;obtain ⟨O,J⟩:=Jfm h.inv h.pm.ond (h.pm.omem.2 hv) hu;have G:=(Jfk h.pm.ond (h.pm.omem.2 hv) (h.pm.omem.2 o)).1 O;refine ⟨o,?_⟩;rcases Nat.lt_or_ge (plO perm f v) (plO perm f u) with h6|h6
 .exact h6
 .exact absurd (h.pm.inj o hv (Nat.le_antisymm h6 G)) J
theorem ElR.kmem(h:ElR n f m es perm vars rs kf pf R)(hv:v<n): u∈bk (kf v) 32↔(kf v).testBit u=true:=by
 rw [bk_mem];have:=h.n32;exact ⟨λo=>o.2,λo=>⟨by have:=(h.kbit hv o).1;omega,o⟩⟩
theorem ElR.par(h:ElR n f m es perm vars rs kf pf R)(hv:v<n): (pf v = -1/\∀ u,(kf v).testBit u=false)∨∃ p:Nat,pf v=p/\(kf v).testBit p=true/\∀ u,(kf v).testBit u=true->plO perm f p<=plO perm f u:=by
 obtain ⟨_,G,o⟩:=h.bags v hv;rcases o with ⟨o,C⟩|⟨p,o,C,h5⟩
 .exact .inl ⟨o,λu=>by rw [G];exact C u⟩
 .exact .inr ⟨p,o,by rw [G];exact C,λu J=>h5 u (by rw [<-G];exact J)⟩
theorem ElR.chf(h:ElR n f m es perm vars rs kf pf R): ChF n pf (plO perm f):=λc v C u=>by
 rcases h.par C with ⟨o,_⟩|⟨p,o,h2,_⟩
 .rw [o]at u;omega
 .have e:p=v:=by rw [o]at u;omega
  subst e;exact h.kbit C h2
theorem ElR.sub(h:ElR n f m es perm vars rs kf pf R)(hc:c<n)(hp:pf c=(v:Int))(hu:(kf c).testBit u=true): (kf v ||| 2^v).testBit u=true:=by
 have C:=(h.chf c v hc hp).1;rw [Nat.testBit_or,Nat.testBit_two_pow,Bool.or_eq_true,decide_eq_true_eq];by_cases e:u=v
 .exact .inr e.symm
 .refine .inl ?_;obtain ⟨_,J,_⟩:=h.bags c hc;obtain ⟨_,G,_⟩:=h.bags v C;rcases h.par hc with ⟨O,_⟩|⟨p,O,h2,h3⟩
  .rw [O]at hp;omega
  .have ev:p=v:=by rw [O]at hp;omega
   subst ev;rw [G];refine Qll h.inv h.pm.ond (h.pm.omem.2 hc) (h.pm.omem.2 C) (by rw [<-J];exact h2) (λx U=>?_) (by rw [<-J];exact hu) e;have o:(kf c).testBit x=true:=by rw [J];exact U
   exact (Jfk h.pm.ond (h.pm.omem.2 C) (h.pm.omem.2 (h.kbit hc o).1)).2 (h3 x o)
theorem Qmm(h:∀ u,t.testBit u=true->s.testBit u=true): inS (bk s 32) t=bk t 32:=by
 unfold inS bk;rw [List.filter_filter];refine List.filter_congr λu _=>?_;cases e:t.testBit u with
 | false=>simp
 | true=>simp [h u e]
theorem Jdl(h:∀ u,t.testBit u=true->s.testBit u=true)(z:Row): pmR (Ql (bk s 32) t) (pmR (bk s 32) z)=pmR (bk t 32) z:=by
 have:=Jrm (bk s 32) t z (bk s 32).length (Nat.le_refl _);rw [List.take_length,Qmm h]at this;exact this
theorem ElR.last(h:ElR n f m es perm vars rs kf pf R)(hv:v<f): bk (kf v ||| 2^v) 32=bk (kf v) 32++[v]:=by
 have hn:=h.n32;have J:=h.pm.fn;have o:∀ u,(kf v).testBit u=true->u<v:=λu G=>by
  obtain ⟨C,O⟩:=h.kbit om G;rcases Nat.lt_or_ge u f with h3|h3
  .rw [h.pm.plFree hv,h.pm.plFree h3]at O;omega
  .have:=h.pm.plLow hv h3 C;omega
 have e:∀ k,bk (kf v ||| 2^v) k=bk (kf v) k++if v<k then [v] else []:=by
  intro k;induction k with
  | zero=>rfl
  | succ k ih=>
   rw [Ut,Ut,ih,Nat.testBit_or,Nat.testBit_two_pow];by_cases e:v=k
   .subst e;rw [if_neg (Nat.lt_irrefl v),if_pos (Nat.lt_succ_self v)];have:(kf v).testBit v=false:=by
     cases hb:(kf v).testBit v with
     | false=>rfl
     | true=>have:=o v hb;omega
    rw [this];simp
   .rw [decide_eq_false e,Bool.or_false];by_cases hb:(kf v).testBit k=true
    .have:=o k hb;rw [if_pos hb,if_neg om,if_neg om,List.append_nil,List.append_nil]
    .rw [if_neg hb,List.append_nil,List.append_nil];by_cases C:v<k
     .rw [if_pos C,if_pos om]
     .rw [if_neg C,if_neg om]
 rw [e,if_pos om]
theorem ElR.lastC(h:ElR n f m es perm vars rs kf pf R){v:Nat}(hv:v<f): lastC kf v=(bk (kf v) 32).length/\(bk (kf v ||| 2^v) 32).length=(bk (kf v) 32).length+1:=by
 unfold Go.Proofs.YtebcagekopgdhaaGreatDoor.lastC;rw [h.last hv];simp
theorem ElR.rlt(h:ElR n f m es perm vars rs kf pf R)(hv:v<f): Lt [] (R v):=(h.rows v (by have:=h.pm.fn;omega)).1
theorem ElR.rl(h:ElR n f m es perm vars rs kf pf R)(hv:v<f): ∀ y∈R v,y.length=Go.Proofs.YtebcagekopgdhaaGreatDoor.lastC kf v+1:=λy o=>by
 obtain ⟨z,_,rfl,_⟩:=((h.rows v (by have:=h.pm.fn;omega)).2.1 y).1 o;rw [Qm,(h.lastC hv).2,(h.lastC hv).1]
theorem ElR.big(h:ElR n f m es perm vars rs kf pf R)(c:Nat)(k:Row): TV n f kf pf R ds (plO perm f) c k<=4294967296^20 :=
 Xqm h.chf h.pm.fn h.n32 (λc G=>by
  rcases h.par G with ⟨C,_⟩|⟨p,C,h2,_⟩
  .exact .inl C
  .exact .inr ⟨p,C,(h.kbit G h2).1⟩) (λu v J o=>h.pm.inj J o) (λi hi=>h.pm.hits hi) (λv o=>h.pm.plN o) (λv o=>h.rlt o) (λv o=>h.rl o) (λv o=>(h.rows v o).2.2) c k
noncomputable def Jxx(n f m:Nat)(perm:List Nat)(vars:Nat->List Nat)(rs:Nat->List Row)(kf:Nat->Nat)(pf:Nat->Int)(R:Nat->List Row)(ds:List Bool): BX V :=
 ⟨V0,n,f,λv=>bk (kf v) 32,pf,plO perm f,(List.range m).map λi=>(vars i,rs i),TV n f kf pf R ds (plO perm f),
  λv k=>entK (Vq (ds.getD v false) (λx=>wtL (TV n f kf pf R ds (plO perm f)) x (chK kf pf v n)) (Go.Proofs.YtebcagekopgdhaaGreatDoor.lastC kf v) (R v)) k⟩
theorem ElR.W(h:ElR n f m es perm vars rs kf pf R){T:Nat->Row->Nat}{v:Nat}(z:Row): ∀ k,k<=n->wtL T (pmR (bk (kf v ||| 2^v) 32) z) (chK kf pf v k)=Jf k λc=>if pf c=(v:Int) then T c (pmR (bk (kf c) 32) z) else 1
 | 0,_=>rfl
 | k+1,hk=>by
  rw [Jyx,Jzg,h.W z k om,Jf];congr 1
  split
  .rename_i hp;rw [wtL,wtL,Nat.mul_one,Jdl λu hu=>h.sub om hp hu]
  .rfl
theorem ElR.bag(h:ElR n f m es perm vars rs kf pf R)(hv:v<n)(z:Row): Kc m vars rs (kf v ||| 2^v) z↔(Jxx n f m perm vars rs kf pf R ds).bag v z:=by
 have key:∀ i j,i<m->j<(vars i).length->((kf v ||| 2^v).testBit ((vars i).getD j 0)=true↔((vars i).getD j 0=v∨(vars i).getD j 0∈bk (kf v) 32)):=λi j hi u=>by
  rw [h.kmem hv,Nat.testBit_or,Nat.testBit_two_pow,Bool.or_eq_true,decide_eq_true_eq];constructor
  .rintro (o|o)
   .exact .inr o
   .exact .inl o.symm
  .rintro (o|o)
   .exact .inr o.symm
   .exact .inl o
 constructor
 .intro J a U;obtain ⟨i,hi,rfl⟩:=List.mem_map.1 U;have hi:=List.mem_range.1 hi;obtain ⟨r,G,O⟩:=J i hi;exact ⟨r,G,λj u C=>O j u ((key i j hi u).2 C)⟩
 .intro J i hi;obtain ⟨r,G,O⟩:=J (vars i,rs i) (List.mem_map.2 ⟨i,List.mem_range.2 hi,rfl⟩);exact ⟨r,G,λj u C=>O j u ((key i j hi u).1 C)⟩
theorem ElR.ok(h:ElR n f m es perm vars rs kf pf R): (Jxx n f m perm vars rs kf pf R ds).Ok:=by
 have a5:=h.pm.fn;have hn:=h.n32;refine ⟨a5,λv G=>h.pm.plN G,λu v O G e=>h.pm.inj O G e,λv G u O=>h.kbit G ((h.kmem G).1 O),λv G=>?_,λv G p hp x hx=>?_,λa ha v a2 a1 u Z=>?_,λu v O aa=>?_,λu v O G o=>h.pm.plLow O G o,λa ha=>?_,λv hf G k=>?_,λv G k=>?_⟩
 .rcases h.par G with ⟨J,U⟩|⟨p,J,U,h3⟩
  .refine .inl ⟨?_,J⟩;refine List.eq_nil_iff_forall_not_mem.2 λu O=>?_;have:=(h.kmem G).1 O;rw [U u]at this;cases this
  .exact .inr ⟨p,J,(h.kmem G).2 U,λu O=>h3 u ((h.kmem G).1 O)⟩
 .have a3:pf v=(p:Int):=hp;have J:=h.sub G a3 ((h.kmem G).1 hx);rw [Nat.testBit_or,Nat.testBit_two_pow,Bool.or_eq_true,decide_eq_true_eq]at J;rcases J with J|J
  .exact .inr ((h.kmem (h.chf v p G a3).1).2 J)
  .exact .inl J.symm
 .obtain ⟨i,hi,rfl⟩:=List.mem_map.1 ha;have hi:=List.mem_range.1 hi;simp only at a2 a1 Z;by_cases e:u=v
  .exact .inl e
  .refine .inr ?_;have o:=h.lt i hi v a2;have a7:=h.lt i hi u Z;have a9:(kf v).testBit u=true:=by
    rw [(h.bags v o).2.1];refine Qlm ?_ e ((Jfk h.pm.ond (h.pm.omem.2 o) (h.pm.omem.2 a7)).2 (a1 u Z));simp only [nb0,Bool.and_eq_true,decide_eq_true_eq,bne_iff_ne,List.any_eq_true];exact ⟨⟨o,e⟩,es.getD i 0,getD_mem' 0 es (by rw [h.el];exact hi),(h.eb i hi v).2 a2,(h.eb i hi u).2 Z⟩
   exact (h.kmem o).2 a9
 .have a8:u<f:=O;show plO perm f u<plO perm f v;rw [h.pm.plFree a8,h.pm.plFree om];omega
 .obtain ⟨i,hi,rfl⟩:=List.mem_map.1 ha;have hi:=List.mem_range.1 hi;exact ⟨h.lt i hi,h.len i hi⟩
 .have a6:f<=v:=hf;have C:v<n:=G;refine ⟨Jhn h.chf v a6 k,?_⟩;show 0<TV n f kf pf R ds (plO perm f) v k↔_;rw [Jwm h.chf C a6,redT_pos];constructor
  .rintro ⟨x,hx,J,U⟩;obtain ⟨z,hz,rfl,hb⟩:=((h.rows v C).2.1 x).1 hx;refine ⟨z,hz,(h.bag C z).1 hb,?_,?_⟩
   .rw [<-U];exact (Jdl (λu O=>by rw [Nat.testBit_or,O];rfl) z).symm
   .rw [h.W z n (Nat.le_refl _)]at J;exact J
  .rintro ⟨z,hz,hb,U,J⟩;refine ⟨pmR (bk (kf v ||| 2^v) 32) z,((h.rows v C).2.1 _).2 ⟨z,hz,rfl,(h.bag C z).2 hb⟩,?_,?_⟩
   .rw [h.W z n (Nat.le_refl _)];exact J
   .rw [<-U];exact Jdl (λu O=>by rw [Nat.testBit_or,O];rfl) z
 .have C:v<f:=G;have o:v<n:=om
  have hg:=(Jkl (d:=ds.getD v false) (wt:=λx=>wtL (TV n f kf pf R ds (plO perm f)) x (chK kf pf v n)) (h.rlt C) (h.rl C)).entK k;refine ⟨?_,λp=>?_⟩
  .show TV n f kf pf R ds (plO perm f) v k=_;rw [Jbg h.chf a5 C,Jcd];rfl
  .show p∈entK _ k↔_;rw [hg,Qjw,entL_mem];have hl:=h.last C;have a4:=(h.lastC C).1;have e1:∀ z:Row,(pmR (bk (kf v ||| 2^v) 32) z).take (Go.Proofs.YtebcagekopgdhaaGreatDoor.lastC kf v)=pmR (bk (kf v) 32) z:=λz=>by
    rw [hl,a4];unfold pmR;rw [List.map_append,List.take_left' (by simp)]
   have e2:∀ z:Row,(pmR (bk (kf v ||| 2^v) 32) z).getD (Go.Proofs.YtebcagekopgdhaaGreatDoor.lastC kf v) V0=z.getD v V0:=λz=>by
    rw [hl,a4];unfold pmR;rw [List.map_append];simp only [List.getD];rw [List.getElem?_append_right (by simp)];simp
   constructor
   .rintro ⟨x,hx,J,U,h3,h4⟩;obtain ⟨z,hz,rfl,hb⟩:=((h.rows v o).2.1 x).1 hx;refine ⟨z,hz,(h.bag o z).1 hb,?_,?_,?_,h4⟩
    .rw [<-J,e1];rfl
    .rw [<-U,e2];rfl
    .rw [<-h3,h.W z n (Nat.le_refl _)];rfl
   .rintro ⟨z,hz,hb,J,U,h3,h4⟩;refine ⟨pmR (bk (kf v ||| 2^v) 32) z,((h.rows v o).2.1 _).2 ⟨z,hz,rfl,(h.bag o z).2 hb⟩,?_,?_,?_,h4⟩
    .rw [e1,<-J];rfl
    .rw [e2,<-U];rfl
    .rw [h.W z n (Nat.le_refl _),h3];rfl
theorem ElR.srt(h:ElR n f m es perm vars rs kf pf R): (Jxx n f m perm vars rs kf pf R ds).ix.Srt ds:=by
 refine ⟨rfl,λv u k=>?_⟩;have o:v<f:=u;show Jjs _ (entK _ k);rw [(Jkl (h.rlt o) (h.rl o)).entK];exact Qph (Qnt (h.rlt o) (h.rl o) k)
end
open Go.RowKit Pl Go.Wk
attribute [local irreducible] WC WL QX WD WDB WP WN WG
def Xe(n:Nat)(pf:Nat->Int)(T:Nat->Row->Nat)(ats:List Atm): Nat:=if ats.any (λa=>a.rows.isEmpty) then 0 else Jf n λv=>if pf v = -1 then T v [] else 1
theorem Qdx{n k:Nat}{g:Nat->Nat}(hk:k<n)(h:g k=0): Jf n g=0:=by
 rcases Nat.eq_zero_or_pos (Jf n g) with h'|h'
 .exact h'
 .have:=prodR_pos.1 h' k hk;omega
theorem Jzs{S:Nat}(hS:1<=S): ∀ {n:Nat} {g:Nat->Nat},(∀ c,c<n->g c<=S)->Jf n g<=S^n
 | 0,_,_=>Nat.le_refl _
 | n+1,g,h=>by
  rw [Jf,Nat.pow_succ];exact Nat.mul_le_mul (Jzs hS λc hc=>h c om) (h n om)
theorem Qyg{B0 n f b cb cv ct:Nat}{kf:Nat->Nat}{pf:Nat->Int}{R:Nat->List Row}{vR Dv Pv Av Kv:Value}{BA VA TA:Option Addr}{wF w:World}{va ta:List Value}{T:Nat->Row->Nat}{ats:List Atm}{AR:Nat->Prop}(hF:FixW B0 n f kf pf R vR BA wF)(hW:BldW wF b n (bCs n f Dv Pv Av BA cb vR VA cv TA ct Kv) VA cv TA ct w va ta)(hAv:GV 3 AtG wF Av ats)(hpf:∀ c,c<n->pf c = -1∨∃ p:Nat,pf c=p)(hdv:∀ c,c<n->f<=c->DnV AR (T c) w (va.getD c (.map none)))(hdt:∀ c,c<n->c<f->DnT AR (T c) w (ta.getD c (.map none)))(hroot:∀ c,c<n->pf c = -1->f<=c->∀ k,0<T c k->k=[])(hT1:∀ c,f<=c->∀ k,T c k<=1)(hTb:∀ c k,T c k<=4294967296^20):
  Ret Tryz.prog 85 [.pointer (some ⟨b,0,none⟩)] w λu w'=>NatV w' u (Xe n pf T ats)/\Fresh w u/\Ext w w':=by
 have af:Fresh w (.slice none 0 0):=λad m c e=>by cases e
 obtain ⟨a7,hB,b2,b5⟩:=hW;have bp:=hF.n32;obtain ⟨AA,ac,c1,rfl,c0,bz,bm,bn⟩:=hAv.parts;refine Jz Tryz.func85 Tryz.ntmps85 rfl kr rfl ?_;refine ρ ?_;refine ld (hB.at (i:=4) rfl) ?_;refine ρ ?_;refine Qd (fun (i:Nat)=>[(0,.pointer (some ⟨b,0,none⟩)),(2,.slice none 0 0),(12,.slice AA ats.length ac),(13,.int .i64 (ats.length:Int)),(14,.int .i64 (i:Int))])
  (λi w'=>i<=ats.length/\Ext w w'/\∀ j (hj:j<ats.length),j<i->ats[j].rows≠[]) (λi=>ats.length-i) 0 sB ⟨Nat.zero_le _,Ext.refl _,λj hj h=>om⟩ ?_
 rintro i w1 ⟨hi,a1,a4⟩;refine ρ ?_;refine ci (λh=>?_) (λh=>?_)
 .have li:i<ats.length:=by have:=oT h;omega
  clear h;have U:=a7.trans a1;obtain ⟨ce,bw,⟨⟨t1,t2,t3⟩,rfl,b9⟩,am⟩:=bn i li;obtain ⟨⟨PA,pc,bd,bs,br,bq⟩,bc,aa⟩:=id b9;simp only at bd bc;obtain ⟨a5,PG,a6,bo,ba,_⟩:=id aa;simp only at ba bo;subst bd;subst bc;subst ba;have ae:∀ j u,([.slice PA ats[i].vars.length pc,.int .i64 (ats[i].ar:Int),.slice PG a5.length a6]:List Value)[j]?=some u->w1.cell? ((adr AA (i*3)).add j)=some u:=λj u hu=>Us U (am j u hu);refine ρ ?_;refine ixq 3 i (bm.ext U) li ?_;refine ρ ?_;refine lds (cs:=[.slice PA ats[i].vars.length pc,.int .i64 (ats[i].ar:Int),.slice PG a5.length a6]) ae ?_;refine ρ ?_;refine alc Yj ?_;intro w2 bb a9 an ao;refine ρ ?_;refine stb (cs':=[.slice PA ats[i].vars.length pc,.int .i64 (ats[i].ar:Int),.slice PG a5.length a6]) ao ?_ (Ge rfl);intro w3 b7 bv O;have Z:Ext w1 w3:=O w1 a9 an;refine ρ ?_;refine lds (cs:=[.int .i64 (ats[i].ar:Int),.slice PG a5.length a6]) (λj u hu=>b7.sub (i:=1) (j:=j) (by rw [Nat.add_comm];exact hu)) ?_
  refine ρ ?_;refine cl (Jzq (b9.ext (U.trans Z)).rel) ?_;rintro u w4 ⟨rfl,a8⟩;refine ρ ?_;refine ci (λh=>?_) (λh=>?_)
  .have h0:ats[i].rows.length=0:=by have:=Xl h;omega
   refine ρ ?_;refine Jj ⟨?_,af,(a1.trans Z).trans a8⟩;have e:Xe n pf T ats=0:=by
    unfold Xe;rw [if_pos];exact List.any_eq_true.2 ⟨ats[i],List.getElem_mem li,by rw [List.isEmpty_iff];exact List.eq_nil_of_length_eq_zero h0⟩
   rw [e];exact NatV.nil _
  .have h0:ats[i].rows.length≠0:=λe=>by have:=Xm h;omega
   refine ρ ?_;refine Qw (i+1) sO ⟨li,(a1.trans Z).trans a8,λj hj bt=>?_⟩ om;by_cases e:j=i
   .subst e;intro e2;rw [e2]at h0;exact h0 rfl
   .exact a4 j hj om
 have bi:i=ats.length:=by have:=oF h;omega
 clear h;have ah:ats.any (λa=>a.rows.isEmpty)=false:=by
  rw [List.any_eq_false];intro a ha he;obtain ⟨j,hj,rfl⟩:=List.getElem_of_mem ha;exact a4 j hj om (List.isEmpty_iff.1 he)
 have ai:Xe n pf T ats=Jf n λv=>if pf v = -1 then T v [] else 1:=by unfold Xe;rw [ah];rfl
 rw [ai];clear ai ah a4 bi;obtain ⟨g,hg⟩:∃ g:Nat->Nat,g=λv=>if pf v = -1 then T v [] else 1:=⟨_,rfl⟩
 rw [<-hg];have ax:∀ v,g v<=4294967296^20:=λv=>by
  rw [hg];simp only;split
  .exact hTb _ _
  .exact Nat.pow_pos (by decide)
 have bg:∀ k,k<=n->Nb (Jf k g):=λk hk=>Nb.pow (k:=k) (Jzs (Nat.pow_pos (by decide)) λc _=>ax c) om;have bj:∀ v,Nb (g v):=λv=>Nb.pow (k:=1) (by rw [Nat.pow_one];exact ax v) om;refine ρ ?_;refine cl (Uf 1 (by decide) _) ?_;rintro vp w2 ⟨aw,b1,a9⟩;have a2:=a1.trans a9;refine ρ ?_;refine ld ((hB.ext a2).at (i:=5) rfl) ?_;refine ρ ?_;refine Ja (fun (k:Nat) (vp:Value)=>[(0,.pointer (some ⟨b,0,none⟩)),(2,.slice none 0 0),(5,vp),(27,.slice BA n cb),(28,.int .i64 (n:Int)),(29,.int .i64 (k:Int))])
  (λk vp w'=>k<=n/\Ext w w'/\NatV w' vp (Jf k g)/\Fresh w vp) (λk _=>n-k) 0 vp sB ⟨Nat.zero_le _,a2,aw,λad m c e=>nL a1.size (b1 ad m c e)⟩ ?_
 clear b1 aw a2 a9 vp w2;rintro k vp w3 ⟨hk,O,a3,ak⟩;refine ρ ?_;refine ci (λh=>?_) (λh=>?_)
 .have lk:k<n:=by have:=oT h;omega
  clear h;have ab:∀ j u,(Qf kf pf k)[j]?=some u->w3.cell? ((adr BA (k*3)).add j)=some u:=λj u hu=>by
   have hj:j<3:=by
    rcases Nat.lt_or_ge j 3 with h'|h'
    .exact h'
    .rw [List.getElem?_eq_none (by simp [Qf];omega)]at hu;cases hu
   rw [Xg];exact (hF.bags.ext (a7.trans O)).cell ((Jjk (sz:=3) (λ_ _=>rfl) lk hj).trans hu)
  refine ρ ?_;refine ixq 3 k (hF.bags.ext (a7.trans O)) lk ?_;refine ρ ?_;refine lds (cs:=Qf kf pf k) ab ?_;refine ρ ?_;refine alc zBag ?_;intro w4 bb a8 an ao;refine ρ ?_;refine stb (cs':=Qf kf pf k) ao ?_ Jzw;intro w5 b6 bu be;have G:Ext w3 w5:=be w3 a8 an;have C:=O.trans G;refine ρ ?_;refine ld (b6.at (i:=2) rfl) ?_;refine ρ ?_;refine ci (λh=>?_) (λh=>?_)
  .have a4:pf k≠-1:=by have:=oT h;omega
   refine ρ ?_;refine Jl (k+1) vp sO ⟨lk,C,?_,ak⟩ om;have e:Jf (k+1) g=Jf k g:=by rw [Jf,hg];simp only;rw [if_neg a4,Nat.mul_one]
   rw [e];exact a3.ext G
  .have hp:pf k = -1:=by
    have:=oF h;rcases hpf k lk with h'|⟨p,h'⟩
    .exact h'
    .omega
   have ap:g k=T k []:=by rw [hg];simp only;rw [if_pos hp]
   have b8:=hB.ext C;refine ρ ?_;refine ld (b8.at (i:=1) rfl) ?_;refine ρ ?_;refine ci (λh=>?_) (λh=>?_)
   .have lf:k<f:=by have:=oT h;omega
    obtain ⟨mb,m,fm,e1,e2,⟨e3,e4⟩,e5⟩:=hdt k lk lf;have aj:ta[k]?=some (.map (some mb)):=by
     rw [<-e1];have hl:=b5.1;simp [List.getD,List.getElem?_eq_getElem (show k<ta.length by omega)]
    have aq:Ext w5 w5.drew:=(Ext.refl w5).drew;have o:=C.trans aq;have b4:=(Rd.own b5).ext o;have ag:FitR []:=⟨by simp,λv hv=>by cases hv⟩;refine ρ ?_;refine dr [(0,0),(0,1),(0,2),(0,3),(0,4),(0,5),(0,6),(0,7),(1,8),(0,9),(1,10),(0,11)] kr ?_;refine ρd ?_;refine dld ((hB.ext o).at (i:=8) rfl) ?_;refine ρd ?_;refine dix k b4 lk ?_;refine ρd ?_;refine dld (b4.cell aj) ?_;refine ρd ?_;refine dcl (Jxl (r:=[]) (A:=none) (c:=0) (hF.tb.ext (a7.trans o)) Rd.nil (λu hu=>by cases hu) (by have:=ag.len;omega) (by simp)) ?_;rintro un w6 ⟨rfl,J⟩;refine ⟨J,?_⟩;refine ρd ?_;refine dmlk KS (e3.ext (o.trans J)) zNat (Gy ag) ?_;have av:NatV w6 ((fm (.string (idn []))).getD (.slice none 0 0)) (g k):=by
     rw [ap];rcases e5 []with ⟨h6,h7⟩|⟨y,h6,h7,h8⟩
     .rw [h6,h7];exact NatV.nil _
     .rw [h6];exact h8.1.ext (o.trans J)
    refine ρd ?_;refine dcl (Jzz (a3.ext ((G.trans aq).trans J)) av (bg k hk).len (bj k).len) ?_;rintro vr w7 ⟨bf,ay,au⟩;refine ⟨au,?_⟩;refine ρd ?_;refine ρ ?_;exact Jl (k+1) vr sO ⟨lk,(o.trans J).trans au,bf,λad m c e=>nL (o.trans J).size (ay ad m c e)⟩ om
   .have lf:f<=k:=by have:=oF h;omega
    obtain ⟨mb,m,fm,e1,e2,⟨e3,e4⟩,e5,e6⟩:=hdv k lk lf;have aj:va[k]?=some (.map (some mb)):=by
     rw [<-e1];have hl:=b2.1;simp [List.getD,List.getElem?_eq_getElem (show k<va.length by omega)]
    have b3:=(Rd.own b2).ext C;refine ρ ?_;refine ld (b8.at (i:=7) rfl) ?_;refine ρ ?_;refine ix k b3 lk ?_;refine ρ ?_;refine ld (b3.cell aj) ?_;refine ρ ?_;refine mln KS (e3.ext C) ?_;intro q hq;refine ρ ?_;refine ci (λh=>?_) (λh=>?_)
    .have h0:q=0:=by have:=Xl h;omega
     have h1:=hq.1 h0 (.string (idn []));rw [e5]at h1;have h2:T k []=0:=by
      rcases Nat.eq_zero_or_pos (T k []) with h'|h'
      .exact h'
      .rw [if_pos h']at h1;cases h1
     refine ρ ?_;refine Jj ⟨?_,af,C⟩;rw [Qdx lk (by rw [ap,h2])];exact NatV.nil _
    .have h0:¬ q=0:=λe=>by have:=Xm h;omega
     have h1:0<T k []:=by
      refine Classical.byContradiction λh'=>h0 (hq.2 λkl=>?_);cases hfk:fm kl with
      | none=>rfl
      | some x=>
       obtain ⟨r,rfl⟩:=e6 kl (by rw [hfk];simp);rw [e5]at hfk;split at hfk
       .rename_i hr;rw [hroot k lk hp lf r hr]at hr;exact absurd hr h'
       .cases hfk
     refine ρ ?_;refine Jl (k+1) vp sO ⟨lk,C,?_,ak⟩ om;have h2:=hT1 k lf [];have e:Jf (k+1) g=Jf k g:=by rw [Jf,ap,show T k []=1 by omega,Nat.mul_one]
     rw [e];exact a3.ext G
 have bh:k=n:=by have:=oF h;omega
 rw [bh]at a3;refine ρ ?_;exact Jj ⟨a3,ak,O⟩
end Go.Proofs.YtebcagekopgdhaaGreatDoor
