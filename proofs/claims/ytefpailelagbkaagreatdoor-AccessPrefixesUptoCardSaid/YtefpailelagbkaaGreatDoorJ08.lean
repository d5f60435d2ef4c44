/- Part 8 of the proof: Pdq, Pdq2, Pdq3. -/
import Derived.Test.YtefpailelagbkaaGreatDoorJ07
import Derived.Laws.Bits64b
set_option linter.unusedVariables false
set_option maxRecDepth 100000
set_option maxHeartbeats 40000000
namespace Go.Wk
section
variable {P:Program} {n:Nat} {al:AL} {w:World} {Q:Exit->Act->World->Prop} {ops:Array Oper} {rest:List Oper} {d ty:Nat} {pos:String} {aft:Array Edge}
theorem qn{x y:Operand}{t yt:TypeId}{a b:Int}(m q:Nat)(k:WL P n ops Q rest ((d,.int .i64 ((m / q:Nat):Int))::al) w)(hx:ev al x=some (.int .i64 a):=by rfl)(hy:ev al y=some (.int .i64 b):=by rfl)(ha:a=(m:Int):=by first|rfl|omega)(hb:b=(q:Int):=by first|rfl|omega)(h0:0<q:=by omega)(hm:m<=9223372036854775807:=by omega)(hd:Nat.blt d n=true:=by rfl): WL P n ops Q (⟨some d,.binOp .quo t x y yt,ty,pos,aft,none⟩::rest) al w:=by
 subst ha;subst hb;refine wquo hx hy (by omega) hd ?_;have e:IntKind.i64.wrap ((m:Int).tdiv (q:Int))=((m / q:Nat):Int):=by
  rw [Int.tdiv_eq_ediv_of_nonneg (by omega),<-Int.natCast_ediv];have:=Nat.div_le_self m q;generalize m / q=r at *
  exact Qsd (by omega)
 rw [e];exact k
variable {drest:List (Nat×Oper)}
theorem dshl{x y:Operand}{t yt:TypeId}{k1 k2:IntKind}{a b:Int}(k:WD P n ops Q drest ((d,.int k1 (k1.wrap (a*2^(min b.toNat k1.bits))))::al) w)(hx:ev al x=some (.int k1 a):=by rfl)(hy:ev al y=some (.int k2 b):=by rfl)(h0:0<=b:=by decide)(hd:Nat.blt d n=true:=by rfl):
  WD P n ops Q ((0,⟨some d,.binOp .shl t x y yt,ty,pos,aft,none⟩)::drest) al w :=
 dy (λw' _ e he=>by
  have h1:¬ b<0:=by omega
  simp [execOp,he.ev hx,he.ev hy,eqGuard,binOp,Op.shift,h1]) hd k
theorem dshr{x y:Operand}{t yt:TypeId}{k1 k2:IntKind}{a b:Int}(k:WD P n ops Q drest ((d,.int k1 (a.fdiv (2^(min b.toNat k1.bits))))::al) w)(hx:ev al x=some (.int k1 a):=by rfl)(hy:ev al y=some (.int k2 b):=by rfl)(h0:0<=b:=by decide)(hd:Nat.blt d n=true:=by rfl):
  WD P n ops Q ((0,⟨some d,.binOp .shr t x y yt,ty,pos,aft,none⟩)::drest) al w :=
 dy (λw' _ e he=>by
  have h1:¬ b<0:=by omega
  simp [execOp,he.ev hx,he.ev hy,eqGuard,binOp,Op.shift,h1]) hd k
end
end Go.Wk
namespace Go.Proofs.YtefpailelagbkaaGreatDoor
open Go.RowKit Pl Go.Wk
attribute [local irreducible] WC WL QX WD WDB WP
structure DP(w0 w:World)(base:Nat)(A:Option Addr)(n c:Nat)(ps q:List Pr): Prop where
 d:Dat w base (.slice A n c) q
 p:q.Perm ps
 g:w0.grownBy w (Value.slice A n c).ownBlock
 l:q.length=n
section
variable {w0 w w':World} {base:Nat} {A:Option Addr} {n c:Nat} {ps q:List Pr}
theorem DP.start(hD:Dat w base (.slice A n c) ps)(hn:ps.length=n): DP w w base A n c ps ps:=⟨hD,List.Perm.refl _,Jqj (Ext.refl w) _,hn⟩
theorem DP.ext(h:DP w0 w base A n c ps q)(hx:Ext w w'): DP w0 w' base A n c ps q:=⟨h.d.ext hx,h.p,Jjw h.g (Jqj hx _),h.l⟩
theorem DP.drew(h:DP w0 w base A n c ps q): DP w0 w.drew base A n c ps q:=h.ext (Ext.refl w).drew
theorem DP.rd(h:DP w0 w base A n c ps q): Rd w 1 A n (q.map (·.1)):=h.d.rd h.l
theorem DP.cell(h:DP w0 w base A n c ps q){i:Nat}(hi:i<n): w.cell? (adr A i)=some (q.getD i z0).1:=h.d.cell h.l hi
theorem DP.one(h:DP w0 w base A n c ps q){i:Nat}(hi:i<n): (q.getD i z0).1.oneCell'=true:=h.d.one (h.l.symm ▸ hi)
theorem DP.swap(h:DP w0 w base A n c ps q){i j:Nat}(hi:i<n)(hj:j<n):
  w.frozen? (adr A i)=false/\Rd (w.setCell (adr A i) (q.getD j z0).1) 1 A n ((q.set i (q.getD j z0)).map (·.1))/\(w.setCell (adr A i) (q.getD j z0).1).frozen? (adr A j)=false /\
  (∃ u,(w.setCell (adr A i) (q.getD j z0).1).cell? (adr A j)=some u)/\DP w0 ((w.setCell (adr A i) (q.getD j z0).1).setCell (adr A j) (q.getD i z0).1) base A n c ps (swp z0 q i j)/\w.grownBy ((w.setCell (adr A i) (q.getD j z0).1).setCell (adr A j) (q.getD i z0).1) (Value.slice A n c).ownBlock:=by
 obtain ⟨s1,s2,s3,s4,s5,s6⟩:=h.d.swap h.l hi hj;exact ⟨s1,s2,s3,s4,⟨s5,(Qvm z0 q (h.l.symm ▸ hi) (h.l.symm ▸ hj)).trans h.p,Jjw h.g s6,by rw [Xxc];exact h.l⟩,s6⟩
theorem DP.box(h:DP w0 w base A n c ps q){g t:Nat}{cs:List Value}(hB:Blk w g t cs)(hne:Nat.beq 40 t=false)(hg:w0.heap.size<=g)(u:Value): DP w0 (w.setCell ⟨g,0,none⟩ u) base A n c ps q:=by
 have e1:w.grownBy (w.setCell ⟨g,0,none⟩ u) (some g):=⟨rfl,rfl,rfl,by simp [World.setCell],λk hk hn=>Below.heap_setCell w ⟨g,0,none⟩ u k (λe=>hn (by rw [e]))⟩;refine ⟨⟨h.d.1.kept e1 (Or.inr ?_),h.d.2⟩,h.p,?_,h.l⟩
 ·exact λe=>hB.ne_own h.d.1 hne e.symm
 ·refine ⟨h.g.os,h.g.tape,h.g.output,?_,λk hk hn=>?_⟩
  ·simp [World.setCell];exact h.g.size
  ·exact (Below.heap_setCell w ⟨g,0,none⟩ u k (by simp;omega)).trans (h.g.block k hk hn)
end
def CF(w:World)(row:Option Nat)(fid:FuncId)(first cap:Array Value)(M:List Pr)(ds:List Bool): Prop :=
 ∀ w',w.grownBy w' row->∀ p q,p∈M->q∈M->Ret Tryz.prog fid (first.toList++[p.1,q.1]++cap.toList) w' λr w''=>r=.int .i64 (fP ds p q)/\Ext w' w''
theorem CF.call{w0 w:World}{base:Nat}{A:Option Addr}{n c:Nat}{ps q:List Pr}{fid:FuncId}{first cap:Array Value}{ds:List Bool}(hC:CF w0 (Value.slice A n c).ownBlock fid first cap ps ds)(h:DP w0 w base A n c ps q){i j:Nat}(hi:i<n)(hj:j<n):
  Ret Tryz.prog fid (first.toList++[(q.getD i z0).1,(q.getD j z0).1]++cap.toList) w λr w''=>∃ b:Int,r=.int .i64 b/\Ext w w'' :=
 (hC w h.g _ _ (h.p.mem_iff.1 (getD_mem' z0 q (h.l.symm ▸ hi))) (h.p.mem_iff.1 (getD_mem' z0 q (h.l.symm ▸ hj)))).mono λr w'' ⟨h1,h2⟩=>⟨_,h1,h2⟩
theorem CF.pack{w:World}{row:Option Nat}{fid:FuncId}{first cap:Array Value}{M:List Pr}{ds:List Bool}(h:CF w row fid first cap M ds): CmpF w row (.func (.func fid) first cap) M ds:=⟨fid,first,cap,rfl,h⟩
theorem CF.step{w w1:World}{base:Nat}{A:Option Addr}{n c:Nat}{ps q:List Pr}{fid:FuncId}{first cap:Array Value}{ds:List Bool}(hC:CF w (Value.slice A n c).ownBlock fid first cap ps ds)(h:DP w w1 base A n c ps q): CF w1 (Value.slice A n c).ownBlock fid first cap q ds :=
 λw' hg' a b ha hb=>hC w' (Jjw h.g hg') a b (h.p.mem_iff.1 ha) (h.p.mem_iff.1 hb)
theorem DP.after{w0 w w':World}{base:Nat}{A:Option Addr}{n c:Nat}{ps q q':List Pr}(h:DP w0 w base A n c ps q)(k:DP w w' base A n c q q'): DP w0 w' base A n c ps q':=⟨k.d,k.p.trans h.p,Jjw h.g k.g,k.l⟩
theorem Qkh{w:World}{base:Nat}{A:Option Addr}{n c:Nat}{fid:FuncId}{first cap:Array Value}{ps:List Pr}{ds:List Bool}(hD:Dat w base (.slice A n c) ps)(hn:ps.length=n)(hmx:n<=140737488355328)(hC:CF w (Value.slice A n c).ownBlock fid first cap ps ds){a b:Nat}{ai bi:Int}(hai:ai=(a:Int))(hbi:bi=(b:Int))(hab:a<b)(hb:b<=n):
  Ret Tryz.prog 170 [.slice A n c,.int .i64 ai,.int .i64 bi,.func (.func fid) first cap] w λv w'=>∃ ps',DP w w' base A n c ps ps':=by
 subst hai;subst hbi;refine Jjb Tryz.func170 Tryz.ntmps170 rfl (by kernel_rfl) rfl ?_;refine ρ ?_;refine Jzk (fun (i j:Nat) (q:List Pr)=>[(0,.slice A n c),(8,.int .i64 (i:Int)),(9,.int .i64 ((j:Int)-1))])
  (λi j q w'=>DP w w' base A n c ps q/\j<=n/\i<=n) (λi j _=>n+j-i) a b ps sO ⟨DP.start hD hn,hb,by omega⟩ ?_
 rintro i j q w1 ⟨H,hj,hi⟩;refine ρ ?_;refine ci (λh=>?_) (λh=>?_)
 ·have hlt:i+1<j:=by have:=of_decide_eq_true h;omega
  have lx:i<n:=by omega
  have ly:j-1<n:=by omega
  refine ρ ?_;refine drC 4 [0,1,2,3,4,5,8,9] [(0,6),(0,7),(0,10),(0,11),(0,12),(2,13),(2,14),(2,15)] (by kernel_rfl) ?_;have Hd:=H.drew;obtain ⟨s1,s2,s3,⟨u,s4⟩,s5,s6⟩:=Hd.swap lx ly;refine ρp ?_;refine dix (j-1) Hd.rd ly ?_;refine ρd ?_;refine dld (Hd.cell ly) ?_;refine ρd ?_;refine dix (i) Hd.rd lx ?_;refine ρd ?_;refine dld (Hd.cell lx) ?_;refine ρd ?_;refine dix (i) Hd.rd lx ?_;refine ρd ?_;refine Jqz ?_;refine sto (Hd.cell lx) s1 ?_ (hv:=Hd.one ly);refine ρ ?_;refine Jxx ?_;refine Jqz ?_;refine ix (j-1) s2 ly ?_;refine ρ ?_;refine Jxx ?_;refine Jqz ?_;refine sto s4 s3 ?_ (hv:=Hd.one lx);refine ρ ?_;exact Jqf (i+1) (j-1) (swp z0 q i (j-1)) sO ⟨s5,by omega,by omega⟩ (by omega)
 ·refine ρ ?_;exact Qmk ⟨q,H⟩
theorem Jgp{w:World}{base:Nat}{A:Option Addr}{n c:Nat}{fid:FuncId}{first cap:Array Value}{ps:List Pr}{ds:List Bool}(hD:Dat w base (.slice A n c) ps)(hn:ps.length=n)(hmx:n<=140737488355328)(hC:CF w (Value.slice A n c).ownBlock fid first cap ps ds){lo hi fst:Nat}{loi hii fsti:Int}(hlo:loi=(lo:Int))(hhi:hii=(hi:Int))(hfst:fsti=(fst:Int))(hb:fst+hi<=n)(hl:lo<=n):
  Ret Tryz.prog 186 [.slice A n c,.int .i64 loi,.int .i64 hii,.int .i64 fsti,.func (.func fid) first cap] w λv w'=>∃ ps',DP w w' base A n c ps ps':=by
 subst hlo;subst hhi;subst hfst;refine Jjb Tryz.func186 Tryz.ntmps186 rfl (by kernel_rfl) rfl ?_;refine ρ ?_;refine Jjv (fun (root:Nat) (q:List Pr)=>[(0,.slice A n c),(2,.int .i64 (hi:Int)),(3,.int .i64 (fst:Int)),(4,.func (.func fid) first cap),(10,.int .i64 (root:Int))])
  (λroot q w'=>DP w w' base A n c ps q/\root<=n) (λroot _=>n-root) lo ps sB ⟨DP.start hD hn,hl⟩ ?_
 rintro root q w1 ⟨H,hr⟩;refine ρ ?_;refine ci (λh=>?_) (λh=>?_)
 ·refine ρ ?_;exact Qmk ⟨q,H⟩
 have hc0:2*root+1<hi:=by have:=of_decide_eq_false h;omega
 refine ρ ?_;refine Jzl (fun (b:Bool)=>[(0,.slice A n c),(2,.int .i64 (hi:Int)),(3,.int .i64 (fst:Int)),(4,.func (.func fid) first cap),(10,.int .i64 (root:Int)),(11,.int .i64 (2*(root:Int)+1)),(40,.bool b)]) (λb w'=>DP w w' base A n c ps q/\(b=true->2*root+2<hi)) ?_ ?_
 ·skip
  refine dr [(0,0),(0,1),(0,2),(0,3),(0,4),(0,5),(0,6),(0,7),(0,8),(0,9),(0,10),(0,11),(0,12),(0,13),(0,14),(0,15),(0,16),(0,17),(0,18),(1,19),(0,20),(0,21)] (by kernel_rfl) ?_;have Hd:=H.drew;refine ρd ?_;refine dki 23 (λh=>?_) (λh=>?_)
  ·have hc1:2*root+2<hi:=by have:=of_decide_eq_true h;omega
   have li:fst+(2*root+1)<n:=by omega
   have lj:fst+(2*root+1)+1<n:=by omega
   refine ρd ?_;refine dix (fst+(2*root+1)) Hd.rd li ?_;refine ρd ?_;refine dld (Hd.cell li) ?_;refine ρd ?_;refine dix (fst+(2*root+1)+1) Hd.rd lj ?_;refine ρd ?_;refine dld (Hd.cell lj) ?_;refine ρd ?_;refine Qxr (hC.call Hd li lj) ?_;rintro r wH2 ⟨bH2,rfl,hxH2⟩;refine ⟨hxH2,?_⟩;have H2:=Hd.ext hxH2;refine ρd ?_;refine ρ ?_;exact Jjn _ sB ⟨H2,λ_=>hc1⟩
  ·refine ρd ?_;refine ρ ?_;exact Jjn false sB ⟨Hd,λe=>by cases e⟩
 rintro b w2 ⟨H2,hb2⟩;refine Jzl (fun (child:Nat)=>[(0,.slice A n c),(2,.int .i64 (hi:Int)),(3,.int .i64 (fst:Int)),(4,.func (.func fid) first cap),(10,.int .i64 (root:Int)),(11,.int .i64 (child:Int))]) (λchild w'=>DP w w' base A n c ps q/\root<child/\child<hi) ?_ ?_
 ·refine ci (λh=>?_) (λh=>?_)
  ·have:=hb2 h;refine ρ ?_;exact Jjn (2*root+2) sO ⟨H2,by omega,by omega⟩
  ·refine ρ ?_;exact Jjn (2*root+1) sO ⟨H2,by omega,by omega⟩
 rintro child w3 ⟨H3,hc1,hc2⟩;have lx:fst+root<n:=by omega
 have ly:fst+child<n:=by omega
 refine ρ ?_;refine dr [(0,0),(0,1),(0,2),(0,3),(0,4),(0,5),(0,6),(0,7),(0,8),(0,9),(0,10),(0,11),(0,12),(1,13),(0,14),(0,15)] (by kernel_rfl) ?_;have H3d:=H3.drew;refine ρd ?_;refine ρd ?_;refine dix (fst+root) H3d.rd lx ?_;refine ρd ?_;refine dld (H3d.cell lx) ?_;refine ρd ?_;refine dix (fst+child) H3d.rd ly ?_;refine ρd ?_;refine dld (H3d.cell ly) ?_;refine ρd ?_;refine Qxr (hC.call H3d lx ly) ?_;rintro r wH4 ⟨bH4,rfl,hxH4⟩;refine ⟨hxH4,?_⟩;have H4:=H3d.ext hxH4;refine ρd ?_;refine ρ ?_;refine ci (λh=>?_) (λh=>?_)
 ·refine ρ ?_;exact Xwm ⟨q,H4⟩
 refine ρ ?_;refine drC 4 [0,1,2,3,4,5,6,7,8,9,10,11,14,15,16,17] [(0,12),(0,13),(0,18),(0,19),(0,20),(2,21),(2,22),(2,23)] (by kernel_rfl) ?_;have H4d:=H4.drew;obtain ⟨s1,s2,s3,⟨u,s4⟩,s5,s6⟩:=H4d.swap lx ly;refine ρp ?_;refine dix (fst+child) H4d.rd ly ?_;refine ρd ?_;refine dld (H4d.cell ly) ?_;refine ρd ?_;refine dix (fst+root) H4d.rd lx ?_;refine ρd ?_;refine dld (H4d.cell lx) ?_;refine ρd ?_;refine dix (fst+root) H4d.rd lx ?_;refine ρd ?_;refine Jqz ?_;refine sto (H4d.cell lx) s1 ?_ (hv:=H4d.one ly);refine ρ ?_;refine Jxx ?_;refine Jqz ?_;refine ix (fst+child) s2 ly ?_;refine ρ ?_;refine Jxx ?_;refine Jqz ?_;refine sto s4 s3 ?_ (hv:=H4d.one lx);refine ρ ?_;exact Jjj child (swp z0 q (fst+root) (fst+child)) sB ⟨s5,by omega⟩ (by omega)
theorem Qxl{w:World}{base:Nat}{A:Option Addr}{n c:Nat}{fid:FuncId}{first cap:Array Value}{ps:List Pr}{ds:List Bool}(hD:Dat w base (.slice A n c) ps)(hn:ps.length=n)(hmx:n<=140737488355328)(hC:CF w (Value.slice A n c).ownBlock fid first cap ps ds){a b:Nat}{ai bi:Int}(hai:ai=(a:Int))(hbi:bi=(b:Int))(hab:a<b)(hb:b<=n):
  Ret Tryz.prog 167 [.slice A n c,.int .i64 ai,.int .i64 bi,.func (.func fid) first cap] w λv w'=>∃ ps',DP w w' base A n c ps ps':=by
 subst hai;subst hbi;refine Jjb Tryz.func167 Tryz.ntmps167 rfl (by kernel_rfl) rfl ?_;refine ρ ?_;refine qn (b-a-1) 2 ?_;refine ρ ?_;refine Jjv (fun (i:Nat) (q:List Pr)=>[(0,.slice A n c),(3,.func (.func fid) first cap),(8,.int .i64 (a:Int)),(9,.int .i64 0),(10,.int .i64 ((b:Int)-(a:Int))),(11,.int .i64 ((i:Int)-1))])
  (λi q w'=>DP w w' base A n c ps q/\i<=n) (λi _=>i) ((b-a-1) / 2+1) ps sO ⟨DP.start hD hn,by omega⟩ ?_
 rintro i q w1 ⟨H,hi⟩;refine ρ ?_;refine ci (λh=>?_) (λh=>?_)
 ·have hi0:0<i:=by have:=of_decide_eq_true h;omega
  refine ρ ?_;refine cl (Jgp (lo:=i-1) (hi:=b-a) (fst:=a) (loi:=(i:Int)-1) (hii:=(b:Int)-(a:Int)) H.d H.l hmx (hC.step H) (by omega) (by omega) rfl (by omega) (by omega)) ?_;rintro v w2 ⟨q2,H2⟩;refine ρ ?_;exact Jjj (i-1) q2 sO ⟨H.after H2,by omega⟩ (by omega)
 refine ρ ?_;refine Jjv (fun (i:Nat) (q:List Pr)=>[(0,.slice A n c),(3,.func (.func fid) first cap),(8,.int .i64 (a:Int)),(9,.int .i64 0),(12,.int .i64 ((i:Int)-1))])
  (λi q w'=>DP w w' base A n c ps q/\i<=b-a) (λi _=>i) (b-a) q sO ⟨H,by omega⟩ ?_
 rintro i q w1 ⟨H,hi⟩;refine ρ ?_;refine ci (λh=>?_) (λh=>?_)
 ·have hi0:0<i:=by have:=of_decide_eq_true h;omega
  have lx:a<n:=by omega
  have ly:a+(i-1)<n:=by omega
  refine ρ ?_;refine drC 4 [0,1,2,3,4,5,6,7,8,9,12,13] [(0,10),(0,11),(0,14),(0,15),(0,16),(2,17),(2,18),(2,19)] (by kernel_rfl) ?_;have Hd:=H.drew;obtain ⟨s1,s2,s3,⟨u,s4⟩,s5,s6⟩:=Hd.swap lx ly;refine ρp ?_;refine dix (a+(i-1)) Hd.rd ly ?_;refine ρd ?_;refine dld (Hd.cell ly) ?_;refine ρd ?_;refine dix (a) Hd.rd lx ?_;refine ρd ?_;refine dld (Hd.cell lx) ?_;refine ρd ?_;refine dix (a) Hd.rd lx ?_;refine ρd ?_;refine Jqz ?_;refine sto (Hd.cell lx) s1 ?_ (hv:=Hd.one ly);refine ρ ?_;refine Jxx ?_;refine Jqz ?_;refine ix (a+(i-1)) s2 ly ?_;refine ρ ?_;refine Jxx ?_;refine Jqz ?_;refine sto s4 s3 ?_ (hv:=Hd.one lx);refine ρ ?_;refine cl (Jgp (lo:=0) (hi:=i-1) (fst:=a) (loi:=0) (hii:=(i:Int)-1) s5.d s5.l hmx (hC.step s5) rfl (by omega) rfl (by omega) (by omega)) ?_;rintro v w2 ⟨q2,H2⟩;refine ρ ?_;exact Jjj (i-1) q2 sO ⟨s5.after H2,by omega⟩ (by omega)
 refine ρ ?_;exact Qmk ⟨q,H⟩
open Go.RowKit Pl Go.Wk
theorem zInt: Jxc Tryz.prog 3=some (.int .i64 0):=by kernel_rfl
theorem zXor: Jxc Tryz.prog 262=some (.int .u64 0):=by kernel_rfl
theorem Jfw{w0 w:World}{base:Nat}{A:Option Addr}{n c:Nat}{fid:FuncId}{first cap:Array Value}{ps q:List Pr}{ds:List Bool}(H:DP w0 w base A n c ps q)(hmx:n<=140737488355328)(hC:CF w0 (Value.slice A n c).ownBlock fid first cap ps ds){g:Nat}{s:Int}(hB:Blk w g 3 [.int .i64 s])(hg:w0.heap.size<=g){a b:Nat}(ha:a<n)(hb:b<n):
  Ret Tryz.prog 199 [.slice A n c,.int .i64 (a:Int),.int .i64 (b:Int),.pointer (some ⟨g,0,none⟩),.func (.func fid) first cap] w λr w'=>∃ x y:Nat,∃ s':Int,r=.tuple #[.int .i64 (x:Int),.int .i64 (y:Int)]/\((x=a/\y=b)∨(x=b/\y=a))/\DP w0 w' base A n c ps q/\Blk w' g 3 [.int .i64 s']:=by
 refine Jjb Tryz.func199 Tryz.ntmps199 rfl (by kernel_rfl) rfl ?_;refine ρ ?_;refine dr [(0,0),(0,1),(0,2),(0,3),(0,4),(0,5),(0,6),(0,7),(0,8),(1,9),(0,10)] (by kernel_rfl) ?_;have Hd:=H.drew;refine ρd ?_;refine ρd ?_;refine dix (b) Hd.rd hb ?_;refine ρd ?_;refine dld (Hd.cell hb) ?_;refine ρd ?_;refine dix (a) Hd.rd ha ?_;refine ρd ?_;refine dld (Hd.cell ha) ?_;refine ρd ?_;refine Qxr (hC.call Hd hb ha) ?_;rintro r wH2 ⟨bH2,rfl,hxH2⟩;refine ⟨hxH2,?_⟩;have H2:=Hd.ext hxH2;refine ρd ?_;refine ρ ?_;have hB2:=(hB.ext (Ext.refl w).drew).ext hxH2;refine ci (λh=>?_) (λh=>?_)
 ·refine ρ ?_;refine ld (hB2.cell 0) ?_;refine ρ ?_;refine sto (hB2.cell 0) (hB2.frozen 0) ?_;refine ρ ?_;exact Qjk ⟨b,a,_,rfl,.inr ⟨rfl,rfl⟩,H2.box hB2 rfl hg _,hB2.set 0 _⟩
 ·refine ρ ?_;exact Qjk ⟨a,b,_,rfl,.inl ⟨rfl,rfl⟩,H2,hB2⟩
theorem Jrb{w0 w:World}{base:Nat}{A:Option Addr}{n c:Nat}{fid:FuncId}{first cap:Array Value}{ps q:List Pr}{ds:List Bool}(H:DP w0 w base A n c ps q)(hmx:n<=140737488355328)(hC:CF w0 (Value.slice A n c).ownBlock fid first cap ps ds){g:Nat}{s:Int}(hB:Blk w g 3 [.int .i64 s])(hg:w0.heap.size<=g){a b e:Nat}(ha:a<n)(hb:b<n)(he:e<n):
  Ret Tryz.prog 190 [.slice A n c,.int .i64 (a:Int),.int .i64 (b:Int),.int .i64 (e:Int),.pointer (some ⟨g,0,none⟩),.func (.func fid) first cap] w λr w'=>∃ m:Nat,∃ s':Int,r=.int .i64 (m:Int)/\(m=a∨m=b∨m=e)/\DP w0 w' base A n c ps q/\Blk w' g 3 [.int .i64 s']:=by
 refine Jjb Tryz.func190 Tryz.ntmps190 rfl (by kernel_rfl) rfl ?_;refine ρ ?_;refine cl (Jfw H hmx hC hB hg ha hb) ?_;rintro r w1 ⟨a1,b1,s1,rfl,e1,H1,hB1⟩;refine ρ ?_;refine cl (Jfw (a:=b1) (b:=e) H1 hmx hC hB1 hg (by omega) he) ?_;rintro r w2 ⟨b2,e2,s2,rfl,e3,H2,hB2⟩;refine ρ ?_;refine cl (Jfw (a:=a1) (b:=b2) H2 hmx hC hB2 hg (by omega) (by omega)) ?_;rintro r w3 ⟨a3,b3,s3,rfl,e4,H3,hB3⟩;refine ρ ?_;exact Jjq ⟨b3,_,rfl,by omega,H3,hB3⟩
theorem Jyb{w0 w:World}{base:Nat}{A:Option Addr}{n c:Nat}{fid:FuncId}{first cap:Array Value}{ps q:List Pr}{ds:List Bool}(H:DP w0 w base A n c ps q)(hmx:n<=140737488355328)(hC:CF w0 (Value.slice A n c).ownBlock fid first cap ps ds){g:Nat}{s:Int}(hB:Blk w g 3 [.int .i64 s])(hg:w0.heap.size<=g){a:Nat}{ai:Int}(hai:ai=(a:Int))(ha:0<a)(hb:a+1<n):
  Ret Tryz.prog 189 [.slice A n c,.int .i64 ai,.pointer (some ⟨g,0,none⟩),.func (.func fid) first cap] w λr w'=>∃ m:Nat,∃ s':Int,r=.int .i64 (m:Int)/\(m=a∨m+1=a∨m=a+1)/\DP w0 w' base A n c ps q/\Blk w' g 3 [.int .i64 s']:=by
 subst hai;refine Jjb Tryz.func189 Tryz.ntmps189 rfl (by kernel_rfl) rfl ?_;refine ρ ?_;have l1:a-1<n:=by omega
 have e1:((a:Int)-1)=((a-1:Nat):Int):=by omega
 have e2:((a:Int)+1)=((a+1:Nat):Int):=by omega
 rw [e1,e2];refine cl (Jrb H hmx hC hB hg l1 (by omega:a<n) hb) ?_;rintro r w1 ⟨m,s1,rfl,e1,H1,hB1⟩;refine ρ ?_;exact Jjq ⟨m,_,rfl,by omega,H1,hB1⟩
theorem Qfj{w:World}{base:Nat}{A:Option Addr}{n c:Nat}{fid:FuncId}{first cap:Array Value}{ps:List Pr}{ds:List Bool}(hD:Dat w base (.slice A n c) ps)(hn:ps.length=n)(hmx:n<=140737488355328)(hC:CF w (Value.slice A n c).ownBlock fid first cap ps ds){a b:Nat}{ai bi:Int}(hai:ai=(a:Int))(hbi:bi=(b:Int))(hab:a+12<b)(hb:b<=n):
  Ret Tryz.prog 169 [.slice A n c,.int .i64 ai,.int .i64 bi,.func (.func fid) first cap] w λr w'=>∃ m:Nat,∃ z:Int,r=.tuple #[.int .i64 (m:Int),.int .i64 z]/\a<=m/\m<b/\DP w w' base A n c ps ps:=by
 subst hai;subst hbi;refine Jjb Tryz.func169 Tryz.ntmps169 rfl (by kernel_rfl) rfl ?_;refine ρ ?_;refine alc zInt ?_;intro w1 g hx1 hg hB;have H1:=(DP.start hD hn).ext hx1;refine ρ ?_;refine qn (b-a) 4 ?_;refine ρ ?_;refine qn (b-a) 4 ?_;refine ρ ?_;refine qn (b-a) 4 ?_;refine ρ ?_;refine ct ?_ ?_
 ·exact decide_eq_true (by omega)
 have hq:(b-a) / 4<=(b-a)/\3<=(b-a) / 4/\4*((b-a) / 4)<=b-a:=by omega
 generalize (b-a) / 4=l4 at hq ⊢
 refine ρ ?_;refine Qts (fun (i j k:Nat)=>[(0,.slice A n c),(3,.func (.func fid) first cap),(11,.pointer (some ⟨g,0,none⟩)),(12,.int .i64 (i:Int)),(13,.int .i64 (j:Int)),(14,.int .i64 (k:Int))])
  (λi j k w'=>DP w w' base A n c ps ps/\(∃ s:Int,Blk w' g 3 [.int .i64 s])/\a<=i/\i<b/\a<=j/\j<b/\a<=k/\k<b) ?_ ?_
 ·refine ci (λh=>?_) (λh=>?_)
  ·have h50:=of_decide_eq_true h;refine ρ ?_;refine cl (Jyb (a:=a+l4) (ai:=(a:Int)+(l4:Int)*1) H1 hmx hC hB hg (by omega) (by omega) (by omega)) ?_;rintro r w2 ⟨i,s2,rfl,e2,H2,hB2⟩;refine ρ ?_;refine cl (Jyb (a:=a+l4*2) (ai:=(a:Int)+(l4:Int)*2) H2 hmx hC hB2 hg (by omega) (by omega) (by omega)) ?_;rintro r w3 ⟨j,s3,rfl,e3,H3,hB3⟩;refine ρ ?_;refine cl (Jyb (a:=a+l4*3) (ai:=(a:Int)+(l4:Int)*3) H3 hmx hC hB3 hg (by omega) (by omega) (by omega)) ?_;rintro r w4 ⟨k,s4,rfl,e4,H4,hB4⟩;refine ρ ?_;exact Qvx i j k sB ⟨H4,⟨_,hB4⟩,by omega,by omega,by omega,by omega,by omega,by omega⟩
  ·refine ρ ?_;exact Qvx (a+l4) (a+l4*2) (a+l4*3) sO ⟨H1,⟨_,hB⟩,by omega,by omega,by omega,by omega,by omega,by omega⟩
 rintro i j k w5 ⟨H5,⟨s5,hB5⟩,h1,h2,h3,h4,h5,h6⟩;refine ρ ?_;refine cl (Jrb H5 hmx hC hB5 hg (by omega:i<n) (by omega:j<n) (by omega:k<n)) ?_;rintro r w6 ⟨m,s6,rfl,e6,H6,hB6⟩;refine ρ ?_;refine ld (hB6.cell 0) ?_;refine ρ ?_;refine ci (λh=>?_) (λh=>?_)
 ·refine ρ ?_;exact Qjk ⟨m,_,rfl,by omega,by omega,H6⟩
 refine ρ ?_;refine ci (λh=>?_) (λh=>?_)
 ·refine ρ ?_;exact Qjk ⟨m,_,rfl,by omega,by omega,H6⟩
 refine ρ ?_;exact Qjk ⟨m,_,rfl,by omega,by omega,H6⟩
open Go.RowKit Pl Go.Wk
theorem Qbv(op:BinOp)(x y:Int): 0<=bits op .u64 x y/\bits op .u64 x y<=18446744073709551615:=by
 unfold bits;rw [IntKind.wrap_u64];omega
theorem Xqm{w0 w:World}{base:Nat}{A:Option Addr}{n c:Nat}{ps q:List Pr}(H:DP w0 w base A n c ps q){g:Nat}{r:Int}(hB:Blk w g 262 [.int .u64 r])(hg:w0.heap.size<=g):
  Ret Tryz.prog 188 [.pointer (some ⟨g,0,none⟩)] w λv w'=>∃ r',v=.int .u64 r'/\0<=r'/\r'<=18446744073709551615/\DP w0 w' base A n c ps q/\Blk w' g 262 [.int .u64 r']:=by
 refine Jjb Tryz.func188 Tryz.ntmps188 rfl (by kernel_rfl) rfl ?_;refine ρ ?_;refine dr [(0,0),(0,1),(0,2),(0,3),(0,4),(0,5),(0,6),(0,7),(0,8),(2,9)] (by kernel_rfl) ?_;have b0:=hB.ext (Ext.refl _).drew;have h0:=H.drew;refine ρd ?_;refine dld (b0.cell 0) ?_;refine ρd ?_;refine dld (b0.cell 0) ?_;refine ρd ?_;refine dshl ?_;refine ρd ?_;obtain ⟨x1,hx1⟩:∃ z,z=bits .xor .u64 r (IntKind.u64.wrap (r*2^min (13:Int).toNat IntKind.u64.bits)):=⟨_,rfl⟩;refine dkv 10 (u:=.int .u64 x1) (congrArg (Value.int .u64) hx1.symm) ?_;refine Jqz ?_;refine sto (b0.cell 0) (b0.frozen 0) ?_;refine ρ ?_;have H1:=h0.box b0 rfl hg (.int .u64 x1);have hB1:=b0.set 0 (.int .u64 x1);refine dr [(0,0),(0,1),(0,2),(0,3),(0,4),(0,5),(0,6),(0,7),(0,8),(2,9)] (by kernel_rfl) ?_;have b1:=hB1.ext (Ext.refl _).drew;have h1:=H1.drew;refine ρd ?_;refine dld (b1.cell 0) ?_;refine ρd ?_;refine dld (b1.cell 0) ?_;refine ρd ?_;refine dshr ?_
 refine ρd ?_;obtain ⟨x2,hx2⟩:∃ z,z=bits .xor .u64 x1 (x1.fdiv (2^min (7:Int).toNat IntKind.u64.bits)):=⟨_,rfl⟩;refine dkv 19 (u:=.int .u64 x2) (congrArg (Value.int .u64) hx2.symm) ?_;refine Jqz ?_;refine sto (b1.cell 0) (b1.frozen 0) ?_;refine ρ ?_;have H2:=h1.box b1 rfl hg (.int .u64 x2);have hB2:=b1.set 0 (.int .u64 x2);refine dr [(0,0),(0,1),(0,2),(0,3),(0,4),(0,5),(0,6),(0,7),(0,8),(2,9)] (by kernel_rfl) ?_;have b2:=hB2.ext (Ext.refl _).drew;have h2:=H2.drew;refine ρd ?_;refine dld (b2.cell 0) ?_;refine ρd ?_;refine dld (b2.cell 0) ?_;refine ρd ?_;refine dshl ?_;refine ρd ?_;obtain ⟨x3,hx3⟩:∃ z,z=bits .xor .u64 x2 (IntKind.u64.wrap (x2*2^min (17:Int).toNat IntKind.u64.bits)):=⟨_,rfl⟩;refine dkv 28 (u:=.int .u64 x3) (congrArg (Value.int .u64) hx3.symm) ?_;refine Jqz ?_;refine sto (b2.cell 0) (b2.frozen 0) ?_;refine ρ ?_;have H3:=h2.box b2 rfl hg (.int .u64 x3);have hB3:=b2.set 0 (.int .u64 x3)
 refine ld (hB3.cell 0) ?_;refine ρ ?_;exact Jjq ⟨x3,rfl,by rw [hx3];exact (Qbv _ _ _).1,by rw [hx3];exact (Qbv _ _ _).2,H3,hB3⟩
theorem Qkm{m:Nat}{mi:Int}(hmi:mi=(m:Int))(h0:0<m)(hm:m<=140737488355328)(w:World): Ret Tryz.prog 187 [.int .i64 mi] w λv w'=>∃ p:Nat,v=.int .u64 (p:Int)/\0<p/\p<=2*m/\w'=w:=by
 subst hmi;refine Jjb Tryz.func187 Tryz.ntmps187 rfl (by kernel_rfl) rfl ?_;refine ρ ?_;refine kv 4 (u:=.int .u64 (m:Int)) (congrArg (Value.int .u64) (Qpt (by omega))) ?_;refine cl (Jnv m (by omega) w) ?_;rintro v w' ⟨rfl,rfl⟩;refine ρ ?_;refine wshl rfl rfl (by omega) rfl ?_;obtain ⟨l1,l2⟩:=Qlr (x:=m) (by omega);have l3:Jkv m<=48:=Jgd (by omega);have l4:2^Jkv m=2*2^(Jkv m-1):=by rw [<-Nat.pow_succ'];congr 1;omega
 have e:IntKind.u64.wrap (1*2^min ((Jkv m:Nat):Int).toNat IntKind.u64.bits)=((2^Jkv m:Nat):Int):=by
  have e1:min ((Jkv m:Nat):Int).toNat IntKind.u64.bits=Jkv m:=by simp only [Int.toNat_natCast];exact Nat.min_eq_left (by show Jkv m<=64;omega)
  rw [e1,Int.one_mul];have:((2^Jkv m:Nat):Int)=(2:Int)^Jkv m:=by push_cast;rfl
  rw [<-this];exact Qpt (by omega)
 refine kv 6 (congrArg (Value.int .u64) e) ?_;refine ρ ?_;exact Jjq ⟨2^Jkv m,rfl,Nat.pow_pos (by omega),by omega,rfl⟩
theorem Qnl{w:World}{base:Nat}{A:Option Addr}{n c:Nat}{fid:FuncId}{first cap:Array Value}{ps:List Pr}{ds:List Bool}(hD:Dat w base (.slice A n c) ps)(hn:ps.length=n)(hmx:n<=140737488355328)(hC:CF w (Value.slice A n c).ownBlock fid first cap ps ds){a b:Nat}{ai bi:Int}(hai:ai=(a:Int))(hbi:bi=(b:Int))(hab:a+12<b)(hb:b<=n):
  Ret Tryz.prog 168 [.slice A n c,.int .i64 ai,.int .i64 bi,.func (.func fid) first cap] w λv w'=>∃ ps',DP w w' base A n c ps ps':=by
 subst hai;subst hbi;refine Jjb Tryz.func168 Tryz.ntmps168 rfl (by kernel_rfl) rfl ?_;refine ρ ?_;refine ct ?_ ?_
 ·exact decide_eq_true (by omega)
 refine ρ ?_;refine alc zXor ?_;intro w1 g hx1 hg hB;have H1:=(DP.start hD hn).ext hx1;refine ρ ?_;refine sto (hB.cell 0) (hB.frozen 0) ?_;have H2:=H1.box hB rfl hg (.int .u64 (IntKind.u64.wrap ((b:Int)-(a:Int))));have hB2:=hB.set 0 (.int .u64 (IntKind.u64.wrap ((b:Int)-(a:Int))));refine ρ ?_;refine cl (Qkm (m:=b-a) (mi:=(b:Int)-(a:Int)) (by omega) (by omega) (by omega) _) ?_;rintro v w' ⟨pw,rfl,hp0,hp1,rfl⟩;refine ρ ?_;refine qn (b-a) 4 ?_;refine ρ ?_;have hq:(b-a) / 4<=(b-a)/\3<=(b-a) / 4/\4*((b-a) / 4)<=b-a:=by omega
 refine Jjv (fun (idx:Nat) (q:List Pr)=>[(0,.slice A n c),(1,.int .i64 (a:Int)),(8,.int .i64 ((b:Int)-(a:Int))),(9,.pointer (some ⟨g,0,none⟩)),(10,.int .u64 (pw:Int)),(11,.int .i64 (idx:Int))])
  (λidx q w'=>DP w w' base A n c ps q/\(∃ r:Int,Blk w' g 262 [.int .u64 r])/\a<=idx/\idx<=n) (λidx _=>n-idx) (a+((b-a) / 4)*2-1) ps sO ⟨H2,⟨_,hB2⟩,by omega,by omega⟩ ?_
 rintro idx q w3 ⟨H3,⟨r3,hB3⟩,hi0,hi⟩;refine ρ ?_;refine qn (b-a) 4 ?_;refine ρ ?_;refine ci (λh=>?_) (λh=>?_)
 ·have hidx:idx<=a+((b-a) / 4)*2+1:=by have:=of_decide_eq_true h;omega
  refine ρ ?_;refine cl (Xqm H3 hB3 hg) ?_;rintro v w4 ⟨r4,rfl,hr0,hr1,H4,hB4⟩;refine ρ ?_;have ho:∃ o:Nat,bits .and .u64 r4 (IntKind.u64.wrap ((pw:Int)-1))=(o:Int)/\o<2*(b-a):=by
   obtain ⟨r,rfl⟩:=Int.eq_ofNat_of_zero_le hr0;have e:IntKind.u64.wrap ((pw:Int)-1)=((pw-1:Nat):Int):=by rw [Qpt (by omega)];omega
   rw [e];refine ⟨r &&& (pw-1),bits_and_u64_nat r (pw-1) (by omega) (by omega),?_⟩;have:=Nat.and_le_right (n:=r) (m:=pw-1);omega
  obtain ⟨o,ho1,ho2⟩:=ho;refine Jzl (fun (o:Nat)=>[(0,.slice A n c),(1,.int .i64 (a:Int)),(8,.int .i64 ((b:Int)-(a:Int))),(9,.pointer (some ⟨g,0,none⟩)),(10,.int .u64 (pw:Int)),(11,.int .i64 (idx:Int)),(12,.int .i64 (o:Int))]) (λo w'=>DP w w' base A n c ps q/\Blk w' g 262 [.int .u64 r4]/\o<b-a) ?_ ?_
  ·have e42:IntKind.i64.wrap (bits .and .u64 r4 (IntKind.u64.wrap ((pw:Int)-1)))=(o:Int):=by rw [ho1];exact Qsd (by omega)
   rw [e42];refine ci (λh=>?_) (λh=>?_)
   ·have h1:=of_decide_eq_true h;refine ρ ?_;exact Jjn (o-(b-a)) sO ⟨H4,hB4,by omega⟩
   ·have h1:=of_decide_eq_false h;refine ρ ?_;exact Jjn o sB ⟨H4,hB4,by omega⟩
  rintro o w5 ⟨H5,hB5,ho⟩;have lx:idx<n:=by omega
  have ly:a+o<n:=by omega
  refine ρ ?_;refine drC 4 [0,1,2,3,4,5,6,7,8,9,12,13] [(0,10),(0,11),(0,14),(0,15),(0,16),(2,17),(2,18),(2,19)] (by kernel_rfl) ?_;have H5d:=H5.drew;obtain ⟨s1,s2,s3,⟨u,s4⟩,s5,s6⟩:=H5d.swap lx ly;refine ρp ?_;refine dix (a+o) H5d.rd ly ?_;refine ρd ?_;refine dld (H5d.cell ly) ?_;refine ρd ?_;refine dix (idx) H5d.rd lx ?_;refine ρd ?_;refine dld (H5d.cell lx) ?_;refine ρd ?_;refine dix (idx) H5d.rd lx ?_;refine ρd ?_;refine Jqz ?_;refine sto (H5d.cell lx) s1 ?_ (hv:=H5d.one ly);refine ρ ?_;refine Jxx ?_;refine Jqz ?_;refine ix (a+o) s2 ly ?_;refine ρ ?_;refine Jxx ?_;refine Jqz ?_;refine sto s4 s3 ?_ (hv:=H5d.one lx);refine ρ ?_;have b5:=hB5.ext (Ext.refl _).drew;have hB6:=b5.grown s6 (b5.ne_own H5d.d.1 rfl);exact Jjj (idx+1) (swp z0 q idx (a+o)) sO ⟨s5,⟨_,hB6⟩,by omega,by omega⟩ (by omega)
 ·refine ρ ?_;exact Qmk ⟨q,H3⟩
end Go.Proofs.YtefpailelagbkaaGreatDoor
