/- Part 8 of the proof: Pdq, Pdq2, Pdq3. -/
import Derived.Test.YtefpailelagbkaaGreatDoorC07
import Derived.Laws.Bits64b
set_option linter.unusedVariables false
set_option maxRecDepth 100000
set_option maxHeartbeats 40000000
namespace Go.Wk
section
variable {P:Program} {n:Nat} {al:AL} {w:World} {Q:Exit->Act->World->Prop} {ops:Array Oper} {rest:List Oper} {d ty:Nat} {pos:String} {aft:Array Edge}
theorem qn{x y:Operand}{t yt:TypeId}{a b:Int}(m q:Nat)(k:WL P n ops Q rest ((d,.int .i64 ((m / q:Nat):Int))::al) w)(hx:ev al x=some (.int .i64 a):=by rfl)(hy:ev al y=some (.int .i64 b):=by rfl)(ha:a=(m:Int):=by first|rfl|omega)(hb:b=(q:Int):=by first|rfl|omega)(h0:0<q:=by omega)(hm:m<=9223372036854775807:=by omega)(hd:Nat.blt d n=true:=by rfl): WL P n ops Q (⟨some d,.binOp .quo t x y yt,ty,pos,aft,none⟩::rest) al w:=by
 subst ha;subst hb;refine wquo hx hy om hd ?_;have e:IntKind.i64.wrap ((m:Int).tdiv (q:Int))=((m / q:Nat):Int):=by
  rw [Int.tdiv_eq_ediv_of_nonneg om,<-Int.natCast_ediv];have:=Nat.div_le_self m q;generalize m / q=r at *
  exact Qrl om
 rw [e];exact k
variable {drest:List (Nat×Oper)}
theorem dshl{x y:Operand}{t yt:TypeId}{k1 k2:IntKind}{a b:Int}(k:WD P n ops Q drest ((d,.int k1 (k1.wrap (a*2^(min b.toNat k1.bits))))::al) w)(hx:ev al x=some (.int k1 a):=by rfl)(hy:ev al y=some (.int k2 b):=by rfl)(h0:0<=b:=by decide)(hd:Nat.blt d n=true:=by rfl):
  WD P n ops Q ((0,⟨some d,.binOp .shl t x y yt,ty,pos,aft,none⟩)::drest) al w :=
 dy (λw' _ e i=>by
  have j:¬ b<0:=om
  simp [execOp,i.ev hx,i.ev hy,eqGuard,binOp,Op.shift,j]) hd k
theorem dshr{x y:Operand}{t yt:TypeId}{k1 k2:IntKind}{a b:Int}(k:WD P n ops Q drest ((d,.int k1 (a.fdiv (2^(min b.toNat k1.bits))))::al) w)(hx:ev al x=some (.int k1 a):=by rfl)(hy:ev al y=some (.int k2 b):=by rfl)(h0:0<=b:=by decide)(hd:Nat.blt d n=true:=by rfl):
  WD P n ops Q ((0,⟨some d,.binOp .shr t x y yt,ty,pos,aft,none⟩)::drest) al w :=
 dy (λw' _ e i=>by
  have j:¬ b<0:=om
  simp [execOp,i.ev hx,i.ev hy,eqGuard,binOp,Op.shift,j]) hd k
end
end Go.Wk
namespace Go.Proofs.YtefpailelagbkaaGreatDoor
open Go.RowKit Pl Go.Wk
attribute [local irreducible] WC WL QX WD WDB WP
structure DP(w0 w:World)(base:Nat)(A:Option Addr)(n c:Nat)(ps q:List Pr): Prop where
 d:Dat w base (.slice A n c) q
 p:q.Perm ps
 g:w0.grownBy w (Value.slice A n c).ownBlock
 l:q.length=n
section
variable {w0 w w':World} {base:Nat} {A:Option Addr} {n c:Nat} {ps q:List Pr}
theorem DP.start(hD:Dat w base (.slice A n c) ps)(hn:ps.length=n): DP w w base A n c ps ps:=⟨hD,List.Perm.refl _,Jqh (Ext.refl w) _,hn⟩
theorem DP.ext(h:DP w0 w base A n c ps q)(hx:Ext w w'): DP w0 w' base A n c ps q:=⟨h.d.ext hx,h.p,Jjw h.g (Jqh hx _),h.l⟩
theorem DP.drew(h:DP w0 w base A n c ps q): DP w0 w.drew base A n c ps q:=h.ext (Ext.refl w).drew
theorem DP.rd(h:DP w0 w base A n c ps q): Rd w 1 A n (q.map (·.1)):=h.d.rd h.l
theorem DP.cell(h:DP w0 w base A n c ps q){i:Nat}(hi:i<n): w.cell? (adr A i)=some (q.getD i z0).1:=h.d.cell h.l hi
theorem DP.one(h:DP w0 w base A n c ps q){i:Nat}(hi:i<n): (q.getD i z0).1.oneCell'=true:=h.d.one (h.l.symm ▸ hi)
theorem DP.swap(h:DP w0 w base A n c ps q){i j:Nat}(hi:i<n)(hj:j<n):
  w.frozen? (adr A i)=false/\Rd (w.setCell (adr A i) (q.getD j z0).1) 1 A n ((q.set i (q.getD j z0)).map (·.1))/\(w.setCell (adr A i) (q.getD j z0).1).frozen? (adr A j)=false /\
  (∃ u,(w.setCell (adr A i) (q.getD j z0).1).cell? (adr A j)=some u)/\DP w0 ((w.setCell (adr A i) (q.getD j z0).1).setCell (adr A j) (q.getD i z0).1) base A n c ps (swp z0 q i j)/\w.grownBy ((w.setCell (adr A i) (q.getD j z0).1).setCell (adr A j) (q.getD i z0).1) (Value.slice A n c).ownBlock:=by
 obtain ⟨U,O,J,G,C,o⟩:=h.d.swap h.l hi hj;exact ⟨U,O,J,G,⟨C,(Qwp z0 q (h.l.symm ▸ hi) (h.l.symm ▸ hj)).trans h.p,Jjw h.g o,by rw [Xqg];exact h.l⟩,o⟩
theorem DP.box(h:DP w0 w base A n c ps q){g t:Nat}{cs:List Value}(hB:Blk w g t cs)(hne:Nat.beq 40 t=false)(hg:w0.heap.size<=g)(u:Value): DP w0 (w.setCell ⟨g,0,none⟩ u) base A n c ps q:=by
 have j:w.grownBy (w.setCell ⟨g,0,none⟩ u) (some g):=⟨rfl,rfl,rfl,by simp [World.setCell],λk i hn=>Below.heap_setCell w ⟨g,0,none⟩ u k (λe=>hn (by rw [e]))⟩;refine ⟨⟨h.d.1.kept j (Or.inr ?_),h.d.2⟩,h.p,?_,h.l⟩
 .exact λe=>hB.ne_own h.d.1 hne e.symm
 .refine ⟨h.g.os,h.g.tape,h.g.output,?_,λk i hn=>?_⟩
  .simp [World.setCell];exact h.g.size
  .exact (Below.heap_setCell w ⟨g,0,none⟩ u k (by simp;omega)).trans (h.g.block k i hn)
end
def CF(w:World)(row:Option Nat)(fid:FuncId)(first cap:Array Value)(M:List Pr)(ds:List Bool): Prop :=
 ∀ w',w.grownBy w' row->∀ p q,p∈M->q∈M->Ret Tryz.prog fid (first.toList++[p.1,q.1]++cap.toList) w' λr w''=>r=.int .i64 (fP ds p q)/\Ext w' w''
theorem CF.call{w0 w:World}{base:Nat}{A:Option Addr}{n c:Nat}{ps q:List Pr}{fid:FuncId}{first cap:Array Value}{ds:List Bool}(hC:CF w0 (Value.slice A n c).ownBlock fid first cap ps ds)(h:DP w0 w base A n c ps q){i j:Nat}(hi:i<n)(hj:j<n):
  Ret Tryz.prog fid (first.toList++[(q.getD i z0).1,(q.getD j z0).1]++cap.toList) w λr w''=>∃ b:Int,r=.int .i64 b/\Ext w w'' :=
 (hC w h.g _ _ (h.p.mem_iff.1 (getD_mem' z0 q (h.l.symm ▸ hi))) (h.p.mem_iff.1 (getD_mem' z0 q (h.l.symm ▸ hj)))).mono λr w'' ⟨u,o⟩=>⟨_,u,o⟩
theorem CF.pack{w:World}{row:Option Nat}{fid:FuncId}{first cap:Array Value}{M:List Pr}{ds:List Bool}(h:CF w row fid first cap M ds): CmpF w row (.func (.func fid) first cap) M ds:=⟨fid,first,cap,rfl,h⟩
theorem CF.step{w w1:World}{base:Nat}{A:Option Addr}{n c:Nat}{ps q:List Pr}{fid:FuncId}{first cap:Array Value}{ds:List Bool}(hC:CF w (Value.slice A n c).ownBlock fid first cap ps ds)(h:DP w w1 base A n c ps q): CF w1 (Value.slice A n c).ownBlock fid first cap q ds :=
 λw' i a b o j=>hC w' (Jjw h.g i) a b (h.p.mem_iff.1 o) (h.p.mem_iff.1 j)
theorem DP.after{w0 w w':World}{base:Nat}{A:Option Addr}{n c:Nat}{ps q q':List Pr}(h:DP w0 w base A n c ps q)(k:DP w w' base A n c q q'): DP w0 w' base A n c ps q':=⟨k.d,k.p.trans h.p,Jjw h.g k.g,k.l⟩
theorem Qzl{w:World}{base:Nat}{A:Option Addr}{n c:Nat}{fid:FuncId}{first cap:Array Value}{ps:List Pr}{ds:List Bool}(hD:Dat w base (.slice A n c) ps)(hn:ps.length=n)(hmx:n<=140737488355328)(hC:CF w (Value.slice A n c).ownBlock fid first cap ps ds){a b:Nat}{ai bi:Int}(hai:ai=(a:Int))(hbi:bi=(b:Int))(hab:a<b)(hb:b<=n):
  Ret Tryz.prog 170 [.slice A n c,.int .i64 ai,.int .i64 bi,.func (.func fid) first cap] w λv w'=>∃ ps',DP w w' base A n c ps ps':=by
 subst hai;subst hbi;refine Jjc Tryz.func170 Tryz.ntmps170 rfl kr rfl ?_;refine ρ ?_;refine Jzc (fun (i j:Nat) (q:List Pr)=>[(0,.slice A n c),(8,.int .i64 (i:Int)),(9,.int .i64 ((j:Int)-1))])
  (λi j q w'=>DP w w' base A n c ps q/\j<=n/\i<=n) (λi j _=>n+j-i) a b ps sO ⟨DP.start hD hn,hb,om⟩ ?_
 rintro i j q w1 ⟨H,hj,hi⟩;refine ρ ?_;refine ci (λh=>?_) (λh=>?_)
 .have a1:i+1<j:=by have:=oT h;omega
  have C:i<n:=om
  have G:j-1<n:=om
  refine ρ ?_;refine drC 4 [0,1,2,3,4,5,8,9] [(0,6),(0,7),(0,10),(0,11),(0,12),(2,13),(2,14),(2,15)] kr ?_;have o:=H.drew;obtain ⟨s1,Z,U,⟨u,O⟩,J,s6⟩:=o.swap C G;refine ρp ?_;refine dix (j-1) o.rd G ?_;refine ρd ?_;refine dld (o.cell G) ?_;refine ρd ?_;refine dix (i) o.rd C ?_;refine ρd ?_;refine dld (o.cell C) ?_;refine ρd ?_;refine dix (i) o.rd C ?_;refine ρd ?_;refine Jqz ?_;refine sto (o.cell C) s1 ?_ (hv:=o.one G);refine ρ ?_;refine Jxt ?_;refine Jqz ?_;refine ix (j-1) Z G ?_;refine ρ ?_;refine Jxt ?_;refine Jqz ?_;refine sto O U ?_ (hv:=o.one C);refine ρ ?_;exact Jqf (i+1) (j-1) (swp z0 q i (j-1)) sO ⟨J,om,om⟩ om
 .refine ρ ?_;exact Qls ⟨q,H⟩
theorem Jgc{w:World}{base:Nat}{A:Option Addr}{n c:Nat}{fid:FuncId}{first cap:Array Value}{ps:List Pr}{ds:List Bool}(hD:Dat w base (.slice A n c) ps)(hn:ps.length=n)(hmx:n<=140737488355328)(hC:CF w (Value.slice A n c).ownBlock fid first cap ps ds){lo hi fst:Nat}{loi hii fsti:Int}(hlo:loi=(lo:Int))(hhi:hii=(hi:Int))(hfst:fsti=(fst:Int))(hb:fst+hi<=n)(hl:lo<=n):
  Ret Tryz.prog 186 [.slice A n c,.int .i64 loi,.int .i64 hii,.int .i64 fsti,.func (.func fid) first cap] w λv w'=>∃ ps',DP w w' base A n c ps ps':=by
 subst hlo;subst hhi;subst hfst;refine Jjc Tryz.func186 Tryz.ntmps186 rfl kr rfl ?_;refine ρ ?_;refine Jjt (fun (i:Nat) (q:List Pr)=>[(0,.slice A n c),(2,.int .i64 (hi:Int)),(3,.int .i64 (fst:Int)),(4,.func (.func fid) first cap),(10,.int .i64 (i:Int))])
  (λi q w'=>DP w w' base A n c ps q/\i<=n) (λi _=>n-i) lo ps sB ⟨DP.start hD hn,hl⟩ ?_
 rintro i q w1 ⟨H,hr⟩;refine ρ ?_;refine ci (λh=>?_) (λh=>?_)
 .refine ρ ?_;exact Qls ⟨q,H⟩
 have a6:2*i+1<hi:=by have:=oF h;omega
 refine ρ ?_;refine Jzg (fun (b:Bool)=>[(0,.slice A n c),(2,.int .i64 (hi:Int)),(3,.int .i64 (fst:Int)),(4,.func (.func fid) first cap),(10,.int .i64 (i:Int)),(11,.int .i64 (2*(i:Int)+1)),(40,.bool b)]) (λb w'=>DP w w' base A n c ps q/\(b=true->2*i+2<hi)) ?_ ?_
 .skip
  refine dr [(0,0),(0,1),(0,2),(0,3),(0,4),(0,5),(0,6),(0,7),(0,8),(0,9),(0,10),(0,11),(0,12),(0,13),(0,14),(0,15),(0,16),(0,17),(0,18),(1,19),(0,20),(0,21)] kr ?_;have Z:=H.drew;refine ρd ?_;refine dki 23 (λh=>?_) (λh=>?_)
  .have a1:2*i+2<hi:=by have:=oT h;omega
   have li:fst+(2*i+1)<n:=om
   have lj:fst+(2*i+1)+1<n:=om
   refine ρd ?_;refine dix (fst+(2*i+1)) Z.rd li ?_;refine ρd ?_;refine dld (Z.cell li) ?_;refine ρd ?_;refine dix (fst+(2*i+1)+1) Z.rd lj ?_;refine ρd ?_;refine dld (Z.cell lj) ?_;refine ρd ?_;refine Qqv (hC.call Z li lj) ?_;rintro r a4 ⟨a8,rfl,U⟩;refine ⟨U,?_⟩;have H2:=Z.ext U;refine ρd ?_;refine ρ ?_;exact Jjn _ sB ⟨H2,λ_=>a1⟩
  .refine ρd ?_;refine ρ ?_;exact Jjn false sB ⟨Z,λe=>by cases e⟩
 rintro b w2 ⟨H2,a2⟩;refine Jzg (fun (j:Nat)=>[(0,.slice A n c),(2,.int .i64 (hi:Int)),(3,.int .i64 (fst:Int)),(4,.func (.func fid) first cap),(10,.int .i64 (i:Int)),(11,.int .i64 (j:Int))]) (λj w'=>DP w w' base A n c ps q/\i<j/\j<hi) ?_ ?_
 .refine ci (λh=>?_) (λh=>?_)
  .have:=a2 h;refine ρ ?_;exact Jjn (2*i+2) sO ⟨H2,om,om⟩
  .refine ρ ?_;exact Jjn (2*i+1) sO ⟨H2,om,om⟩
 rintro j w3 ⟨H3,a1,a5⟩;have G:fst+i<n:=om
 have J:fst+j<n:=om
 refine ρ ?_;refine dr [(0,0),(0,1),(0,2),(0,3),(0,4),(0,5),(0,6),(0,7),(0,8),(0,9),(0,10),(0,11),(0,12),(1,13),(0,14),(0,15)] kr ?_;have C:=H3.drew;refine ρd ?_;refine ρd ?_;refine dix (fst+i) C.rd G ?_;refine ρd ?_;refine dld (C.cell G) ?_;refine ρd ?_;refine dix (fst+j) C.rd J ?_;refine ρd ?_;refine dld (C.cell J) ?_;refine ρd ?_;refine Qqv (hC.call C G J) ?_;rintro r a3 ⟨a7,rfl,O⟩;refine ⟨O,?_⟩;have H4:=C.ext O;refine ρd ?_;refine ρ ?_;refine ci (λh=>?_) (λh=>?_)
 .refine ρ ?_;exact Xkg ⟨q,H4⟩
 refine ρ ?_;refine drC 4 [0,1,2,3,4,5,6,7,8,9,10,11,14,15,16,17] [(0,12),(0,13),(0,18),(0,19),(0,20),(2,21),(2,22),(2,23)] kr ?_;have o:=H4.drew;obtain ⟨s1,s2,s3,⟨u,s4⟩,s5,s6⟩:=o.swap G J;refine ρp ?_;refine dix (fst+j) o.rd J ?_;refine ρd ?_;refine dld (o.cell J) ?_;refine ρd ?_;refine dix (fst+i) o.rd G ?_;refine ρd ?_;refine dld (o.cell G) ?_;refine ρd ?_;refine dix (fst+i) o.rd G ?_;refine ρd ?_;refine Jqz ?_;refine sto (o.cell G) s1 ?_ (hv:=o.one J);refine ρ ?_;refine Jxt ?_;refine Jqz ?_;refine ix (fst+j) s2 J ?_;refine ρ ?_;refine Jxt ?_;refine Jqz ?_;refine sto s4 s3 ?_ (hv:=o.one G);refine ρ ?_;exact Jjj j (swp z0 q (fst+i) (fst+j)) sB ⟨s5,om⟩ om
theorem Qqp{w:World}{base:Nat}{A:Option Addr}{n c:Nat}{fid:FuncId}{first cap:Array Value}{ps:List Pr}{ds:List Bool}(hD:Dat w base (.slice A n c) ps)(hn:ps.length=n)(hmx:n<=140737488355328)(hC:CF w (Value.slice A n c).ownBlock fid first cap ps ds){a b:Nat}{ai bi:Int}(hai:ai=(a:Int))(hbi:bi=(b:Int))(hab:a<b)(hb:b<=n):
  Ret Tryz.prog 167 [.slice A n c,.int .i64 ai,.int .i64 bi,.func (.func fid) first cap] w λv w'=>∃ ps',DP w w' base A n c ps ps':=by
 subst hai;subst hbi;refine Jjc Tryz.func167 Tryz.ntmps167 rfl kr rfl ?_;refine ρ ?_;refine qn (b-a-1) 2 ?_;refine ρ ?_;refine Jjt (fun (i:Nat) (q:List Pr)=>[(0,.slice A n c),(3,.func (.func fid) first cap),(8,.int .i64 (a:Int)),(9,.int .i64 0),(10,.int .i64 ((b:Int)-(a:Int))),(11,.int .i64 ((i:Int)-1))])
  (λi q w'=>DP w w' base A n c ps q/\i<=n) (λi _=>i) ((b-a-1) / 2+1) ps sO ⟨DP.start hD hn,om⟩ ?_
 rintro i q w1 ⟨H,hi⟩;refine ρ ?_;refine ci (λh=>?_) (λh=>?_)
 .have O:0<i:=by have:=oT h;omega
  refine ρ ?_;refine cl (Jgc (lo:=i-1) (hi:=b-a) (fst:=a) (loi:=(i:Int)-1) (hii:=(b:Int)-(a:Int)) H.d H.l hmx (hC.step H) om om rfl om om) ?_;rintro v Z ⟨J,U⟩;refine ρ ?_;exact Jjj (i-1) J sO ⟨H.after U,om⟩ om
 refine ρ ?_;refine Jjt (fun (i:Nat) (q:List Pr)=>[(0,.slice A n c),(3,.func (.func fid) first cap),(8,.int .i64 (a:Int)),(9,.int .i64 0),(12,.int .i64 ((i:Int)-1))])
  (λi q w'=>DP w w' base A n c ps q/\i<=b-a) (λi _=>i) (b-a) q sO ⟨H,om⟩ ?_
 rintro i q w1 ⟨H,hi⟩;refine ρ ?_;refine ci (λh=>?_) (λh=>?_)
 .have O:0<i:=by have:=oT h;omega
  have o:a<n:=om
  have C:a+(i-1)<n:=om
  refine ρ ?_;refine drC 4 [0,1,2,3,4,5,6,7,8,9,12,13] [(0,10),(0,11),(0,14),(0,15),(0,16),(2,17),(2,18),(2,19)] kr ?_;have j:=H.drew;obtain ⟨s1,s2,s3,⟨u,s4⟩,G,s6⟩:=j.swap o C;refine ρp ?_;refine dix (a+(i-1)) j.rd C ?_;refine ρd ?_;refine dld (j.cell C) ?_;refine ρd ?_;refine dix (a) j.rd o ?_;refine ρd ?_;refine dld (j.cell o) ?_;refine ρd ?_;refine dix (a) j.rd o ?_;refine ρd ?_;refine Jqz ?_;refine sto (j.cell o) s1 ?_ (hv:=j.one C);refine ρ ?_;refine Jxt ?_;refine Jqz ?_;refine ix (a+(i-1)) s2 C ?_;refine ρ ?_;refine Jxt ?_;refine Jqz ?_;refine sto s4 s3 ?_ (hv:=j.one o);refine ρ ?_;refine cl (Jgc (lo:=0) (hi:=i-1) (fst:=a) (loi:=0) (hii:=(i:Int)-1) G.d G.l hmx (hC.step G) rfl om rfl om om) ?_;rintro v Z ⟨J,U⟩;refine ρ ?_;exact Jjj (i-1) J sO ⟨G.after U,om⟩ om
 refine ρ ?_;exact Qls ⟨q,H⟩
open Go.RowKit Pl Go.Wk
theorem zInt: Jxd Tryz.prog 3=some (.int .i64 0):=kr
theorem zXor: Jxd Tryz.prog 262=some (.int .u64 0):=kr
theorem Jfk{w0 w:World}{base:Nat}{A:Option Addr}{n c:Nat}{fid:FuncId}{first cap:Array Value}{ps q:List Pr}{ds:List Bool}(H:DP w0 w base A n c ps q)(hmx:n<=140737488355328)(hC:CF w0 (Value.slice A n c).ownBlock fid first cap ps ds){g:Nat}{s:Int}(hB:Blk w g 3 [.int .i64 s])(hg:w0.heap.size<=g){a b:Nat}(ha:a<n)(hb:b<n):
  Ret Tryz.prog 199 [.slice A n c,.int .i64 (a:Int),.int .i64 (b:Int),.pointer (some ⟨g,0,none⟩),.func (.func fid) first cap] w λr w'=>∃ x y:Nat,∃ s':Int,r=.tuple #[.int .i64 (x:Int),.int .i64 (y:Int)]/\((x=a/\y=b)∨(x=b/\y=a))/\DP w0 w' base A n c ps q/\Blk w' g 3 [.int .i64 s']:=by
 refine Jjc Tryz.func199 Tryz.ntmps199 rfl kr rfl ?_;refine ρ ?_;refine dr [(0,0),(0,1),(0,2),(0,3),(0,4),(0,5),(0,6),(0,7),(0,8),(1,9),(0,10)] kr ?_;have o:=H.drew;refine ρd ?_;refine ρd ?_;refine dix (b) o.rd hb ?_;refine ρd ?_;refine dld (o.cell hb) ?_;refine ρd ?_;refine dix (a) o.rd ha ?_;refine ρd ?_;refine dld (o.cell ha) ?_;refine ρd ?_;refine Qqv (hC.call o hb ha) ?_;rintro r C ⟨G,rfl,j⟩;refine ⟨j,?_⟩;have u:=o.ext j;refine ρd ?_;refine ρ ?_;have i:=(hB.ext (Ext.refl w).drew).ext j;refine ci (λh=>?_) (λh=>?_)
 .refine ρ ?_;refine ld (i.cell 0) ?_;refine ρ ?_;refine sto (i.cell 0) (i.frozen 0) ?_;refine ρ ?_;exact Qyg ⟨b,a,_,rfl,.inr ⟨rfl,rfl⟩,u.box i rfl hg _,i.set 0 _⟩
 .refine ρ ?_;exact Qyg ⟨a,b,_,rfl,.inl ⟨rfl,rfl⟩,u,i⟩
theorem Jpp{w0 w:World}{base:Nat}{A:Option Addr}{n c:Nat}{fid:FuncId}{first cap:Array Value}{ps q:List Pr}{ds:List Bool}(H:DP w0 w base A n c ps q)(hmx:n<=140737488355328)(hC:CF w0 (Value.slice A n c).ownBlock fid first cap ps ds){g:Nat}{s:Int}(hB:Blk w g 3 [.int .i64 s])(hg:w0.heap.size<=g){a b e:Nat}(ha:a<n)(hb:b<n)(he:e<n):
  Ret Tryz.prog 190 [.slice A n c,.int .i64 (a:Int),.int .i64 (b:Int),.int .i64 (e:Int),.pointer (some ⟨g,0,none⟩),.func (.func fid) first cap] w λr w'=>∃ m:Nat,∃ s':Int,r=.int .i64 (m:Int)/\(m=a∨m=b∨m=e)/\DP w0 w' base A n c ps q/\Blk w' g 3 [.int .i64 s']:=by
 refine Jjc Tryz.func190 Tryz.ntmps190 rfl kr rfl ?_;refine ρ ?_;refine cl (Jfk H hmx hC hB hg ha hb) ?_;rintro r w1 ⟨J,G,s1,rfl,e1,Z,o⟩;refine ρ ?_;refine cl (Jfk (a:=G) (b:=e) Z hmx hC o hg om he) ?_;rintro r w2 ⟨C,e2,s2,rfl,e3,U,j⟩;refine ρ ?_;refine cl (Jfk (a:=J) (b:=C) U hmx hC j hg om om) ?_;rintro r w3 ⟨a3,u,s3,rfl,e4,O,i⟩;refine ρ ?_;exact Jjq ⟨u,_,rfl,om,O,i⟩
theorem Jvw{w0 w:World}{base:Nat}{A:Option Addr}{n c:Nat}{fid:FuncId}{first cap:Array Value}{ps q:List Pr}{ds:List Bool}(H:DP w0 w base A n c ps q)(hmx:n<=140737488355328)(hC:CF w0 (Value.slice A n c).ownBlock fid first cap ps ds){g:Nat}{s:Int}(hB:Blk w g 3 [.int .i64 s])(hg:w0.heap.size<=g){a:Nat}{ai:Int}(hai:ai=(a:Int))(ha:0<a)(hb:a+1<n):
  Ret Tryz.prog 189 [.slice A n c,.int .i64 ai,.pointer (some ⟨g,0,none⟩),.func (.func fid) first cap] w λr w'=>∃ m:Nat,∃ s':Int,r=.int .i64 (m:Int)/\(m=a∨m+1=a∨m=a+1)/\DP w0 w' base A n c ps q/\Blk w' g 3 [.int .i64 s']:=by
 subst hai;refine Jjc Tryz.func189 Tryz.ntmps189 rfl kr rfl ?_;refine ρ ?_;have o:a-1<n:=om
 have j:((a:Int)-1)=((a-1:Nat):Int):=om
 have u:((a:Int)+1)=((a+1:Nat):Int):=om
 rw [j,u];refine cl (Jpp H hmx hC hB hg o (by omega:a<n) hb) ?_;rintro r G ⟨m,J,rfl,j,C,i⟩;refine ρ ?_;exact Jjq ⟨m,_,rfl,om,C,i⟩
theorem Qdq{w:World}{base:Nat}{A:Option Addr}{n c:Nat}{fid:FuncId}{first cap:Array Value}{ps:List Pr}{ds:List Bool}(hD:Dat w base (.slice A n c) ps)(hn:ps.length=n)(hmx:n<=140737488355328)(hC:CF w (Value.slice A n c).ownBlock fid first cap ps ds){a b:Nat}{ai bi:Int}(hai:ai=(a:Int))(hbi:bi=(b:Int))(hab:a+12<b)(hb:b<=n):
  Ret Tryz.prog 169 [.slice A n c,.int .i64 ai,.int .i64 bi,.func (.func fid) first cap] w λr w'=>∃ m:Nat,∃ z:Int,r=.tuple #[.int .i64 (m:Int),.int .i64 z]/\a<=m/\m<b/\DP w w' base A n c ps ps:=by
 subst hai;subst hbi;refine Jjc Tryz.func169 Tryz.ntmps169 rfl kr rfl ?_;refine ρ ?_;refine alc zInt ?_;intro w1 g u o hB;have H1:=(DP.start hD hn).ext u;refine ρ ?_;refine qn (b-a) 4 ?_;refine ρ ?_;refine qn (b-a) 4 ?_;refine ρ ?_;refine qn (b-a) 4 ?_;refine ρ ?_;refine ct ?_ ?_
 .exact decide_eq_true om
 have hq:(b-a) / 4<=(b-a)/\3<=(b-a) / 4/\4*((b-a) / 4)<=b-a:=om
 generalize (b-a) / 4=l4 at hq ⊢
 refine ρ ?_;refine Qsw (fun (i j k:Nat)=>[(0,.slice A n c),(3,.func (.func fid) first cap),(11,.pointer (some ⟨g,0,none⟩)),(12,.int .i64 (i:Int)),(13,.int .i64 (j:Int)),(14,.int .i64 (k:Int))])
  (λi j k w'=>DP w w' base A n c ps ps/\(∃ s:Int,Blk w' g 3 [.int .i64 s])/\a<=i/\i<b/\a<=j/\j<b/\a<=k/\k<b) ?_ ?_
 .refine ci (λh=>?_) (λh=>?_)
  .have a1:=oT h;refine ρ ?_;refine cl (Jvw (a:=a+l4) (ai:=(a:Int)+(l4:Int)*1) H1 hmx hC hB o om om om) ?_;rintro r w2 ⟨i,s2,rfl,e2,H2,U⟩;refine ρ ?_;refine cl (Jvw (a:=a+l4*2) (ai:=(a:Int)+(l4:Int)*2) H2 hmx hC U o om om om) ?_;rintro r w3 ⟨j,s3,rfl,e3,H3,O⟩;refine ρ ?_;refine cl (Jvw (a:=a+l4*3) (ai:=(a:Int)+(l4:Int)*3) H3 hmx hC O o om om om) ?_;rintro r w4 ⟨k,s4,rfl,e4,H4,J⟩;refine ρ ?_;exact Qvc i j k sB ⟨H4,⟨_,J⟩,om,om,om,om,om,om⟩
  .refine ρ ?_;exact Qvc (a+l4) (a+l4*2) (a+l4*3) sO ⟨H1,⟨_,hB⟩,om,om,om,om,om,om⟩
 rintro i j k w5 ⟨H5,⟨s5,G⟩,h1,h2,h3,h4,h5,h6⟩;refine ρ ?_;refine cl (Jpp H5 hmx hC G o (by omega:i<n) (by omega:j<n) (by omega:k<n)) ?_;rintro r w6 ⟨m,s6,rfl,e6,Z,C⟩;refine ρ ?_;refine ld (C.cell 0) ?_;refine ρ ?_;refine ci (λh=>?_) (λh=>?_)
 .refine ρ ?_;exact Qyg ⟨m,_,rfl,om,om,Z⟩
 refine ρ ?_;refine ci (λh=>?_) (λh=>?_)
 .refine ρ ?_;exact Qyg ⟨m,_,rfl,om,om,Z⟩
 refine ρ ?_;exact Qyg ⟨m,_,rfl,om,om,Z⟩
open Go.RowKit Pl Go.Wk
theorem Qbc(op:BinOp)(x y:Int): 0<=bits op .u64 x y/\bits op .u64 x y<=18446744073709551615:=by
 unfold bits;rw [IntKind.wrap_u64];omega
theorem Xjq{w0 w:World}{base:Nat}{A:Option Addr}{n c:Nat}{ps q:List Pr}(H:DP w0 w base A n c ps q){g:Nat}{r:Int}(hB:Blk w g 262 [.int .u64 r])(hg:w0.heap.size<=g):
  Ret Tryz.prog 188 [.pointer (some ⟨g,0,none⟩)] w λv w'=>∃ r',v=.int .u64 r'/\0<=r'/\r'<=18446744073709551615/\DP w0 w' base A n c ps q/\Blk w' g 262 [.int .u64 r']:=by
 refine Jjc Tryz.func188 Tryz.ntmps188 rfl kr rfl ?_;refine ρ ?_;refine dr [(0,0),(0,1),(0,2),(0,3),(0,4),(0,5),(0,6),(0,7),(0,8),(2,9)] kr ?_;have b0:=hB.ext (Ext.refl _).drew;have h0:=H.drew;refine ρd ?_;refine dld (b0.cell 0) ?_;refine ρd ?_;refine dld (b0.cell 0) ?_;refine ρd ?_;refine dshl ?_;refine ρd ?_;obtain ⟨G,Z⟩:∃ z,z=bits .xor .u64 r (IntKind.u64.wrap (r*2^min (13:Int).toNat IntKind.u64.bits)):=⟨_,rfl⟩;refine dkv 10 (u:=.int .u64 G) (congrArg (Value.int .u64) Z.symm) ?_;refine Jqz ?_;refine sto (b0.cell 0) (b0.frozen 0) ?_;refine ρ ?_;have H1:=h0.box b0 rfl hg (.int .u64 G);have a2:=b0.set 0 (.int .u64 G);refine dr [(0,0),(0,1),(0,2),(0,3),(0,4),(0,5),(0,6),(0,7),(0,8),(2,9)] kr ?_;have o:=a2.ext (Ext.refl _).drew;have h1:=H1.drew;refine ρd ?_;refine dld (o.cell 0) ?_;refine ρd ?_;refine dld (o.cell 0) ?_;refine ρd ?_;refine dshr ?_
 refine ρd ?_;obtain ⟨C,U⟩:∃ z,z=bits .xor .u64 G (G.fdiv (2^min (7:Int).toNat IntKind.u64.bits)):=⟨_,rfl⟩;refine dkv 19 (u:=.int .u64 C) (congrArg (Value.int .u64) U.symm) ?_;refine Jqz ?_;refine sto (o.cell 0) (o.frozen 0) ?_;refine ρ ?_;have H2:=h1.box o rfl hg (.int .u64 C);have a1:=o.set 0 (.int .u64 C);refine dr [(0,0),(0,1),(0,2),(0,3),(0,4),(0,5),(0,6),(0,7),(0,8),(2,9)] kr ?_;have j:=a1.ext (Ext.refl _).drew;have h2:=H2.drew;refine ρd ?_;refine dld (j.cell 0) ?_;refine ρd ?_;refine dld (j.cell 0) ?_;refine ρd ?_;refine dshl ?_;refine ρd ?_;obtain ⟨O,i⟩:∃ z,z=bits .xor .u64 C (IntKind.u64.wrap (C*2^min (17:Int).toNat IntKind.u64.bits)):=⟨_,rfl⟩;refine dkv 28 (u:=.int .u64 O) (congrArg (Value.int .u64) i.symm) ?_;refine Jqz ?_;refine sto (j.cell 0) (j.frozen 0) ?_;refine ρ ?_;have H3:=h2.box j rfl hg (.int .u64 O);have J:=j.set 0 (.int .u64 O);refine ld (J.cell 0) ?_
 refine ρ ?_;exact Jjq ⟨O,rfl,by rw [i];exact (Qbc _ _ _).1,by rw [i];exact (Qbc _ _ _).2,H3,J⟩
theorem Qzq{m:Nat}{mi:Int}(hmi:mi=(m:Int))(h0:0<m)(hm:m<=140737488355328)(w:World): Ret Tryz.prog 187 [.int .i64 mi] w λv w'=>∃ p:Nat,v=.int .u64 (p:Int)/\0<p/\p<=2*m/\w'=w:=by
 subst hmi;refine Jjc Tryz.func187 Tryz.ntmps187 rfl kr rfl ?_;refine ρ ?_;refine kv 4 (u:=.int .u64 (m:Int)) (congrArg (Value.int .u64) (Qnx om)) ?_;refine cl (Jnj m om w) ?_;rintro v w' ⟨rfl,rfl⟩;refine ρ ?_;refine wshl rfl rfl om rfl ?_;obtain ⟨G,C⟩:=Qlb (x:=m) om;have o:Jkp m<=48:=Jfq om;have j:2^Jkp m=2*2^(Jkp m-1):=by rw [<-Nat.pow_succ'];congr 1;omega
 have e:IntKind.u64.wrap (1*2^min ((Jkp m:Nat):Int).toNat IntKind.u64.bits)=((2^Jkp m:Nat):Int):=by
  have i:min ((Jkp m:Nat):Int).toNat IntKind.u64.bits=Jkp m:=by simp only [Int.toNat_natCast];exact Nat.min_eq_left (by show Jkp m<=64;omega)
  rw [i,Int.one_mul];have:((2^Jkp m:Nat):Int)=(2:Int)^Jkp m:=by push_cast;rfl
  rw [<-this];exact Qnx om
 refine kv 6 (congrArg (Value.int .u64) e) ?_;refine ρ ?_;exact Jjq ⟨2^Jkp m,rfl,Nat.pow_pos om,om,rfl⟩
theorem Qmt{w:World}{base:Nat}{A:Option Addr}{n c:Nat}{fid:FuncId}{first cap:Array Value}{ps:List Pr}{ds:List Bool}(hD:Dat w base (.slice A n c) ps)(hn:ps.length=n)(hmx:n<=140737488355328)(hC:CF w (Value.slice A n c).ownBlock fid first cap ps ds){a b:Nat}{ai bi:Int}(hai:ai=(a:Int))(hbi:bi=(b:Int))(hab:a+12<b)(hb:b<=n):
  Ret Tryz.prog 168 [.slice A n c,.int .i64 ai,.int .i64 bi,.func (.func fid) first cap] w λv w'=>∃ ps',DP w w' base A n c ps ps':=by
 subst hai;subst hbi;refine Jjc Tryz.func168 Tryz.ntmps168 rfl kr rfl ?_;refine ρ ?_;refine ct ?_ ?_
 .exact decide_eq_true om
 refine ρ ?_;refine alc zXor ?_;intro w1 g Z hg O;have H1:=(DP.start hD hn).ext Z;refine ρ ?_;refine sto (O.cell 0) (O.frozen 0) ?_;have H2:=H1.box O rfl hg (.int .u64 (IntKind.u64.wrap ((b:Int)-(a:Int))));have a6:=O.set 0 (.int .u64 (IntKind.u64.wrap ((b:Int)-(a:Int))));refine ρ ?_;refine cl (Qzq (m:=b-a) (mi:=(b:Int)-(a:Int)) om om om _) ?_;rintro v w' ⟨j,rfl,ab,aa,rfl⟩;refine ρ ?_;refine qn (b-a) 4 ?_;refine ρ ?_;have hq:(b-a) / 4<=(b-a)/\3<=(b-a) / 4/\4*((b-a) / 4)<=b-a:=om
 refine Jjt (fun (idx:Nat) (q:List Pr)=>[(0,.slice A n c),(1,.int .i64 (a:Int)),(8,.int .i64 ((b:Int)-(a:Int))),(9,.pointer (some ⟨g,0,none⟩)),(10,.int .u64 (j:Int)),(11,.int .i64 (idx:Int))])
  (λidx q w'=>DP w w' base A n c ps q/\(∃ r:Int,Blk w' g 262 [.int .u64 r])/\a<=idx/\idx<=n) (λidx _=>n-idx) (a+((b-a) / 4)*2-1) ps sO ⟨H2,⟨_,a6⟩,om,om⟩ ?_
 rintro idx q w3 ⟨H3,⟨r3,a5⟩,ad,hi⟩;refine ρ ?_;refine qn (b-a) 4 ?_;refine ρ ?_;refine ci (λh=>?_) (λh=>?_)
 .have a8:idx<=a+((b-a) / 4)*2+1:=by have:=oT h;omega
  refine ρ ?_;refine cl (Xjq H3 a5 hg) ?_;rintro v w4 ⟨U,rfl,a1,a9,H4,J⟩;refine ρ ?_;have ho:∃ o:Nat,bits .and .u64 U (IntKind.u64.wrap ((j:Int)-1))=(o:Int)/\o<2*(b-a):=by
   obtain ⟨r,rfl⟩:=Int.eq_ofNat_of_zero_le a1;have e:IntKind.u64.wrap ((j:Int)-1)=((j-1:Nat):Int):=by rw [Qnx om];omega
   rw [e];refine ⟨r &&& (j-1),bits_and_u64_nat r (j-1) om om,?_⟩;have:=Nat.and_le_right (n:=r) (m:=j-1);omega
  obtain ⟨o,a2,ac⟩:=ho;refine Jzg (fun (o:Nat)=>[(0,.slice A n c),(1,.int .i64 (a:Int)),(8,.int .i64 ((b:Int)-(a:Int))),(9,.pointer (some ⟨g,0,none⟩)),(10,.int .u64 (j:Int)),(11,.int .i64 (idx:Int)),(12,.int .i64 (o:Int))]) (λo w'=>DP w w' base A n c ps q/\Blk w' g 262 [.int .u64 U]/\o<b-a) ?_ ?_
  .have a7:IntKind.i64.wrap (bits .and .u64 U (IntKind.u64.wrap ((j:Int)-1)))=(o:Int):=by rw [a2];exact Qrl om
   rw [a7];refine ci (λh=>?_) (λh=>?_)
   .have h1:=oT h;refine ρ ?_;exact Jjn (o-(b-a)) sO ⟨H4,J,om⟩
   .have h1:=oF h;refine ρ ?_;exact Jjn o sB ⟨H4,J,om⟩
  rintro o w5 ⟨H5,a4,ho⟩;have C:idx<n:=om
  have G:a+o<n:=om
  refine ρ ?_;refine drC 4 [0,1,2,3,4,5,6,7,8,9,12,13] [(0,10),(0,11),(0,14),(0,15),(0,16),(2,17),(2,18),(2,19)] kr ?_;have i:=H5.drew;obtain ⟨s1,s2,s3,⟨u,s4⟩,s5,s6⟩:=i.swap C G;refine ρp ?_;refine dix (a+o) i.rd G ?_;refine ρd ?_;refine dld (i.cell G) ?_;refine ρd ?_;refine dix (idx) i.rd C ?_;refine ρd ?_;refine dld (i.cell C) ?_;refine ρd ?_;refine dix (idx) i.rd C ?_;refine ρd ?_;refine Jqz ?_;refine sto (i.cell C) s1 ?_ (hv:=i.one G);refine ρ ?_;refine Jxt ?_;refine Jqz ?_;refine ix (a+o) s2 G ?_;refine ρ ?_;refine Jxt ?_;refine Jqz ?_;refine sto s4 s3 ?_ (hv:=i.one C);refine ρ ?_;have b5:=a4.ext (Ext.refl _).drew;have a3:=b5.grown s6 (b5.ne_own i.d.1 rfl);exact Jjj (idx+1) (swp z0 q idx (a+o)) sO ⟨s5,⟨_,a3⟩,om,om⟩ om
 .refine ρ ?_;exact Qls ⟨q,H3⟩
end Go.Proofs.YtefpailelagbkaaGreatDoor
