/- Part 8. -/
import Derived.Test.YtebcagekopgdhaaGreatDoorB07
import Derived.Sort.AssemblyPlain
import Derived.Laws.Bits64b
set_option linter.unusedVariables false
set_option maxRecDepth 100000
set_option maxHeartbeats 40000000
namespace Go.Wk
section
variable {P:Program} {n:Nat} {al:AL} {w:World} {Q:Exit->Act->World->Prop} {ops:Array Oper} {rest:List Oper} {d ty:Nat} {pos:String} {aft:Array Edge}
theorem qn{x y:Operand}{t yt:TypeId}{a b:Int}(m q:Nat)(k:WL P n ops Q rest ((d,.int .i64 ((m / q:Nat):Int))::al) w)(hx:ev al x=some (.int .i64 a):=by rfl)(hy:ev al y=some (.int .i64 b):=by rfl)(ha:a=(m:Int):=by first|rfl|omega)(hb:b=(q:Int):=by first|rfl|omega)(h0:0<q:=by omega)(hm:m<=9223372036854775807:=by omega)(hd:Nat.blt d n=true:=by rfl): WL P n ops Q (⟨some d,.binOp .quo t x y yt,ty,pos,aft,none⟩::rest) al w:=by
 subst ha;subst hb;refine wquo hx hy om hd ?_;have e:IntKind.i64.wrap ((m:Int).tdiv (q:Int))=((m / q:Nat):Int):=by
  rw [Int.tdiv_eq_ediv_of_nonneg om,<-Int.natCast_ediv];have:=Nat.div_le_self m q;generalize m / q=r at *
  exact Gm om
 rw [e];exact k
variable {drest:List (Nat×Oper)}
theorem dshl{x y:Operand}{t yt:TypeId}{k1 k2:IntKind}{a b:Int}(k:WD P n ops Q drest ((d,.int k1 (k1.wrap (a*2^(min b.toNat k1.bits))))::al) w)(hx:ev al x=some (.int k1 a):=by rfl)(hy:ev al y=some (.int k2 b):=by rfl)(h0:0<=b:=by decide)(hd:Nat.blt d n=true:=by rfl):
  WD P n ops Q ((0,⟨some d,.binOp .shl t x y yt,ty,pos,aft,none⟩)::drest) al w :=
 dy (λw' _ e o=>by
  have u:¬ b<0:=om
  simp [execOp,o.ev hx,o.ev hy,eqGuard,binOp,Op.shift,u]) hd k
theorem dshr{x y:Operand}{t yt:TypeId}{k1 k2:IntKind}{a b:Int}(k:WD P n ops Q drest ((d,.int k1 (a.fdiv (2^(min b.toNat k1.bits))))::al) w)(hx:ev al x=some (.int k1 a):=by rfl)(hy:ev al y=some (.int k2 b):=by rfl)(h0:0<=b:=by decide)(hd:Nat.blt d n=true:=by rfl):
  WD P n ops Q ((0,⟨some d,.binOp .shr t x y yt,ty,pos,aft,none⟩)::drest) al w :=
 dy (λw' _ e o=>by
  have u:¬ b<0:=om
  simp [execOp,o.ev hx,o.ev hy,eqGuard,binOp,Op.shift,u]) hd k
end
end Go.Wk
namespace Go.Proofs.YtebcagekopgdhaaGreatDoor
open Go.RowKit Pl Go.Wk
attribute [local irreducible] WC WL QX WD WDB WP
structure DP(w0 w:World)(base:Nat)(A:Option Addr)(n c:Nat)(ps q:List Pr): Prop where
 d:Dat w base (.slice A n c) q
 p:q.Perm ps
 g:w0.grownBy w (Value.slice A n c).ownBlock
 l:q.length=n
section
variable {w0 w w':World} {base:Nat} {A:Option Addr} {n c:Nat} {ps q:List Pr}
theorem DP.start(hD:Dat w base (.slice A n c) ps)(hn:ps.length=n): DP w w base A n c ps ps:=⟨hD,List.Perm.refl _,Zk (Ext.refl w) _,hn⟩
theorem DP.ext(h:DP w0 w base A n c ps q)(hx:Ext w w'): DP w0 w' base A n c ps q:=⟨h.d.ext hx,h.p,Zx h.g (Zk hx _),h.l⟩
theorem DP.drew(h:DP w0 w base A n c ps q): DP w0 w.drew base A n c ps q:=h.ext (Ext.refl w).drew
theorem DP.rd(h:DP w0 w base A n c ps q): Rd w 1 A n (q.map (·.1)):=h.d.rd h.l
theorem DP.cell(h:DP w0 w base A n c ps q){i:Nat}(hi:i<n): w.cell? (adr A i)=some (q.getD i z0).1:=h.d.cell h.l hi
theorem DP.one(h:DP w0 w base A n c ps q){i:Nat}(hi:i<n): (q.getD i z0).1.oneCell'=true:=h.d.one (h.l.symm ▸ hi)
theorem DP.swap(h:DP w0 w base A n c ps q){i j:Nat}(hi:i<n)(hj:j<n):
  w.frozen? (adr A i)=false/\Rd (w.setCell (adr A i) (q.getD j z0).1) 1 A n ((q.set i (q.getD j z0)).map (·.1))/\(w.setCell (adr A i) (q.getD j z0).1).frozen? (adr A j)=false /\
  (∃ u,(w.setCell (adr A i) (q.getD j z0).1).cell? (adr A j)=some u)/\DP w0 ((w.setCell (adr A i) (q.getD j z0).1).setCell (adr A j) (q.getD i z0).1) base A n c ps (swp z0 q i j)/\w.grownBy ((w.setCell (adr A i) (q.getD j z0).1).setCell (adr A j) (q.getD i z0).1) (Value.slice A n c).ownBlock:=by
 obtain ⟨U,O,J,G,C,o⟩:=h.d.swap h.l hi hj;exact ⟨U,O,J,G,⟨C,(Jlm z0 q (h.l.symm ▸ hi) (h.l.symm ▸ hj)).trans h.p,Zx h.g o,by rw [Qwr];exact h.l⟩,o⟩
theorem DP.box(h:DP w0 w base A n c ps q){g t:Nat}{cs:List Value}(hB:Blk w g t cs)(hne:Nat.beq 37 t=false)(hg:w0.heap.size<=g)(u:Value): DP w0 (w.setCell ⟨g,0,none⟩ u) base A n c ps q:=by
 have C:w.grownBy (w.setCell ⟨g,0,none⟩ u) (some g):=⟨rfl,rfl,rfl,by simp [World.setCell],λk o hn=>Below.heap_setCell w ⟨g,0,none⟩ u k (λe=>hn (by rw [e]))⟩;refine ⟨⟨h.d.1.kept C (Or.inr ?_),h.d.2⟩,h.p,?_,h.l⟩
 .exact λe=>hB.ne_own h.d.1 hne e.symm
 .refine ⟨h.g.os,h.g.tape,h.g.output,?_,λk o hn=>?_⟩
  .simp [World.setCell];exact h.g.size
  .exact (Below.heap_setCell w ⟨g,0,none⟩ u k (by simp;omega)).trans (h.g.block k o hn)
end
def CF(w:World)(row:Option Nat)(fid:FuncId)(first cap:Array Value)(M:List Pr)(ds:List Bool): Prop :=
 ∀ w',w.grownBy w' row->∀ p q,p∈M->q∈M->Ret Tryz.prog fid (first.toList++[p.1,q.1]++cap.toList) w' λr w''=>r=.int .i64 (fP ds p q)/\Ext w' w''
theorem CF.call{w0 w:World}{base:Nat}{A:Option Addr}{n c:Nat}{ps q:List Pr}{fid:FuncId}{first cap:Array Value}{ds:List Bool}(hC:CF w0 (Value.slice A n c).ownBlock fid first cap ps ds)(h:DP w0 w base A n c ps q){i j:Nat}(hi:i<n)(hj:j<n):
  Ret Tryz.prog fid (first.toList++[(q.getD i z0).1,(q.getD j z0).1]++cap.toList) w λr w''=>∃ b:Int,r=.int .i64 b/\Ext w w'' :=
 (hC w h.g _ _ (h.p.mem_iff.1 (getD_mem' z0 q (h.l.symm ▸ hi))) (h.p.mem_iff.1 (getD_mem' z0 q (h.l.symm ▸ hj)))).mono λr w'' ⟨u,o⟩=>⟨_,u,o⟩
theorem CF.callV{w0 w:World}{base:Nat}{A:Option Addr}{n c:Nat}{ps q:List Pr}{fid:FuncId}{first cap:Array Value}{ds:List Bool}(hC:CF w0 (Value.slice A n c).ownBlock fid first cap ps ds)(h:DP w0 w base A n c ps q){i j:Nat}(hi:i<n)(hj:j<n):
  Ret Tryz.prog fid (first.toList++[(q.getD i z0).1,(q.getD j z0).1]++cap.toList) w λr w''=>r=.int .i64 (fP ds (q.getD i z0) (q.getD j z0))/\Ext w w'' :=
 hC w h.g _ _ (h.p.mem_iff.1 (getD_mem' z0 q (h.l.symm ▸ hi))) (h.p.mem_iff.1 (getD_mem' z0 q (h.l.symm ▸ hj)))
instance instPr: Inhabited Pr:=⟨z0⟩
def ltP(ds:List Bool)(p q:Pr): Bool:=decide (fP ds p q<0)
theorem az(q:List Pr)(i:Nat): q.toArray[i]! = q.getD i z0:=by
 rw [getElem!_def];simp only [List.getElem?_toArray,List.getD];cases q[i]?<;>rfl
theorem swz(q:List Pr)(i j:Nat): Go.Sort.swp q.toArray i j=(swp z0 q i j).toArray:=by
 unfold Go.Sort.swp swp;rw [az,az,List.setIfInBounds_toArray,List.setIfInBounds_toArray]
theorem Jcx{ds:List Bool}{x y:Pr}(h:ltP ds x y=true): Jw x.2 y.2 ds<0:=oT (p:=fP ds x y<0) h
theorem Jqm{ds:List Bool}{x y:Pr}(h:ltP ds x y=false): Jw y.2 x.2 ds<=0:=by
 have o:¬ Jw x.2 y.2 ds<0:=oF (p:=fP ds x y<0) h;have:=Jkc x.2 y.2 ds;omega
theorem ltP_f'{ds:List Bool}{x y:Pr}(h:Jw y.2 x.2 ds<=0): ltP ds x y=false:=dF (p:=fP ds x y<0) (by
 have:=Jkc x.2 y.2 ds;show ¬ Jw x.2 y.2 ds<0;omega)
theorem swoP(ds:List Bool): Go.Sort.SWO (ltP ds) :=
 ⟨λx=>ltP_f' (by rw [Vo];exact Int.le_refl _),λx y z u o=>decide_eq_true (p:=fP ds x z<0) ((Uo ds).lt_le (Jcx u) (Int.le_of_lt (Jcx o))),
  λx y z u o=>ltP_f' (Jvt z.2 y.2 x.2 ds (Jqm o) (Jqm u))⟩
theorem DP.seg{w0 w:World}{base:Nat}{A:Option Addr}{n c a b:Nat}{ps q:List Pr}(h:DP w0 w base A n c ps q)(k:Go.Sort.PermIn a b ps.toArray q.toArray): Seg z0 a b ps q :=
 ⟨h.p,λi hi=>by have:=k.2.1 i (.inl hi);rwa [az,az]at this,λi hi=>by have:=k.2.1 i (.inr hi);rwa [az,az]at this⟩
theorem Jlw{ds:List Bool}{a b:Nat}{q:List Pr}(h:Go.Sort.SortedIn (ltP ds) a b q.toArray): SOn z0 (fP ds) q a b:=λi j hi o u=>by
 have:=h i j hi o u;rw [az,az]at this;exact Jqm this
theorem Qvl(ds:List Bool)(hi fst root:Nat)(q:List Pr): Go.Sort.siftDown (ltP ds) hi fst root q.toArray=if 2*root+1 ≥ hi then q.toArray else
  if ltP ds (q.getD (fst+root) z0) (q.getD (fst+(if (decide (2*root+2<hi) && ltP ds (q.getD (fst+(2*root+1)) z0) (q.getD (fst+(2*root+1)+1) z0))=true then 2*root+2 else 2*root+1)) z0)=true then
   Go.Sort.siftDown (ltP ds) hi fst (if (decide (2*root+2<hi) && ltP ds (q.getD (fst+(2*root+1)) z0) (q.getD (fst+(2*root+1)+1) z0))=true then 2*root+2 else 2*root+1)
    (swp z0 q (fst+root) (fst+(if (decide (2*root+2<hi) && ltP ds (q.getD (fst+(2*root+1)) z0) (q.getD (fst+(2*root+1)+1) z0))=true then 2*root+2 else 2*root+1))).toArray
  else q.toArray:=by
 rw [Go.Sort.siftDown];by_cases h1:2*root+1 ≥ hi
 .rw [dif_pos h1,if_pos h1]
 rw [dif_neg h1,if_neg h1];simp only [az,swz];by_cases h2:(decide (2*root+2<hi) && ltP ds (q.getD (fst+(2*root+1)) z0) (q.getD (fst+(2*root+1)+1) z0))=true
 .have o:2*root+2<hi:=by simp at h2;exact h2.1
  rw [if_pos (show (decide (2*root+1+1<hi) && ltP ds (q.getD (fst+(2*root+1)) z0) (q.getD (fst+(2*root+1)+1) z0))=true from h2),if_pos h2,dif_pos o];cases ltP ds (q.getD (fst+root) z0) (q.getD (fst+(2*root+2)) z0)<;>simp
 .rw [if_neg (show ¬ (decide (2*root+1+1<hi) && ltP ds (q.getD (fst+(2*root+1)) z0) (q.getD (fst+(2*root+1)+1) z0))=true from h2),if_neg h2];cases ltP ds (q.getD (fst+root) z0) (q.getD (fst+(2*root+1)) z0)<;>simp
theorem CF.pack{w:World}{row:Option Nat}{fid:FuncId}{first cap:Array Value}{M:List Pr}{ds:List Bool}(h:CF w row fid first cap M ds): CmpF w row (.func (.func fid) first cap) M ds:=⟨fid,first,cap,rfl,h⟩
theorem CF.step{w w1:World}{base:Nat}{A:Option Addr}{n c:Nat}{ps q:List Pr}{fid:FuncId}{first cap:Array Value}{ds:List Bool}(hC:CF w (Value.slice A n c).ownBlock fid first cap ps ds)(h:DP w w1 base A n c ps q): CF w1 (Value.slice A n c).ownBlock fid first cap q ds :=
 λw' o a b C u=>hC w' (Zx h.g o) a b (h.p.mem_iff.1 C) (h.p.mem_iff.1 u)
theorem DP.after{w0 w w':World}{base:Nat}{A:Option Addr}{n c:Nat}{ps q q':List Pr}(h:DP w0 w base A n c ps q)(k:DP w w' base A n c q q'): DP w0 w' base A n c ps q':=⟨k.d,k.p.trans h.p,Zx h.g k.g,k.l⟩
theorem Qyl{w:World}{base:Nat}{A:Option Addr}{n c:Nat}{fid:FuncId}{first cap:Array Value}{ps:List Pr}{ds:List Bool}(hD:Dat w base (.slice A n c) ps)(hn:ps.length=n)(hmx:n<=140737488355328)(hC:CF w (Value.slice A n c).ownBlock fid first cap ps ds){a b:Nat}{ai bi:Int}(hai:ai=(a:Int))(hbi:bi=(b:Int))(hab:a<b)(hb:b<=n):
  Ret Tryz.prog 179 [.slice A n c,.int .i64 ai,.int .i64 bi,.func (.func fid) first cap] w λv w'=>∃ ps',DP w w' base A n c ps ps'/\Seg z0 a b ps ps':=by
 subst hai;subst hbi;refine Jz Tryz.func179 Tryz.ntmps179 rfl kr rfl ?_;refine ρ ?_;refine Xr (fun (i j:Nat) (q:List Pr)=>[(0,.slice A n c),(8,.int .i64 (i:Int)),(9,.int .i64 ((j:Int)-1))])
  (λi j q w'=>DP w w' base A n c ps q/\j<=b/\a<=i/\i<=n/\Seg z0 a b ps q) (λi j _=>n+j-i) a b ps sO ⟨DP.start hD hn,Nat.le_refl _,Nat.le_refl _,om,Seg.refl _ _ _⟩ ?_
 rintro i j q w1 ⟨H,hj,hai,hi,J⟩;refine ρ ?_;refine ci (λh=>?_) (λh=>?_)
 .have a1:i+1<j:=by have:=oT h;omega
  have C:i<n:=om
  have G:j-1<n:=om
  refine ρ ?_;refine drC 4 [0,1,2,3,4,5,8,9] [(0,6),(0,7),(0,10),(0,11),(0,12),(2,13),(2,14),(2,15)] kr ?_;have o:=H.drew;obtain ⟨s1,s2,Z,⟨u,U⟩,O,s6⟩:=o.swap C G;refine ρp ?_;refine dix (j-1) o.rd G ?_;refine ρd ?_;refine dld (o.cell G) ?_;refine ρd ?_;refine dix (i) o.rd C ?_;refine ρd ?_;refine dld (o.cell C) ?_;refine ρd ?_;refine dix (i) o.rd C ?_;refine ρd ?_;refine Jo ?_;refine sto (o.cell C) s1 ?_ (hv:=o.one G);refine ρ ?_;refine Ql ?_;refine Jo ?_;refine ix (j-1) s2 G ?_;refine ρ ?_;refine Ql ?_;refine Jo ?_;refine sto U Z ?_ (hv:=o.one C);refine ρ ?_;exact Qa (i+1) (j-1) (swp z0 q i (j-1)) sO ⟨O,om,om,om,J.trans (Seg.swp om om om om (by rw [H.l];exact hb))⟩ om
 .refine ρ ?_;exact Ue ⟨q,H,J⟩
theorem Jmd{w:World}{base:Nat}{A:Option Addr}{n c:Nat}{fid:FuncId}{first cap:Array Value}{ps:List Pr}{ds:List Bool}(hD:Dat w base (.slice A n c) ps)(hn:ps.length=n)(hmx:n<=140737488355328)(hC:CF w (Value.slice A n c).ownBlock fid first cap ps ds){lo hi fst:Nat}{loi hii fsti:Int}(hlo:loi=(lo:Int))(hhi:hii=(hi:Int))(hfst:fsti=(fst:Int))(hb:fst+hi<=n)(hl:lo<=n):
  Ret Tryz.prog 197 [.slice A n c,.int .i64 loi,.int .i64 hii,.int .i64 fsti,.func (.func fid) first cap] w λv w'=>∃ ps',DP w w' base A n c ps ps'/\Go.Sort.siftDown (ltP ds) hi fst lo ps.toArray=ps'.toArray:=by
 subst hlo;subst hhi;subst hfst;refine Jz Tryz.func197 Tryz.ntmps197 rfl kr rfl ?_;refine ρ ?_;refine Jt (fun (o:Nat) (q:List Pr)=>[(0,.slice A n c),(2,.int .i64 (hi:Int)),(3,.int .i64 (fst:Int)),(4,.func (.func fid) first cap),(10,.int .i64 (o:Int))])
  (λo q w'=>DP w w' base A n c ps q/\o<=n/\Go.Sort.siftDown (ltP ds) hi fst lo ps.toArray=Go.Sort.siftDown (ltP ds) hi fst o q.toArray) (λo _=>n-o) lo ps sB ⟨DP.start hD hn,hl,rfl⟩ ?_
 rintro o q w1 ⟨H,hr,O⟩;rw [Qvl ds hi fst o q]at O;refine ρ ?_;refine ci (λh=>?_) (λh=>?_)
 .rw [if_pos (show 2*o+1 ≥ hi by have:=oT h;omega)]at O;refine ρ ?_;exact Ue ⟨q,H,O⟩
 have aa:2*o+1<hi:=by have:=oF h;omega
 rw [if_neg (show ¬ 2*o+1 ≥ hi by omega)]at O;refine ρ ?_;refine Xa (fun (b:Bool)=>[(0,.slice A n c),(2,.int .i64 (hi:Int)),(3,.int .i64 (fst:Int)),(4,.func (.func fid) first cap),(10,.int .i64 (o:Int)),(11,.int .i64 (2*(o:Int)+1)),(40,.bool b)]) (λb w'=>DP w w' base A n c ps q/\(b=true->2*o+2<hi)/\b=(decide (2*o+2<hi) && ltP ds (q.getD (fst+(2*o+1)) z0) (q.getD (fst+(2*o+1)+1) z0))) ?_ ?_
 .skip
  refine dr [(0,0),(0,1),(0,2),(0,3),(0,4),(0,5),(0,6),(0,7),(0,8),(0,9),(0,10),(0,11),(0,12),(0,13),(0,14),(0,15),(0,16),(0,17),(0,18),(1,19),(0,20),(0,21)] kr ?_;have Hd:=H.drew;refine ρd ?_;refine dki 23 (λh=>?_) (λh=>?_)
  .have a3:2*o+2<hi:=by have:=oT h;omega
   have li:fst+(2*o+1)<n:=om
   have lj:fst+(2*o+1)+1<n:=om
   refine ρd ?_;refine dix (fst+(2*o+1)) Hd.rd li ?_;refine ρd ?_;refine dld (Hd.cell li) ?_;refine ρd ?_;refine dix (fst+(2*o+1)+1) Hd.rd lj ?_;refine ρd ?_;refine dld (Hd.cell lj) ?_;refine ρd ?_;refine Za (hC.callV Hd li lj) ?_;rintro r a8 ⟨rfl,a2⟩;refine ⟨a2,?_⟩;have H2:=Hd.ext a2;refine ρd ?_;refine ρ ?_;exact Jb _ sB ⟨H2,λ_=>a3,by rw [decide_eq_true a3];rfl⟩
  .refine ρd ?_;refine ρ ?_;exact Jb false sB ⟨Hd,(λe=>by cases e),by rw [decide_eq_false (show ¬ 2*o+2<hi by have:=oF h;omega)];rfl⟩
 rintro b w2 ⟨H2,a6,a5⟩;rw [<-a5]at O;refine Xa (fun (C:Nat)=>[(0,.slice A n c),(2,.int .i64 (hi:Int)),(3,.int .i64 (fst:Int)),(4,.func (.func fid) first cap),(10,.int .i64 (o:Int)),(11,.int .i64 (C:Int))]) (λC w'=>DP w w' base A n c ps q/\o<C/\C<hi/\C=if b=true then 2*o+2 else 2*o+1) ?_ ?_
 .refine ci (λh=>?_) (λh=>?_)
  .have:=a6 h;refine ρ ?_;exact Jb (2*o+2) sO ⟨H2,om,om,by rw [if_pos h]⟩
  .refine ρ ?_;exact Jb (2*o+1) sO ⟨H2,om,om,by rw [if_neg (by rw [h];decide)]⟩
 rintro C w3 ⟨H3,a3,a9,a4⟩;rw [<-a4]at O;have U:fst+o<n:=om
 have Z:fst+C<n:=om
 refine ρ ?_;refine dr [(0,0),(0,1),(0,2),(0,3),(0,4),(0,5),(0,6),(0,7),(0,8),(0,9),(0,10),(0,11),(0,12),(1,13),(0,14),(0,15)] kr ?_;have J:=H3.drew;refine ρd ?_;refine ρd ?_;refine dix (fst+o) J.rd U ?_;refine ρd ?_;refine dld (J.cell U) ?_;refine ρd ?_;refine dix (fst+C) J.rd Z ?_;refine ρd ?_;refine dld (J.cell Z) ?_;refine ρd ?_;refine Za (hC.callV J U Z) ?_;rintro r a7 ⟨rfl,a1⟩;refine ⟨a1,?_⟩;have H4:=J.ext a1;refine ρd ?_;refine ρ ?_;refine ci (λh=>?_) (λh=>?_)
 .have hf:ltP ds (q.getD (fst+o) z0) (q.getD (fst+C) z0)=false:=by simpa [ltP] using h
  rw [if_neg (by rw [hf];decide)]at O;refine ρ ?_;exact Jzt ⟨q,H4,O⟩
 have ht:ltP ds (q.getD (fst+o) z0) (q.getD (fst+C) z0)=true:=by simpa [ltP] using h
 rw [if_pos ht]at O;refine ρ ?_;refine drC 4 [0,1,2,3,4,5,6,7,8,9,10,11,14,15,16,17] [(0,12),(0,13),(0,18),(0,19),(0,20),(2,21),(2,22),(2,23)] kr ?_;have G:=H4.drew;obtain ⟨s1,s2,s3,⟨u,s4⟩,s5,s6⟩:=G.swap U Z;refine ρp ?_;refine dix (fst+C) G.rd Z ?_;refine ρd ?_;refine dld (G.cell Z) ?_;refine ρd ?_;refine dix (fst+o) G.rd U ?_;refine ρd ?_;refine dld (G.cell U) ?_;refine ρd ?_;refine dix (fst+o) G.rd U ?_;refine ρd ?_;refine Jo ?_;refine sto (G.cell U) s1 ?_ (hv:=G.one Z);refine ρ ?_;refine Ql ?_;refine Jo ?_;refine ix (fst+C) s2 Z ?_;refine ρ ?_;refine Ql ?_;refine Jo ?_;refine sto s4 s3 ?_ (hv:=G.one U);refine ρ ?_;exact Jg C (swp z0 q (fst+o) (fst+C)) sB ⟨s5,om,O⟩ om
theorem Qgz{w:World}{base:Nat}{A:Option Addr}{n c:Nat}{fid:FuncId}{first cap:Array Value}{ps:List Pr}{ds:List Bool}(hD:Dat w base (.slice A n c) ps)(hn:ps.length=n)(hmx:n<=140737488355328)(hC:CF w (Value.slice A n c).ownBlock fid first cap ps ds){a b:Nat}{ai bi:Int}(hai:ai=(a:Int))(hbi:bi=(b:Int))(hab:a<b)(hb:b<=n):
  Ret Tryz.prog 176 [.slice A n c,.int .i64 ai,.int .i64 bi,.func (.func fid) first cap] w λv w'=>∃ ps',DP w w' base A n c ps ps'/\Go.Sort.heapSort (ltP ds) ps.toArray a b=ps'.toArray:=by
 subst hai;subst hbi;refine Jz Tryz.func176 Tryz.ntmps176 rfl kr rfl ?_;refine ρ ?_;refine qn (b-a-1) 2 ?_;refine ρ ?_;refine Jt (fun (i:Nat) (q:List Pr)=>[(0,.slice A n c),(3,.func (.func fid) first cap),(8,.int .i64 (a:Int)),(9,.int .i64 0),(10,.int .i64 ((b:Int)-(a:Int))),(11,.int .i64 ((i:Int)-1))])
  (λi q w'=>DP w w' base A n c ps q/\i<=n/\Go.Sort.heapSort (ltP ds) ps.toArray a b=Go.Sort.heapPop (ltP ds) a (b-a) (Go.Sort.heapBuild (ltP ds) (b-a) a i q.toArray)) (λi _=>i) ((b-a-1) / 2+1) ps sO ⟨DP.start hD hn,om,rfl⟩ ?_
 rintro i q w1 ⟨H,hi,C⟩;refine ρ ?_;refine ci (λh=>?_) (λh=>?_)
 .have o:0<i:=by have:=oT h;omega
  refine ρ ?_;refine cl (Jmd (lo:=i-1) (hi:=b-a) (fst:=a) (loi:=(i:Int)-1) (hii:=(b:Int)-(a:Int)) H.d H.l hmx (hC.step H) om om rfl om om) ?_;rintro v w2 ⟨q2,H2,J⟩;have e1:i=(i-1)+1:=om
  rw [e1,Go.Sort.heapBuild,J]at C;refine ρ ?_;exact Jg (i-1) q2 sO ⟨H.after H2,om,C⟩ om
 have o:i=0:=by have:=oF h;omega
 rw [o,Go.Sort.heapBuild]at C;refine ρ ?_;refine Jt (fun (i:Nat) (q:List Pr)=>[(0,.slice A n c),(3,.func (.func fid) first cap),(8,.int .i64 (a:Int)),(9,.int .i64 0),(12,.int .i64 ((i:Int)-1))])
  (λi q w'=>DP w w' base A n c ps q/\i<=b-a/\Go.Sort.heapSort (ltP ds) ps.toArray a b=Go.Sort.heapPop (ltP ds) a i q.toArray) (λi _=>i) (b-a) q sO ⟨H,om,C⟩ ?_
 clear C;rintro i q w1 ⟨H,hi,C⟩;refine ρ ?_;refine ci (λh=>?_) (λh=>?_)
 .have o:0<i:=by have:=oT h;omega
  have O:a<n:=om
  have U:a+(i-1)<n:=om
  refine ρ ?_;refine drC 4 [0,1,2,3,4,5,6,7,8,9,12,13] [(0,10),(0,11),(0,14),(0,15),(0,16),(2,17),(2,18),(2,19)] kr ?_;have G:=H.drew;obtain ⟨s1,s2,s3,⟨u,s4⟩,Z,s6⟩:=G.swap O U;refine ρp ?_;refine dix (a+(i-1)) G.rd U ?_;refine ρd ?_;refine dld (G.cell U) ?_;refine ρd ?_;refine dix (a) G.rd O ?_;refine ρd ?_;refine dld (G.cell O) ?_;refine ρd ?_;refine dix (a) G.rd O ?_;refine ρd ?_;refine Jo ?_;refine sto (G.cell O) s1 ?_ (hv:=G.one U);refine ρ ?_;refine Ql ?_;refine Jo ?_;refine ix (a+(i-1)) s2 U ?_;refine ρ ?_;refine Ql ?_;refine Jo ?_;refine sto s4 s3 ?_ (hv:=G.one O);refine ρ ?_;refine cl (Jmd (lo:=0) (hi:=i-1) (fst:=a) (loi:=0) (hii:=(i:Int)-1) Z.d Z.l hmx (hC.step Z) rfl om rfl om om) ?_;rintro v w2 ⟨q2,H2,J⟩;have e1:i=(i-1)+1:=om
  rw [e1,Go.Sort.heapPop,swz,J]at C;refine ρ ?_;exact Jg (i-1) q2 sO ⟨Z.after H2,om,C⟩ om
 have o:i=0:=by have:=oF h;omega
 rw [o,Go.Sort.heapPop]at C;refine ρ ?_;exact Ue ⟨q,H,C⟩
open Go.RowKit Pl Go.Wk
theorem zInt: Qt Tryz.prog 3=some (.int .i64 0):=kr
theorem zXor: Qt Tryz.prog 270=some (.int .u64 0):=kr
theorem Jcl{w0 w:World}{base:Nat}{A:Option Addr}{n c:Nat}{fid:FuncId}{first cap:Array Value}{ps q:List Pr}{ds:List Bool}(H:DP w0 w base A n c ps q)(hmx:n<=140737488355328)(hC:CF w0 (Value.slice A n c).ownBlock fid first cap ps ds){g:Nat}{s:Int}(hB:Blk w g 3 [.int .i64 s])(hg:w0.heap.size<=g){a b:Nat}(ha:a<n)(hb:b<n):
  Ret Tryz.prog 211 [.slice A n c,.int .i64 (a:Int),.int .i64 (b:Int),.pointer (some ⟨g,0,none⟩),.func (.func fid) first cap] w λr w'=>∃ x y:Nat,∃ s':Int,r=.tuple #[.int .i64 (x:Int),.int .i64 (y:Int)]/\((x=a/\y=b)∨(x=b/\y=a))/\DP w0 w' base A n c ps q/\Blk w' g 3 [.int .i64 s']:=by
 refine Jz Tryz.func211 Tryz.ntmps211 rfl kr rfl ?_;refine ρ ?_;refine dr [(0,0),(0,1),(0,2),(0,3),(0,4),(0,5),(0,6),(0,7),(0,8),(1,9),(0,10)] kr ?_;have C:=H.drew;refine ρd ?_;refine ρd ?_;refine dix (b) C.rd hb ?_;refine ρd ?_;refine dld (C.cell hb) ?_;refine ρd ?_;refine dix (a) C.rd ha ?_;refine ρd ?_;refine dld (C.cell ha) ?_;refine ρd ?_;refine Za (hC.call C hb ha) ?_;rintro r J ⟨O,rfl,u⟩;refine ⟨u,?_⟩;have G:=C.ext u;refine ρd ?_;refine ρ ?_;have o:=(hB.ext (Ext.refl w).drew).ext u;refine ci (λh=>?_) (λh=>?_)
 .refine ρ ?_;refine ld (o.cell 0) ?_;refine ρ ?_;refine sto (o.cell 0) (o.frozen 0) ?_;refine ρ ?_;exact Ve ⟨b,a,_,rfl,.inr ⟨rfl,rfl⟩,G.box o rfl hg _,o.set 0 _⟩
 .refine ρ ?_;exact Ve ⟨a,b,_,rfl,.inl ⟨rfl,rfl⟩,G,o⟩
theorem Jrd{w0 w:World}{base:Nat}{A:Option Addr}{n c:Nat}{fid:FuncId}{first cap:Array Value}{ps q:List Pr}{ds:List Bool}(H:DP w0 w base A n c ps q)(hmx:n<=140737488355328)(hC:CF w0 (Value.slice A n c).ownBlock fid first cap ps ds){g:Nat}{s:Int}(hB:Blk w g 3 [.int .i64 s])(hg:w0.heap.size<=g){a b e:Nat}(ha:a<n)(hb:b<n)(he:e<n):
  Ret Tryz.prog 201 [.slice A n c,.int .i64 (a:Int),.int .i64 (b:Int),.int .i64 (e:Int),.pointer (some ⟨g,0,none⟩),.func (.func fid) first cap] w λr w'=>∃ m:Nat,∃ s':Int,r=.int .i64 (m:Int)/\(m=a∨m=b∨m=e)/\DP w0 w' base A n c ps q/\Blk w' g 3 [.int .i64 s']:=by
 refine Jz Tryz.func201 Tryz.ntmps201 rfl kr rfl ?_;refine ρ ?_;refine cl (Jcl H hmx hC hB hg ha hb) ?_;rintro r w1 ⟨U,O,s1,rfl,e1,H1,C⟩;refine ρ ?_;refine cl (Jcl (a:=O) (b:=e) H1 hmx hC C hg om he) ?_;rintro r w2 ⟨J,e2,s2,rfl,e3,H2,u⟩;refine ρ ?_;refine cl (Jcl (a:=U) (b:=J) H2 hmx hC u hg om om) ?_;rintro r w3 ⟨a3,G,s3,rfl,e4,Z,o⟩;refine ρ ?_;exact Jj ⟨G,_,rfl,om,Z,o⟩
theorem Jcs{w0 w:World}{base:Nat}{A:Option Addr}{n c:Nat}{fid:FuncId}{first cap:Array Value}{ps q:List Pr}{ds:List Bool}(H:DP w0 w base A n c ps q)(hmx:n<=140737488355328)(hC:CF w0 (Value.slice A n c).ownBlock fid first cap ps ds){g:Nat}{s:Int}(hB:Blk w g 3 [.int .i64 s])(hg:w0.heap.size<=g){a:Nat}{ai:Int}(hai:ai=(a:Int))(ha:0<a)(hb:a+1<n):
  Ret Tryz.prog 200 [.slice A n c,.int .i64 ai,.pointer (some ⟨g,0,none⟩),.func (.func fid) first cap] w λr w'=>∃ m:Nat,∃ s':Int,r=.int .i64 (m:Int)/\(m=a∨m+1=a∨m=a+1)/\DP w0 w' base A n c ps q/\Blk w' g 3 [.int .i64 s']:=by
 subst hai;refine Jz Tryz.func200 Tryz.ntmps200 rfl kr rfl ?_;refine ρ ?_;have C:a-1<n:=om
 have u:((a:Int)-1)=((a-1:Nat):Int):=om
 have G:((a:Int)+1)=((a+1:Nat):Int):=om
 rw [u,G];refine cl (Jrd H hmx hC hB hg C (by omega:a<n) hb) ?_;rintro r O ⟨m,U,rfl,u,J,o⟩;refine ρ ?_;exact Jj ⟨m,_,rfl,om,J,o⟩
theorem Qmp{w:World}{base:Nat}{A:Option Addr}{n c:Nat}{fid:FuncId}{first cap:Array Value}{ps:List Pr}{ds:List Bool}(hD:Dat w base (.slice A n c) ps)(hn:ps.length=n)(hmx:n<=140737488355328)(hC:CF w (Value.slice A n c).ownBlock fid first cap ps ds){a b:Nat}{ai bi:Int}(hai:ai=(a:Int))(hbi:bi=(b:Int))(hab:a+12<b)(hb:b<=n):
  Ret Tryz.prog 178 [.slice A n c,.int .i64 ai,.int .i64 bi,.func (.func fid) first cap] w λr w'=>∃ m:Nat,∃ z:Int,r=.tuple #[.int .i64 (m:Int),.int .i64 z]/\a<=m/\m<b/\DP w w' base A n c ps ps:=by
 subst hai;subst hbi;refine Jz Tryz.func178 Tryz.ntmps178 rfl kr rfl ?_;refine ρ ?_;refine alc zInt ?_;intro w1 g u o hB;have H1:=(DP.start hD hn).ext u;refine ρ ?_;refine qn (b-a) 4 ?_;refine ρ ?_;refine qn (b-a) 4 ?_;refine ρ ?_;refine qn (b-a) 4 ?_;refine ρ ?_;refine ct ?_ ?_
 .exact decide_eq_true om
 have hq:(b-a) / 4<=(b-a)/\3<=(b-a) / 4/\4*((b-a) / 4)<=b-a:=om
 generalize (b-a) / 4=l4 at hq ⊢
 refine ρ ?_;refine Jhl (fun (i j k:Nat)=>[(0,.slice A n c),(3,.func (.func fid) first cap),(11,.pointer (some ⟨g,0,none⟩)),(12,.int .i64 (i:Int)),(13,.int .i64 (j:Int)),(14,.int .i64 (k:Int))])
  (λi j k w'=>DP w w' base A n c ps ps/\(∃ s:Int,Blk w' g 3 [.int .i64 s])/\a<=i/\i<b/\a<=j/\j<b/\a<=k/\k<b) ?_ ?_
 .refine ci (λh=>?_) (λh=>?_)
  .have a1:=oT h;refine ρ ?_;refine cl (Jcs (a:=a+l4) (ai:=(a:Int)+(l4:Int)*1) H1 hmx hC hB o om om om) ?_;rintro r w2 ⟨i,s2,rfl,e2,H2,U⟩;refine ρ ?_;refine cl (Jcs (a:=a+l4*2) (ai:=(a:Int)+(l4:Int)*2) H2 hmx hC U o om om om) ?_;rintro r w3 ⟨j,s3,rfl,e3,H3,O⟩;refine ρ ?_;refine cl (Jcs (a:=a+l4*3) (ai:=(a:Int)+(l4:Int)*3) H3 hmx hC O o om om om) ?_;rintro r w4 ⟨k,s4,rfl,e4,H4,J⟩;refine ρ ?_;exact Jwl i j k sB ⟨H4,⟨_,J⟩,om,om,om,om,om,om⟩
  .refine ρ ?_;exact Jwl (a+l4) (a+l4*2) (a+l4*3) sO ⟨H1,⟨_,hB⟩,om,om,om,om,om,om⟩
 rintro i j k w5 ⟨H5,⟨s5,G⟩,h1,h2,h3,h4,h5,h6⟩;refine ρ ?_;refine cl (Jrd H5 hmx hC G o (by omega:i<n) (by omega:j<n) (by omega:k<n)) ?_;rintro r w6 ⟨m,s6,rfl,e6,Z,C⟩;refine ρ ?_;refine ld (C.cell 0) ?_;refine ρ ?_;refine ci (λh=>?_) (λh=>?_)
 .refine ρ ?_;exact Ve ⟨m,_,rfl,om,om,Z⟩
 refine ρ ?_;refine ci (λh=>?_) (λh=>?_)
 .refine ρ ?_;exact Ve ⟨m,_,rfl,om,om,Z⟩
 refine ρ ?_;exact Ve ⟨m,_,rfl,om,om,Z⟩
open Go.RowKit Pl Go.Wk
theorem Qqm(op:BinOp)(x y:Int): 0<=bits op .u64 x y/\bits op .u64 x y<=18446744073709551615:=by
 unfold bits;rw [IntKind.wrap_u64];omega
theorem Qzk{w0 w:World}{base:Nat}{A:Option Addr}{n c:Nat}{ps q:List Pr}(H:DP w0 w base A n c ps q){g:Nat}{r:Int}(hB:Blk w g 270 [.int .u64 r])(hg:w0.heap.size<=g):
  Ret Tryz.prog 199 [.pointer (some ⟨g,0,none⟩)] w λv w'=>∃ r',v=.int .u64 r'/\0<=r'/\r'<=18446744073709551615/\DP w0 w' base A n c ps q/\Blk w' g 270 [.int .u64 r']:=by
 refine Jz Tryz.func199 Tryz.ntmps199 rfl kr rfl ?_;refine ρ ?_;refine dr [(0,0),(0,1),(0,2),(0,3),(0,4),(0,5),(0,6),(0,7),(0,8),(2,9)] kr ?_;have b0:=hB.ext (Ext.refl _).drew;have h0:=H.drew;refine ρd ?_;refine dld (b0.cell 0) ?_;refine ρd ?_;refine dld (b0.cell 0) ?_;refine ρd ?_;refine dshl ?_;refine ρd ?_;obtain ⟨O,a2⟩:∃ z,z=bits .xor .u64 r (IntKind.u64.wrap (r*2^min (13:Int).toNat IntKind.u64.bits)):=⟨_,rfl⟩;refine dkv 10 (u:=.int .u64 O) (congrArg (Value.int .u64) a2.symm) ?_;refine Jo ?_;refine sto (b0.cell 0) (b0.frozen 0) ?_;refine ρ ?_;have H1:=h0.box b0 rfl hg (.int .u64 O);have a4:=b0.set 0 (.int .u64 O);refine dr [(0,0),(0,1),(0,2),(0,3),(0,4),(0,5),(0,6),(0,7),(0,8),(2,9)] kr ?_;have G:=a4.ext (Ext.refl _).drew;have h1:=H1.drew;refine ρd ?_;refine dld (G.cell 0) ?_;refine ρd ?_;refine dld (G.cell 0) ?_;refine ρd ?_;refine dshr ?_
 refine ρd ?_;obtain ⟨J,a1⟩:∃ z,z=bits .xor .u64 O (O.fdiv (2^min (7:Int).toNat IntKind.u64.bits)):=⟨_,rfl⟩;refine dkv 19 (u:=.int .u64 J) (congrArg (Value.int .u64) a1.symm) ?_;refine Jo ?_;refine sto (G.cell 0) (G.frozen 0) ?_;refine ρ ?_;have H2:=h1.box G rfl hg (.int .u64 J);have a3:=G.set 0 (.int .u64 J);refine dr [(0,0),(0,1),(0,2),(0,3),(0,4),(0,5),(0,6),(0,7),(0,8),(2,9)] kr ?_;have C:=a3.ext (Ext.refl _).drew;have h2:=H2.drew;refine ρd ?_;refine dld (C.cell 0) ?_;refine ρd ?_;refine dld (C.cell 0) ?_;refine ρd ?_;refine dshl ?_;refine ρd ?_;obtain ⟨Z,o⟩:∃ z,z=bits .xor .u64 J (IntKind.u64.wrap (J*2^min (17:Int).toNat IntKind.u64.bits)):=⟨_,rfl⟩;refine dkv 28 (u:=.int .u64 Z) (congrArg (Value.int .u64) o.symm) ?_;refine Jo ?_;refine sto (C.cell 0) (C.frozen 0) ?_;refine ρ ?_;have H3:=h2.box C rfl hg (.int .u64 Z);have U:=C.set 0 (.int .u64 Z);refine ld (U.cell 0) ?_
 refine ρ ?_;exact Jj ⟨Z,rfl,by rw [o];exact (Qqm _ _ _).1,by rw [o];exact (Qqm _ _ _).2,H3,U⟩
theorem Qdg{m:Nat}{mi:Int}(hmi:mi=(m:Int))(h0:0<m)(hm:m<=140737488355328)(w:World): Ret Tryz.prog 198 [.int .i64 mi] w λv w'=>∃ p:Nat,v=.int .u64 (p:Int)/\0<p/\p<=2*m/\w'=w:=by
 subst hmi;refine Jz Tryz.func198 Tryz.ntmps198 rfl kr rfl ?_;refine ρ ?_;refine kv 4 (u:=.int .u64 (m:Int)) (congrArg (Value.int .u64) (Gz om)) ?_;refine cl (Qqn m om w) ?_;rintro v w' ⟨rfl,rfl⟩;refine ρ ?_;refine wshl rfl rfl om rfl ?_;obtain ⟨O,J⟩:=Jrr (x:=m) om;have G:Ju m<=48:=Jqp om;have C:2^Ju m=2*2^(Ju m-1):=by rw [<-Nat.pow_succ'];congr 1;omega
 have e:IntKind.u64.wrap (1*2^min ((Ju m:Nat):Int).toNat IntKind.u64.bits)=((2^Ju m:Nat):Int):=by
  have o:min ((Ju m:Nat):Int).toNat IntKind.u64.bits=Ju m:=by simp only [Int.toNat_natCast];exact Nat.min_eq_left (by show Ju m<=64;omega)
  rw [o,Int.one_mul];have:((2^Ju m:Nat):Int)=(2:Int)^Ju m:=by push_cast;rfl
  rw [<-this];exact Gz om
 refine kv 6 (congrArg (Value.int .u64) e) ?_;refine ρ ?_;exact Jj ⟨2^Ju m,rfl,Nat.pow_pos om,om,rfl⟩
theorem Qmx{w:World}{base:Nat}{A:Option Addr}{n c:Nat}{fid:FuncId}{first cap:Array Value}{ps:List Pr}{ds:List Bool}(hD:Dat w base (.slice A n c) ps)(hn:ps.length=n)(hmx:n<=140737488355328)(hC:CF w (Value.slice A n c).ownBlock fid first cap ps ds){a b:Nat}{ai bi:Int}(hai:ai=(a:Int))(hbi:bi=(b:Int))(hab:a+12<b)(hb:b<=n):
  Ret Tryz.prog 177 [.slice A n c,.int .i64 ai,.int .i64 bi,.func (.func fid) first cap] w λv w'=>∃ ps',DP w w' base A n c ps ps'/\Seg z0 a b ps ps':=by
 subst hai;subst hbi;refine Jz Tryz.func177 Tryz.ntmps177 rfl kr rfl ?_;refine ρ ?_;refine ct ?_ ?_
 .exact decide_eq_true om
 refine ρ ?_;refine alc zXor ?_;intro w1 g a1 hg hB;have H1:=(DP.start hD hn).ext a1;refine ρ ?_;refine sto (hB.cell 0) (hB.frozen 0) ?_;have H2:=H1.box hB rfl hg (.int .u64 (IntKind.u64.wrap ((b:Int)-(a:Int))));have a7:=hB.set 0 (.int .u64 (IntKind.u64.wrap ((b:Int)-(a:Int))));refine ρ ?_;refine cl (Qdg (m:=b-a) (mi:=(b:Int)-(a:Int)) om om om _) ?_;rintro v w' ⟨G,rfl,ac,ab,rfl⟩;refine ρ ?_;refine qn (b-a) 4 ?_;refine ρ ?_;have hq:(b-a) / 4<=(b-a)/\3<=(b-a) / 4/\4*((b-a) / 4)<=b-a:=om
 refine Jt (fun (idx:Nat) (q:List Pr)=>[(0,.slice A n c),(1,.int .i64 (a:Int)),(8,.int .i64 ((b:Int)-(a:Int))),(9,.pointer (some ⟨g,0,none⟩)),(10,.int .u64 (G:Int)),(11,.int .i64 (idx:Int))])
  (λidx q w'=>DP w w' base A n c ps q/\(∃ r:Int,Blk w' g 270 [.int .u64 r])/\a<=idx/\idx<=n/\Seg z0 a b ps q) (λidx _=>n-idx) (a+((b-a) / 4)*2-1) ps sO ⟨H2,⟨_,a7⟩,om,om,Seg.refl _ _ _⟩ ?_
 rintro idx q w3 ⟨H3,⟨r3,a6⟩,ae,hi,U⟩;refine ρ ?_;refine qn (b-a) 4 ?_;refine ρ ?_;refine ci (λh=>?_) (λh=>?_)
 .have a9:idx<=a+((b-a) / 4)*2+1:=by have:=oT h;omega
  refine ρ ?_;refine cl (Qzk H3 a6 hg) ?_;rintro v w4 ⟨r4,rfl,a2,aa,H4,Z⟩;refine ρ ?_;have ho:∃ o:Nat,bits .and .u64 r4 (IntKind.u64.wrap ((G:Int)-1))=(o:Int)/\o<2*(b-a):=by
   obtain ⟨r,rfl⟩:=Int.eq_ofNat_of_zero_le a2;have e:IntKind.u64.wrap ((G:Int)-1)=((G-1:Nat):Int):=by rw [Gz om];omega
   rw [e];refine ⟨r &&& (G-1),bits_and_u64_nat r (G-1) om om,?_⟩;have:=Nat.and_le_right (n:=r) (m:=G-1);omega
  obtain ⟨o,a3,ad⟩:=ho;refine Xa (fun (o:Nat)=>[(0,.slice A n c),(1,.int .i64 (a:Int)),(8,.int .i64 ((b:Int)-(a:Int))),(9,.pointer (some ⟨g,0,none⟩)),(10,.int .u64 (G:Int)),(11,.int .i64 (idx:Int)),(12,.int .i64 (o:Int))]) (λo w'=>DP w w' base A n c ps q/\Blk w' g 270 [.int .u64 r4]/\o<b-a) ?_ ?_
  .have a8:IntKind.i64.wrap (bits .and .u64 r4 (IntKind.u64.wrap ((G:Int)-1)))=(o:Int):=by rw [a3];exact Gm om
   rw [a8];refine ci (λh=>?_) (λh=>?_)
   .have h1:=oT h;refine ρ ?_;exact Jb (o-(b-a)) sO ⟨H4,Z,om⟩
   .have h1:=oF h;refine ρ ?_;exact Jb o sB ⟨H4,Z,om⟩
  rintro o w5 ⟨H5,a5,ho⟩;have J:idx<n:=om
  have O:a+o<n:=om
  refine ρ ?_;refine drC 4 [0,1,2,3,4,5,6,7,8,9,12,13] [(0,10),(0,11),(0,14),(0,15),(0,16),(2,17),(2,18),(2,19)] kr ?_;have C:=H5.drew;obtain ⟨s1,s2,s3,⟨u,s4⟩,s5,s6⟩:=C.swap J O;refine ρp ?_;refine dix (a+o) C.rd O ?_;refine ρd ?_;refine dld (C.cell O) ?_;refine ρd ?_;refine dix (idx) C.rd J ?_;refine ρd ?_;refine dld (C.cell J) ?_;refine ρd ?_;refine dix (idx) C.rd J ?_;refine ρd ?_;refine Jo ?_;refine sto (C.cell J) s1 ?_ (hv:=C.one O);refine ρ ?_;refine Ql ?_;refine Jo ?_;refine ix (a+o) s2 O ?_;refine ρ ?_;refine Ql ?_;refine Jo ?_;refine sto s4 s3 ?_ (hv:=C.one J);refine ρ ?_;have b5:=a5.ext (Ext.refl _).drew;have a4:=b5.grown s6 (b5.ne_own C.d.1 rfl);exact Jg (idx+1) (swp z0 q idx (a+o)) sO ⟨s5,⟨_,a4⟩,om,om,U.trans (Seg.swp om om om om (by rw [H5.l];exact hb))⟩ om
 .refine ρ ?_;exact Ue ⟨q,H3,U⟩
end Go.Proofs.YtebcagekopgdhaaGreatDoor
