/- Part 15. -/
import Derived.Test.YtebcagekopgdhaaGreatDoorB13
import Derived.Test.YtebcagekopgdhaaGreatDoorB14
set_option linter.unusedVariables false
set_option maxRecDepth 100000
set_option maxHeartbeats 40000000
namespace Go.Proofs.YtebcagekopgdhaaGreatDoor
open Go.RowKit Pl Go.Wk
attribute [local irreducible] WC WL QX WD WDB WP
structure TriB(w:World)(base:Nat)(A:Option Addr)(d:Nat)(vv fv:Nat->Value)(vs:Nat->Row)(fs:Nat->List Nat): Prop where
 lev:w.ownsRow base 297 2 (.slice A d d) d (Zz d vv fv)
 vals:Fam w base 47 3 d vv (λl=>(vs l).length) (λl=>Jl (vs l))
 fst:Fam w base 3 1 d fv (λl=>(fs l).length) (λl=>Js (nz (fs l)))
section
variable {w w':World} {base:Nat} {A:Option Addr} {d:Nat} {vv fv:Nat->Value} {vs:Nat->Row} {fs:Nat->List Nat}
theorem TriB.ext(h:TriB w base A d vv fv vs fs)(hx:Ext w w'): TriB w' base A d vv fv vs fs:=⟨Jk h.lev hx,h.vals.ext hx,h.fst.ext hx⟩
theorem TriB.vform(h:TriB w base A d vv fv vs fs){l:Nat}(hl:l<d): ∃ B c,vv l=.slice B (vs l).length c/\(vs l).length<=c/\Rd w 3 B (vs l).length (Jl (vs l)):=by
 obtain ⟨B,c,e,o,_⟩:=Jv (h.vals.own l hl);refine ⟨B,c,e,o,?_⟩;have:=h.vals.own l hl;rw [e]at this;exact Rd.own this
theorem TriB.fform(h:TriB w base A d vv fv vs fs){l:Nat}(hl:l<d): ∃ B c,fv l=.slice B (fs l).length c/\(fs l).length<=c/\Rd w 1 B (fs l).length (Js (nz (fs l))):=by
 obtain ⟨B,c,e,o,_⟩:=Jv (h.fst.own l hl);refine ⟨B,c,e,o,?_⟩;have:=h.fst.own l hl;rw [e]at this;exact Rd.own this
theorem TriB.rd(h:TriB w base A d vv fv vs fs): Rd w 2 A d (Zz d vv fv):=Rd.own h.lev
theorem TriB.v(h:TriB w base A d vv fv vs fs){l:Nat}(hl:l<d): w.cell? (adr A (l*2))=some (vv l):=h.rd.cell (Gr d vv fv hl).1
theorem TriB.v0(h:TriB w base A d vv fv vs fs){l:Nat}(hl:l<d): w.cell? ((adr A (l*2)).add 0)=some (vv l):=by rw [add_zero];exact h.v hl
theorem TriB.f1(h:TriB w base A d vv fv vs fs){l:Nat}(hl:l<d): w.cell? ((adr A (l*2)).add 1)=some (fv l):=by rw [Xb];exact h.rd.cell (Gr d vv fv hl).2
end
theorem Jyx{w:World}{A:Option Addr}{d l:Nat}{li:Int}{c:Nat}{vv fv:Nat->Value}{vs:Nat->Row}(hR:Rd w 2 A d (Zz d vv fv))(hv:∀ l,l<d->∃ B c,vv l=.slice B (vs l).length c)(hli:li=(l:Int))(hd:d<=32):
  Ret Tryz.prog 215 [.agg #[.slice A d c],.int .i64 li] w λu w'=>u=.int .i64 (if l<d then (vs l).length else 0:Nat)/\Ext w w':=by
 subst hli;refine Jz Tryz.func215 Tryz.ntmps215 rfl kr rfl ?_;refine ρ ?_;refine bx ?_;intro O b o Z J;refine ρ ?_;refine ld (J.at (i:=0) rfl) ?_;refine ρ ?_;refine ci (λh=>?_) (λh=>?_)
 .refine ρ ?_;refine Jj ⟨?_,o⟩;rw [if_neg (by have:=oT h;omega)];rfl
 have G:l<d:=by have:=oF h;omega
 have C:=hR.ext o;obtain ⟨B,c',e⟩:=hv l G;refine ρ ?_;refine ld (J.at (i:=0) rfl) ?_;refine ρ ?_;refine ixq 2 l C G ?_;have U:O.cell? ((adr A (l*2)).add 0)=some (vv l):=by rw [add_zero];exact C.cell (Gr d vv fv G).1
 refine ρ ?_;refine ld U ?_;rw [e];refine ρ ?_;refine Jj ⟨?_,o⟩;rw [if_pos G]
theorem Qkt{w:World}{va vb:Value}{a b:Row}(ha:RowV w va a)(hb:RowV w vb b)(hlen:a=[]∨a.length=b.length): Ret Tryz.prog 214 [va,vb] w λu w'=>u=.int .i64 (shr a b:Int)/\Ext w w':=by
 obtain ⟨A,ac,rfl,a8,a7,a2⟩:=ha;obtain ⟨B,bc,rfl,a6,a5,a1⟩:=hb;refine Jz Tryz.func214 Tryz.ntmps214 rfl kr rfl ?_;refine ρ ?_;refine Qd (fun (k:Nat)=>[(0,.slice A a.length ac),(1,.slice B b.length bc),(5,.int .i64 (k:Int))]) (λk w'=>Ext w w'/\k<=a.length/\k<=b.length/\shr a b=k+shr (a.drop k) (b.drop k)) (λk=>a.length-k) 0 sB ⟨Ext.refl w,Nat.zero_le _,Nat.zero_le _,by simp⟩ ?_;rintro k w1 ⟨hx,a4,a3,he⟩;refine ρ ?_;refine Xa (fun (t:Bool)=>[(0,.slice A a.length ac),(1,.slice B b.length bc),(5,.int .i64 (k:Int)),(21,.bool t)]) (λt w'=>Ext w w'/\(t=true->k<a.length/\k<b.length/\a.getD k V0=b.getD k V0)/\(t=false->shr (a.drop k) (b.drop k)=0)) ?_ ?_
 .refine dr [(0,0),(0,1),(0,2),(0,3),(0,4),(0,5),(0,6),(0,7),(0,8),(0,9),(0,10),(0,11),(0,12),(1,13),(0,14),(0,15)] kr ?_;have G:=hx.drew;have U:RdR _ A a:=Rd.ext a2 G;have O:RdR _ B b:=Rd.ext a1 G;refine ρd ?_;refine dki 10 (λh=>?_) (λh=>?_)
  .have C:k<a.length:=by have:=oT h;omega
   have J:k<b.length:=by
    rcases hlen with h'|h'
    .rw [h']at C;simp at C
    .omega
   refine ρd ?_;refine Gs 3 k U C ?_;refine ρd ?_;refine Qk (λj u Z=>RdR.cell U C Z) ?_;refine ρd ?_;refine Gs 3 k O J ?_;refine ρd ?_;refine Qk (λj u Z=>RdR.cell O J Z) ?_;refine ρd ?_;refine dcl (Jjh (a.getD k V0) (b.getD k V0) _) ?_;rintro x w2 ⟨rfl,o⟩;refine ⟨o,?_⟩;refine ρd ?_;refine ρ ?_;refine Jb _ sB ⟨G.trans o,λh=>⟨C,J,cmp_V.zero _ _ (Xf h)⟩,λh=>?_⟩;rw [List.drop_eq_getElem_cons C,List.drop_eq_getElem_cons J,shr,if_neg];intro e;have:=Xg h;rw [Jp V0 a C,Jp V0 b J,e,Zv]at this;exact this rfl
  .refine ρd ?_;refine ρ ?_;refine Jb false sB ⟨G,λe=>(by cases e),λ_=>?_⟩;rw [List.drop_of_length_le (by have:=oF h;omega),Jbh]
 rintro t w2 ⟨o,h1,h2⟩;refine ci (λh=>?_) (λh=>?_)
 .obtain ⟨C,J,e⟩:=h1 h;refine ρ ?_;refine Qw (k+1) sO ⟨o,om,om,?_⟩ om;rw [he,List.drop_eq_getElem_cons C,List.drop_eq_getElem_cons J,shr,if_pos (by rw [<-Jp V0 a C,<-Jp V0 b J];exact e)];omega
 .refine ρ ?_;refine Jj ⟨?_,o⟩;rw [he,h2 h];rfl
def Zu(A:Option Addr)(d:Nat)(vv fv:Nat->Value)(k:Nat): Prop:=(Value.slice A d d).ownBlock=some k∨∃ l,l<d/\((vv l).ownBlock=some k∨(fv l).ownBlock=some k)
theorem Jjz{w:World}{base e sz m base' e' sz' m':Nat}{v v':Value}{xs xs':List Value}(h:w.ownsRow base e sz v m xs)(h':w.ownsRow base' e' sz' v' m' xs')(hne:Nat.beq e e'=false){g:Nat}(hg:v.ownBlock=some g): v'.ownBlock≠some g:=by
 have o:e≠e':=by intro C;subst C;simp at hne
 intro u;rcases h.2 with ⟨rfl,_⟩|⟨g1,cap,cur,rfl,_,hh,_⟩
 .simp [Value.ownBlock]at hg
 .rcases h'.2 with ⟨rfl,_⟩|⟨g2,cap',cur',rfl,_,hh',_⟩
  .simp [Value.ownBlock]at u
  .have J:g1=g:=by simpa [Value.ownBlock] using hg
   have G:g2=g:=by simpa [Value.ownBlock] using u
   subst J;subst G;rw [hh]at hh';injection hh' with hh'
   injection hh' with _ ht
   exact o ht
theorem TriB.box{w:World}{base:Nat}{A:Option Addr}{d:Nat}{vv fv:Nat->Value}{vs:Nat->Row}{fs:Nat->List Nat}(h:TriB w base A d vv fv vs fs){b t:Nat}{cs:List Value}(hB:Blk w b t cs)(h1:Nat.beq 297 t=false)(h2:Nat.beq 47 t=false)(h3:Nat.beq 3 t=false): ¬ Zu A d vv fv b:=by
 rintro (e|⟨l,o,e|e⟩)
 .exact hB.ne_own h.lev h1 e.symm
 .exact hB.ne_own (h.vals.own l o) h2 e.symm
 .exact hB.ne_own (h.fst.own l o) h3 e.symm
theorem TriB.congr{w:World}{base:Nat}{A:Option Addr}{d:Nat}{vv fv:Nat->Value}{vs vs':Nat->Row}{fs fs':Nat->List Nat}(h:TriB w base A d vv fv vs fs)(h1:∀ l,l<d->vs' l=vs l)(h2:∀ l,l<d->fs' l=fs l): TriB w base A d vv fv vs' fs' :=
 ⟨h.lev,⟨λi hi=>by rw [h1 i hi];exact h.vals.own i hi,h.vals.dis⟩,⟨λi hi=>by rw [h2 i hi];exact h.fst.own i hi,h.fst.dis⟩⟩
theorem Qvn{w:World}{p:Addr}(u:Value): w.grownBy (w.setCell p u) (some p.block):=⟨rfl,rfl,rfl,by simp [World.setCell],λk o hn=>Below.heap_setCell w p u k (λe=>hn (by rw [e]))⟩
theorem TriB.setV{w w4 : World}{base : Nat}{A : Option Addr}{d k : Nat}{vv fv : Nat → Value}{vs : Nat → Row}{fs : Nat → List Nat}{v4 : Value}{r : Row}(H : TriB w base A d vv fv vs fs)(lk : k < d)(ho : w4.ownsRow base 47 3 v4 r.length (Jl r))(hg : w.grownBy w4 (vv k).ownBlock)(hn : ∀ g, v4.ownBlock = some g → (vv k).ownBlock = some g ∨ w.heap.size ≤ g): w4.cell? ((adr A (k * 2)).add 0) = some (vv k) ∧ w4.frozen? ((adr A (k * 2)).add 0) = false ∧ v4.oneCell' = true ∧ TriB (w4.setCell ((adr A (k * 2)).add 0) v4) base A d (upd vv k v4) fv (upd vs k r) fs ∧
      w4.grownBy (w4.setCell ((adr A (k * 2)).add 0) v4) (Value.slice A d d).ownBlock := by
  have F4 := H.vals.upd lk ho hg hn
  have L4 := Xe H.lev (H.vals.own k lk) hg rfl
  have f4 := H.fst.other (H.vals.own k lk) hg rfl
  obtain ⟨s1, s2, s3, s4, s5⟩ := Zd L4 (q := k * 2) om v4
  rw [add_zero]
  have h1 : v4.oneCell' = true := by obtain ⟨B, c, e, _⟩ := Jv ho; rw [e]; rfl
  refine ⟨s1.trans (Gr d vv fv lk).1, s2, h1, ⟨?_, ?_, ?_⟩, s5⟩
  . rw [Jsx d vv fv lk] at s3; exact s3
  . have F5 := F4.other L4 s5 rfl
    refine ⟨fun i hi => ?_, F5.dis⟩
    have := F5.own i hi
    by_cases e : i = k
    . subst e; rw [Jf, Jf, Jf] at this; simp only [Jf]; exact this
    . rw [Jy _ _ e, Jy _ _ e, Jy _ _ e] at this; simp only [Jy _ _ e]; exact this
  . exact f4.other L4 s5 rfl
theorem TriB.setF{w w4 : World}{base : Nat}{A : Option Addr}{d k : Nat}{vv fv : Nat → Value}{vs : Nat → Row}{fs : Nat → List Nat}{v4 : Value}{r : List Nat}(H : TriB w base A d vv fv vs fs)(lk : k < d)(ho : w4.ownsRow base 3 1 v4 r.length (Js (nz r)))(hg : w.grownBy w4 (fv k).ownBlock)(hn : ∀ g, v4.ownBlock = some g → (fv k).ownBlock = some g ∨ w.heap.size ≤ g): w4.cell? ((adr A (k * 2)).add 1) = some (fv k) ∧ w4.frozen? ((adr A (k * 2)).add 1) = false ∧ v4.oneCell' = true ∧ TriB (w4.setCell ((adr A (k * 2)).add 1) v4) base A d vv (upd fv k v4) vs (upd fs k r) ∧
      w4.grownBy (w4.setCell ((adr A (k * 2)).add 1) v4) (Value.slice A d d).ownBlock := by
  have F4 := H.fst.upd lk ho hg hn
  have L4 := Xe H.lev (H.fst.own k lk) hg rfl
  have f4 := H.vals.other (H.fst.own k lk) hg rfl
  obtain ⟨s1, s2, s3, s4, s5⟩ := Zd L4 (q := k * 2 + 1) om v4
  rw [Xb]
  have h1 : v4.oneCell' = true := by obtain ⟨B, c, e, _⟩ := Jv ho; rw [e]; rfl
  refine ⟨s1.trans (Gr d vv fv lk).2, s2, h1, ⟨?_, ?_, ?_⟩, s5⟩
  . rw [Jsw d vv fv lk] at s3; exact s3
  . exact f4.other L4 s5 rfl
  . have F5 := F4.other L4 s5 rfl
    refine ⟨fun i hi => ?_, F5.dis⟩
    have := F5.own i hi
    by_cases e : i = k
    . subst e; rw [Jf, Jf, Jf] at this; simp only [Jf]; exact this
    . rw [Jy _ _ e, Jy _ _ e, Jy _ _ e] at this; simp only [Jy _ _ e]; exact this
theorem Qcn{A:Option Addr}{d k:Nat}{vv fv:Nat->Value}{v4:Value}{M:Nat->Prop}(h:∀ j,Zu A d vv fv j->M j)(lk:k<d)(hn:∀ g,v4.ownBlock=some g->M g): ∀ j,Zu A d (upd vv k v4) fv j->M j:=by
 rintro j (e|⟨l,o,e|e⟩)
 .exact h j (.inl e)
 .by_cases el:l=k
  .subst el;rw [Jf]at e;exact hn j e
  .rw [Jy _ _ el]at e;exact h j (.inr ⟨l,o,.inl e⟩)
 .exact h j (.inr ⟨l,o,.inr e⟩)
theorem Jpn{A:Option Addr}{d k:Nat}{vv fv:Nat->Value}{v4:Value}{M:Nat->Prop}(h:∀ j,Zu A d vv fv j->M j)(lk:k<d)(hn:∀ g,v4.ownBlock=some g->M g): ∀ j,Zu A d vv (upd fv k v4) j->M j:=by
 rintro j (e|⟨l,o,e|e⟩)
 .exact h j (.inl e)
 .exact h j (.inr ⟨l,o,.inl e⟩)
 .by_cases el:l=k
  .subst el;rw [Jf]at e;exact hn j e
  .rw [Jy _ _ el]at e;exact h j (.inr ⟨l,o,.inr e⟩)
theorem Qmr(v:V)(w:World): (Instr.buildSlice 36 1 #[(0,v.val)]).run Tryz.prog w=.ok (.slice (some ⟨w.heap.size,0,none⟩) 1 1) (w.alloc (.cells v.cells.toArray 47)):=kr
theorem EVs: ElT Tryz.prog 36 47 3 32 (.agg #[.int .i64 0,.int .i64 0,.string ⟨#[]⟩]):=⟨Tryz.underlying36,info_parts kr,rfl,by decide⟩
theorem bs1Int'(z:Int)(w:World): (Instr.buildSlice 44 1 #[(0,.int .i64 z)]).run Tryz.prog w=.ok (.slice (some ⟨w.heap.size,0,none⟩) 1 1) (w.alloc (.cells [.int .i64 z].toArray 3)):=kr
theorem rowC_one'(v:V): Jl [v]=v.cells:=by simp [Jl]
theorem Qkx{w:World}{base:Nat}{A:Option Addr}{d s:Nat}{vv fv:Nat->Value}{vs:Nat->Row}{fs:Nat->List Nat}{vx:Value}{x:Row}(H:TriB w base A d vv fv vs fs)(hx:Off (Zu A d vv fv) w (λu=>RowV u vx x))(hlen:x.length=d)(hd:d<=32)(hs:s<=d)(hbase:base<=w.heap.size)(hsm:∀ l,l<d->(vs l).length<=1000000/\(fs l).length<=1000000):
  Ret Tryz.prog 213 [.agg #[.slice A d d],vx,.int .i64 (s:Int)] w λu w'=>∃ vv' fv',TriB w' base A d vv' fv' (λl=>if s<=l then vs l++[x.getD l V0] else vs l) (λl=>if s<=l then fs l++[if l+1<d then (vs (l+1)).length else 0] else fs l) /\
   GrN (Zu A d vv fv) w w'/\∀ j,Zu A d vv' fv' j->Zu A d vv fv j∨w.heap.size<=j:=by
 obtain ⟨X,xc,b1,bd,bc,bb⟩:=hx.here;subst b1;refine Jz Tryz.func213 Tryz.ntmps213 rfl kr rfl ?_;refine ρ ?_;refine bx ?_;intro w1 b C hb hB;obtain ⟨M,hM⟩:∃ M:Nat->Prop,M=λj=>Zu A d vv fv j∨w.heap.size<=j/\j≠b:=⟨_,rfl⟩;have ab:¬ M b:=by
  rw [hM];rintro (G|G)
  .exact (H.ext C).box hB rfl rfl rfl G
  .exact G.2 rfl
 have aj:Off M w1 (λu=>RowV u (.slice X x.length xc) x):=λu hg=>hx u ⟨hg.os.trans C.os,hg.tape.trans C.tape,hg.output.trans C.output,Nat.le_trans C.size hg.size,λk hk hn=>(hg.block k (nM hk C.size) (λe=>by rw [hM]at e;rcases e with e|e;exact hn e;omega)).trans (C.block k hk)⟩;refine ρ ?_;refine Xr (fun (k:Nat) (vv' fv':Nat->Value)=>[(1,.slice X x.length xc),(3,.pointer (some ⟨b,0,none⟩)),(6,.int .i64 (k:Int))])
  (λk vv' fv' w'=>s<=k/\k<=d/\TriB w' base A d vv' fv' (λl=>if s<=l/\l<k then vs l++[x.getD l V0] else vs l) (λl=>if s<=l/\l<k then fs l++[if l+1<d then (vs (l+1)).length else 0] else fs l)/\GrN M w1 w'/\∀ j,Zu A d vv' fv' j->M j) (λk _ _=>d-k) s vv fv sB
  ⟨Nat.le_refl _,hs,?_,GrN.refl _ _,λj hj=>by rw [hM];exact .inl hj⟩ ?_
 .have e1:(λl=>if s<=l/\l<s then vs l++[x.getD l V0] else vs l)=vs:=by funext l;rw [if_neg om]
  have e2:(λl=>if s<=l/\l<s then fs l++[if l+1<d then (vs (l+1)).length else 0] else fs l)=fs:=by funext l;rw [if_neg om]
  rw [e1,e2];exact H.ext C
 rintro k vv' fv' w2 ⟨bh,bg,H2,a2,a8⟩;refine ρ ?_;refine ci (λh=>?_) (λh=>?_)
 .have lk:k<d:=by have:=oT h;omega
  have lx:k<x.length:=om
  have be:=hsm k lk;clear h;obtain ⟨B,c,b2,b9,b4⟩:=H2.vform lk;obtain ⟨own,o⟩:∃ own,own=(vv' k).ownBlock:=⟨_,rfl⟩;have O:∀ j,own=some j->M j:=λj U=>a8 j (.inr ⟨k,lk,.inl (by rw [<-o];exact U)⟩);refine ρ ?_;refine Xa (fun (a6:Nat->Value)=>[(1,.slice X x.length xc),(3,.pointer (some ⟨b,0,none⟩)),(6,.int .i64 (k:Int))])
   (λa6 w5=>TriB w5 base A d a6 fv' (upd (λl=>if s<=l/\l<k then vs l++[x.getD l V0] else vs l) k (vs k++[x.getD k V0])) (λl=>if s<=l/\l<k then fs l++[if l+1<d then (vs (l+1)).length else 0] else fs l)/\GrN M w1 w5/\∀ j,Zu A d a6 fv' j->M j) ?_ ?_
  .refine drN (one own) 4 [(0,0),(0,1),(0,2),(0,3),(0,4),(0,5),(0,6),(0,7),(0,8),(0,9),(0,10),(0,11),(0,12),(1,13),(1,14),(0,15),(0,16),(2,17)] kr ?_;have a7:Ext w2 w2.drew:=(Ext.refl w2).drew;have a5:=H2.ext a7;have J:=a2.trans (GrN.ext a7);have ai:=Jd hB J ab;have ax:RdR w2.drew X x:=by
    obtain ⟨X',aw,e1,_,_,e4⟩:=aj _ J;injection e1 with e1 _ _;subst e1;exact e4
   have nb:¬ one own b:=λe=>ab (O b e);have nA:∀ ad,A=some ad->¬ one own ad.block:=λad e G=>by
    subst e;exact Jjz a5.lev (a5.vals.own k lk) rfl rfl (by rw [<-o];exact G)
   have ae:¬ one own (adr A (k*2)).block:=by
    obtain ⟨ad,e,_⟩:=a5.rd.isome om om;subst e;simp only [adr,Option.getD_some,Uf];exact nA ad rfl
   have ay:∀ w',GrN (one own) w2.drew w'->RdR w' X x:=λw' hg=>by
    obtain ⟨X',aw,e1,_,_,e4⟩:=aj _ (J.trans (hg.mono λj _ U=>O j U));injection e1 with e1 _ _;subst e1;exact e4
   refine ρn ?_;refine nld (Jm (ai.at (i:=0) rfl) nb) ?_;refine ρn ?_;refine nld (Jm (ai.at (i:=0) rfl) nb) ?_;refine ρn ?_;refine Vt 2 k a5.rd lk ?_;refine ρn ?_;refine nld (Jm (a5.v0 lk) (by rw [Uf];exact ae)) ?_;refine ρn ?_;refine Vt 3 k ax lx ?_;refine ρn ?_;refine Xd (cs:=(x.getD k V0).cells) (λw' hg j u hu=>RdR.cell (ay w' hg) lx hu) ?_;refine ρn ?_;refine nop ?_;refine bsl (Qmr (x.getD k V0)) ?_;intro w3 b3 a4 bj b6;refine ρ ?_;refine Je (GrN.ext a4) ?_;have H3:=a5.ext a4;have aq:=H3.vals.own k lk;rw [if_neg (show ¬ (s<=k/\k<k) by omega)]at aq;have bf:(vs k).length+1<=1000001:=om
   refine nop ?_;refine apb (base:=base) EVs aq (b6.rd (n:=1) rfl) (V.one _) (by unfold maxLen;omega) om (nL hbase (nL C.size (nL J.size a4.size))) ?_;intro v4 w4 ap aa av;refine ρ ?_;refine Je (GrN.by aa λj U=>by rw [<-o]at U;exact U) ?_;have er:Jl (vs k)++(x.getD k V0).cells=Jl (vs k++[x.getD k V0]):=by rw [Qyg,rowC_one']
   have el:(vs k).length+1=(vs k++[x.getD k V0]).length:=by simp
   rw [er,el]at ap;obtain ⟨c1,c2,c3,H5,af⟩:=H3.setV lk ap aa av;have bl:b<w2.drew.heap.size:=ai.lt;have L4:=Xe H3.lev (H3.vals.own k lk) aa rfl;refine ρn ?_;refine Vt 2 k (Rd.own L4) lk ?_;refine ρn ?_;refine Xv ?_;refine sto c1 c2 ?_ (hv:=c3);refine ρ ?_;have ag:∀ g,v4.ownBlock=some g->M g:=λg eg=>by
    rcases av g eg with G|G
    .exact O g (by rw [o];exact G)
    .rw [hM];exact .inr ⟨nL C.size (nL J.size (nL a4.size G)),λe=>by have:=a4.size;omega⟩
   refine Jb (upd vv' k v4) sB ⟨H5,?_,Qcn (M:=M) a8 lk ag⟩;exact ((J.trans (GrN.ext a4)).trans (GrN.by aa λj U=>O j (by rw [o];exact U))).trans (GrN.by af λj U=>a8 j (.inl U))
  clear O o b2 b9 b4 H2 a2 a8;rintro a6 w5 ⟨H5,af,ah⟩;obtain ⟨own,o⟩:∃ own,own=(fv' k).ownBlock:=⟨_,rfl⟩;have O:∀ j,own=some j->M j:=λj U=>ah j (.inr ⟨k,lk,.inr (by rw [<-o];exact U)⟩);refine drN (one own) 4 [(0,0),(0,1),(0,2),(0,3),(0,4),(0,5),(0,6),(0,7),(0,8),(0,9),(0,10),(0,11),(1,12),(1,13),(1,14),(0,15),(0,16),(2,17)] kr ?_;have a7:Ext w5 w5.drew:=(Ext.refl w5).drew;have a1:=H5.ext a7;have a3:=af.trans (GrN.ext a7);have ac:=Jd hB a3 ab;have nb:¬ one own b:=λe=>ab (O b e);have ae:¬ one own (adr A (k*2)).block:=by
   obtain ⟨ad,e,_⟩:=a1.rd.isome om om;subst e;simp only [adr,Option.getD_some,Uf];intro G;exact Jjz a1.lev (a1.fst.own k lk) rfl rfl (by rw [<-o];exact G)
  refine ρn ?_;refine nld (Jm (ac.at (i:=0) rfl) nb) ?_;refine ρn ?_;refine nld (Jm (ac.at (i:=0) rfl) nb) ?_;refine ρn ?_;refine Vt 2 k a1.rd lk ?_;refine ρn ?_;refine nld (Jm (a1.f1 lk) (by rw [Uf];exact ae)) ?_;refine ρn ?_;refine Xd (cs:=[.slice A d d]) (λw' hg j u hu=>(Jd ac hg nb).at hu) ?_;refine ρn ?_;refine nop ?_;refine cl (Jyx (l:=k+1) (li:=(k:Int)+1) a1.rd (λl hl=>by obtain ⟨B,c,e,_⟩:=a1.vform hl;exact ⟨B,c,e⟩) om hd) ?_;rintro u w6 ⟨rfl,am⟩;refine ρ ?_;refine Je (GrN.ext am) ?_;obtain ⟨nn,ar⟩:∃ nn:Nat,nn=if k+1<d then (vs (k+1)).length else 0:=⟨_,rfl⟩
  have ba:(if k+1<d then List.length (upd (λl=>if s<=l/\l<k then vs l++[x.getD l V0] else vs l) k (vs k++[x.getD k V0]) (k+1)) else 0)=nn:=by
   rw [ar,Jy _ _ om,if_neg (show ¬ (s<=k+1/\k+1<k) by omega)]
  rw [ba];refine nop ?_;refine bsl (bs1Int' (nn:Int)) ?_;intro w7 b7 ak bi b5;refine ρ ?_;refine Je (GrN.ext ak) ?_;have Z:=am.trans ak;have H7:=a1.ext Z;have ao:=H7.fst.own k lk;rw [if_neg (show ¬ (s<=k/\k<k) by omega)]at ao;refine nop ?_;refine apb (base:=base) EI ao (b5.rd (n:=1) rfl) (λu hu=>by rw [List.mem_singleton.1 hu];rfl) (by unfold maxLen;omega) om (nL hbase (nL C.size (nL a3.size Z.size))) ?_;intro v8 w8 an a9 au;refine ρ ?_;refine Je (GrN.by a9 λj U=>by rw [<-o]at U;exact U) ?_;have er:Js (nz (fs k))++[.int .i64 (nn:Int)]=Js (nz (fs k++[nn])):=by simp [Js,nz]
  have el:(fs k).length+1=(fs k++[nn]).length:=by simp
  rw [er,el]at an;obtain ⟨c1,c2,c3,H9,b8⟩:=H7.setF lk an a9 au;have L8:=Xe H7.lev (H7.fst.own k lk) a9 rfl;refine ρn ?_;refine Vt 2 k (Rd.own L8) lk ?_;refine ρn ?_;refine Xv ?_;refine sto c1 c2 ?_ (hv:=c3);refine ρ ?_;have ag:∀ g,v8.ownBlock=some g->M g:=λg eg=>by
   rcases au g eg with G|G
   .exact O g (by rw [o];exact G)
   .rw [hM];exact .inr ⟨nL C.size (nL a3.size (nL Z.size G)),λe=>by have:=Z.size;have:=ac.lt;omega⟩
  refine Qa (k+1) a6 (upd fv' k v8) sO ⟨om,om,H9.congr (λl hl=>?_) (λl hl=>?_),?_,Jpn (M:=M) ah lk ag⟩ om
  .by_cases e:l=k
   .subst e;rw [Jf,if_pos om]
   .rw [Jy _ _ e];by_cases e2:s<=l/\l<k
    .rw [if_pos e2,if_pos om]
    .rw [if_neg e2,if_neg om]
  .by_cases e:l=k
   .subst e;rw [Jf,if_pos om,ar]
   .rw [Jy _ _ e];by_cases e2:s<=l/\l<k
    .rw [if_pos e2,if_pos om]
    .rw [if_neg e2,if_neg om]
  .exact ((a3.trans (GrN.ext Z)).trans (GrN.by a9 λj U=>O j (by rw [o];exact U))).trans (GrN.by b8 λj U=>ah j (.inl U))
 .have ek:k=d:=by have:=oF h;omega
  subst ek;refine ρ ?_;refine Ue ⟨vv',fv',H2.congr (λl hl=>?_) (λl hl=>?_),?_,λj hj=>?_⟩
  .by_cases e:s<=l
   .rw [if_pos e,if_pos ⟨e,hl⟩]
   .rw [if_neg e,if_neg (λG=>e G.1)]
  .by_cases e:s<=l
   .rw [if_pos e,if_pos (show s<=l/\l<k from ⟨e,hl⟩)]
   .rw [if_neg e,if_neg (λG=>e G.1)]
  .exact ⟨a2.os.trans C.os,a2.tape.trans C.tape,a2.output.trans C.output,Nat.le_trans C.size a2.size,λj hj hn=>(a2.block j (nM hj C.size) (λe=>by rw [hM]at e;rcases e with e|e;exact hn e;omega)).trans (C.block j hj)⟩
  .have:=a8 j hj;rw [hM]at this;exact this.imp id λG=>G.1
open Go.RowKit Pl Go.Wk
attribute [local irreducible] WN
theorem Qgn{w:World}{A:Option Addr}{n c:Nat}{zs:List Int}{t:Int}(hR:Rd w 1 A n (Js zs))(hn:zs.length=n)(hm:n<=1100000): Ret Tryz.prog 225 [.slice A n c,.int .i64 t] w λu w'=>w'=w/\∃ z,u=.int .i64 z/\(0<=z↔t∈zs):=by
 refine Jz Tryz.func225 Tryz.ntmps225 rfl kr rfl ?_;refine ρ ?_;refine Qd (fun (k:Nat)=>[(0,.slice A n c),(1,.int .i64 t),(7,.int .i64 (n:Int)),(8,.int .i64 (k:Int))]) (λk w'=>w'=w/\k<=n/\t ∉ zs.take k) (λk=>n-k) 0 sB ⟨rfl,Nat.zero_le _,by simp⟩ ?_;rintro k w' ⟨rfl,J,C⟩;refine ρ ?_;refine ci (λh=>?_) (λh=>?_)
 .have lk:k<n:=by have:=oT h;omega
  have o:k<zs.length:=om
  refine ρ ?_;refine ix k hR lk ?_;refine ρ ?_;refine ld (hR.cell (Jzk o)) ?_;refine ρ ?_;refine ci (λh=>?_) (λh=>?_)
  .refine ρ ?_;refine Jj ⟨rfl,(k:Int),rfl,⟨λ_=>?_,λ_=>om⟩⟩;rw [Xf h];exact getD_mem' 0 zs o
  .refine ρ ?_;refine Qw (k+1) sO ⟨rfl,om,?_⟩ om;rw [Qy 0 o,List.mem_append,List.mem_singleton];rintro (G|G)
   .exact C G
   .exact Xg h G
 .refine ρ ?_;refine Jj ⟨rfl,-1,rfl,⟨λe=>om,λe=>?_⟩⟩;rw [List.take_of_length_le (by have:=oF h;omega)]at C;exact absurd e C
theorem Qlm{w:World}{A:Option Addr}{n c:Nat}{zs:List Int}{t:Int}(hR:Rd w 1 A n (Js zs))(hn:zs.length=n)(hm:n<=1100000): Ret Tryz.prog 212 [.slice A n c,.int .i64 t] w λu w'=>w'=w/\∃ b:Bool,u=.bool b/\(b=true↔t∈zs):=by
 refine Jz Tryz.func212 Tryz.ntmps212 rfl kr rfl ?_;refine ρ ?_;refine cl (Qgn hR hn hm) ?_;rintro u w' ⟨rfl,z,rfl,o⟩;refine ρ ?_;exact Jj ⟨rfl,decide (0<=z),rfl,by rw [decide_eq_true_iff];exact o⟩
def TriV(w:World)(v:Value)(d:Nat)(rs:List Row): Prop:=∃ (A:Option Addr) (vv fv:Nat->Value) (fs:Nat->List Nat),v=.agg #[.slice A d d]/\Rd w 2 A d (Zz d vv fv)/\(∀ l,l<d->∃ B c,vv l=.slice B (lvl rs l).length c/\RdR w B (lvl rs l)) /\
 (∀ l,l<d->∃ B c,fv l=.slice B (fs l).length c/\Rd w 1 B (fs l).length (Js (nz (fs l))))/\∀ l,l+1<d->Chl rs l (fs l)
theorem TriB.off{w:World}{base:Nat}{A:Option Addr}{d:Nat}{vv fv:Nat->Value}{rs:List Row}{fs:Nat->List Nat}{N:Nat->Prop}(h:TriB w base A d vv fv (lvl rs) fs)(hc:∀ l,l+1<d->Chl rs l (fs l))(hN:∀ j,Zu A d vv fv j->¬ N j): Off N w (λu=>TriV u (.agg #[.slice A d d]) d rs):=by
 intro u G;refine ⟨A,vv,fv,fs,rfl,Zo h.rd G (λ_ O e=>?_),λl o=>?_,λl o=>?_,hc⟩
 .subst e;exact hN _ (.inl rfl)
 .obtain ⟨B,c,e,_,C⟩:=h.vform o;refine ⟨B,c,e,Zo C G λ_ O J=>hN _ (.inr ⟨l,o,.inl ?_⟩)⟩;rw [e,J];rfl
 .obtain ⟨B,c,e,_,C⟩:=h.fform o;refine ⟨B,c,e,Zo C G λ_ O J=>hN _ (.inr ⟨l,o,.inr ?_⟩)⟩;rw [e,J];rfl
theorem Jyh: Qt Tryz.prog 285=some (.agg #[.slice none 0 0]):=kr
theorem Qnx(A:Option Addr)(n c:Nat)(w:World): (Instr.build 285 #[(0,.slice A n c)]).run Tryz.prog w=.ok (.agg #[.slice A n c]) w:=kr
theorem EL: ElT Tryz.prog 283 297 2 48 (.agg #[.slice none 0 0,.slice none 0 0]):=⟨Tryz.underlying283,info_parts kr,rfl,by decide⟩
theorem one1{A:Option Addr}{n c:Nat}: ∀ u∈[Value.slice A n c],u.oneCell'=true:=by intro u o;rw [List.mem_singleton.1 o];rfl
theorem made2(d:Nat): (madeCells (Value.agg #[.slice none 0 0,.slice none 0 0]).cells (d*2)).toList=Zz d (λ_=>.slice none 0 0) (λ_=>.slice none 0 0):=by
 apply List.ext_getElem?
 intro k;have C:(Value.agg #[.slice none 0 0,.slice none 0 0]).cells = #[.slice none 0 0,.slice none 0 0]:=rfl;rw [C];by_cases hk:k<d*2
 .have u:=Gr d (λ_=>Value.slice none 0 0) (λ_=>Value.slice none 0 0) (l:=k / 2) om;have o:k % 2=0∨k % 2=1:=om
  rcases o with o|o
  .have e:k / 2*2=k:=om
   rw [e]at u;rw [u.1];simp only [madeCells,Array.getElem?_toList,Array.getElem?_map,Array.getElem?_range,hk,if_true,Option.map_some];have:k % (#[Value.slice none 0 0,.slice none 0 0]:Array Value).size=0:=o;rw [this];rfl
  .have e:k / 2*2+1=k:=om
   rw [e]at u;rw [u.2];simp only [madeCells,Array.getElem?_toList,Array.getElem?_map,Array.getElem?_range,hk,if_true,Option.map_some];have:k % (#[Value.slice none 0 0,.slice none 0 0]:Array Value).size=1:=o;rw [this];rfl
 .rw [List.getElem?_eq_none (by simp [madeCells];omega),List.getElem?_eq_none (by rw [Xu];omega)]
end Go.Proofs.YtebcagekopgdhaaGreatDoor
