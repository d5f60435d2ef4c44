/- Part 15 of the proof: Tri2, Tri3. -/
import Derived.Test.YtefpailelagbkaaGreatDoorJ14
set_option linter.unusedVariables false
set_option maxRecDepth 100000
set_option maxHeartbeats 40000000
namespace Go.Proofs.YtefpailelagbkaaGreatDoor
open Go.RowKit Pl Go.Wk
attribute [local irreducible] WC WL QX WD WDB WP
structure TriB(w:World)(base:Nat)(A:Option Addr)(d:Nat)(vv fv:Nat->Value)(vs:Nat->Row)(fs:Nat->List Nat): Prop where
 lev:w.ownsRow base 289 2 (.slice A d d) d (Jvq d vv fv)
 vals:Fam w base 71 3 d vv (λl=>(vs l).length) (λl=>Jxs (vs l))
 fst:Fam w base 3 1 d fv (λl=>(fs l).length) (λl=>Jzw (nz (fs l)))
section
variable {w w':World} {base:Nat} {A:Option Addr} {d:Nat} {vv fv:Nat->Value} {vs:Nat->Row} {fs:Nat->List Nat}
theorem TriB.ext(h:TriB w base A d vv fv vs fs)(hx:Ext w w'): TriB w' base A d vv fv vs fs:=⟨Jjc h.lev hx,h.vals.ext hx,h.fst.ext hx⟩
theorem TriB.vform(h:TriB w base A d vv fv vs fs){l:Nat}(hl:l<d): ∃ B c,vv l=.slice B (vs l).length c/\(vs l).length<=c/\Rd w 3 B (vs l).length (Jxs (vs l)):=by
 obtain ⟨B,c,e,hc,_⟩:=Jjd (h.vals.own l hl);refine ⟨B,c,e,hc,?_⟩;have:=h.vals.own l hl;rw [e]at this;exact Rd.own this
theorem TriB.fform(h:TriB w base A d vv fv vs fs){l:Nat}(hl:l<d): ∃ B c,fv l=.slice B (fs l).length c/\(fs l).length<=c/\Rd w 1 B (fs l).length (Jzw (nz (fs l))):=by
 obtain ⟨B,c,e,hc,_⟩:=Jjd (h.fst.own l hl);refine ⟨B,c,e,hc,?_⟩;have:=h.fst.own l hl;rw [e]at this;exact Rd.own this
theorem TriB.rd(h:TriB w base A d vv fv vs fs): Rd w 2 A d (Jvq d vv fv):=Rd.own h.lev
theorem TriB.v(h:TriB w base A d vv fv vs fs){l:Nat}(hl:l<d): w.cell? (adr A (l*2))=some (vv l):=h.rd.cell (Jkb d vv fv hl).1
theorem TriB.v0(h:TriB w base A d vv fv vs fs){l:Nat}(hl:l<d): w.cell? ((adr A (l*2)).add 0)=some (vv l):=by rw [add_zero];exact h.v hl
theorem TriB.f1(h:TriB w base A d vv fv vs fs){l:Nat}(hl:l<d): w.cell? ((adr A (l*2)).add 1)=some (fv l):=by rw [Jqw];exact h.rd.cell (Jkb d vv fv hl).2
end
theorem Jcq{w:World}{A:Option Addr}{d l:Nat}{li:Int}{c:Nat}{vv fv:Nat->Value}{vs:Nat->Row}(hR:Rd w 2 A d (Jvq d vv fv))(hv:∀ l,l<d->∃ B c,vv l=.slice B (vs l).length c)(hli:li=(l:Int))(hd:d<=32):
  Ret Tryz.prog 203 [.agg #[.slice A d c],.int .i64 li] w λu w'=>u=.int .i64 (if l<d then (vs l).length else 0:Nat)/\Ext w w':=by
 subst hli;refine Jjb Tryz.func203 Tryz.ntmps203 rfl (by kernel_rfl) rfl ?_;refine ρ ?_;refine bx (cs:=[.slice A d c]) ?_;intro w1 b hx1 hb hB;refine ρ ?_;refine ld (hB.at (i:=0) rfl) ?_;refine ρ ?_;refine ci (λh=>?_) (λh=>?_)
 ·refine ρ ?_;refine Jjq ⟨?_,hx1⟩;rw [if_neg (by have:=of_decide_eq_true h;omega)];rfl
 have hl:l<d:=by have:=of_decide_eq_false h;omega
 have hR1:=hR.ext hx1;obtain ⟨B,c',e⟩:=hv l hl;refine ρ ?_;refine ld (hB.at (i:=0) rfl) ?_;refine ρ ?_;refine ixq 2 l hR1 hl ?_;have hc:w1.cell? ((adr A (l*2)).add 0)=some (vv l):=by rw [add_zero];exact hR1.cell (Jkb d vv fv hl).1
 refine ρ ?_;refine ld hc ?_;rw [e];refine ρ ?_;refine Jjq ⟨?_,hx1⟩;rw [if_pos hl]
theorem Jsb{w:World}{va vb:Value}{a b:Row}(ha:RowV w va a)(hb:RowV w vb b)(hlen:a=[]∨a.length=b.length): Ret Tryz.prog 202 [va,vb] w λu w'=>u=.int .i64 (shr a b:Int)/\Ext w w':=by
 obtain ⟨A,ac,rfl,hac,ham,har⟩:=ha;obtain ⟨B,bc,rfl,hbc,hbm,hbr⟩:=hb;refine Jjb Tryz.func202 Tryz.ntmps202 rfl (by kernel_rfl) rfl ?_;refine ρ ?_;refine Jqn (fun (k:Nat)=>[(0,.slice A a.length ac),(1,.slice B b.length bc),(5,.int .i64 (k:Int))]) (λk w'=>Ext w w'/\k<=a.length/\k<=b.length/\shr a b=k+shr (a.drop k) (b.drop k)) (λk=>a.length-k) 0 sB ⟨Ext.refl w,Nat.zero_le _,Nat.zero_le _,by simp⟩ ?_;rintro k w1 ⟨hx,hka,hkb,he⟩;refine ρ ?_;refine Jzl (fun (t:Bool)=>[(0,.slice A a.length ac),(1,.slice B b.length bc),(5,.int .i64 (k:Int)),(21,.bool t)]) (λt w'=>Ext w w'/\(t=true->k<a.length/\k<b.length/\a.getD k V0=b.getD k V0)/\(t=false->shr (a.drop k) (b.drop k)=0)) ?_ ?_
 ·refine dr [(0,0),(0,1),(0,2),(0,3),(0,4),(0,5),(0,6),(0,7),(0,8),(0,9),(0,10),(0,11),(0,12),(1,13),(0,14),(0,15)] (by kernel_rfl) ?_;have hxd:=hx.drew;have ha1:RdR _ A a:=Rd.ext har hxd;have hb1:RdR _ B b:=Rd.ext hbr hxd;refine ρd ?_;refine dki 10 (λh=>?_) (λh=>?_)
  ·have la:k<a.length:=by have:=of_decide_eq_true h;omega
   have lb:k<b.length:=by
    rcases hlen with h'|h'
    ·rw [h']at la;simp at la
    ·omega
   refine ρd ?_;refine Qsl 3 k ha1 la ?_;refine ρd ?_;refine Jwv (λj u hu=>RdR.cell ha1 la hu) ?_;refine ρd ?_;refine Qsl 3 k hb1 lb ?_;refine ρd ?_;refine Jwv (λj u hu=>RdR.cell hb1 lb hu) ?_;refine ρd ?_;refine dcl (Jxk (a.getD k V0) (b.getD k V0) _) ?_;rintro x w2 ⟨rfl,hx2⟩;refine ⟨hx2,?_⟩;refine ρd ?_;refine ρ ?_;refine Jjn _ sB ⟨hxd.trans hx2,λh=>⟨la,lb,cmp_V.zero _ _ (Jql h)⟩,λh=>?_⟩;rw [List.drop_eq_getElem_cons la,List.drop_eq_getElem_cons lb,shr,if_neg];intro e;have:=Jqh h;rw [Jjh V0 a la,Jjh V0 b lb,e,Jqk]at this;exact this rfl
  ·refine ρd ?_;refine ρ ?_;refine Jjn false sB ⟨hxd,λe=>(by cases e),λ_=>?_⟩;rw [List.drop_of_length_le (by have:=of_decide_eq_false h;omega),Qkc]
 rintro t w2 ⟨hx2,h1,h2⟩;refine ci (λh=>?_) (λh=>?_)
 ·obtain ⟨la,lb,e⟩:=h1 h;refine ρ ?_;refine Jjt (k+1) sO ⟨hx2,by omega,by omega,?_⟩ (by omega);rw [he,List.drop_eq_getElem_cons la,List.drop_eq_getElem_cons lb,shr,if_pos (by rw [<-Jjh V0 a la,<-Jjh V0 b lb];exact e)];omega
 ·refine ρ ?_;refine Jjq ⟨?_,hx2⟩;rw [he,h2 h];rfl
def Qzm(A:Option Addr)(d:Nat)(vv fv:Nat->Value)(k:Nat): Prop:=(Value.slice A d d).ownBlock=some k∨∃ l,l<d/\((vv l).ownBlock=some k∨(fv l).ownBlock=some k)
theorem Jpx{w:World}{base e sz m base' e' sz' m':Nat}{v v':Value}{xs xs':List Value}(h:w.ownsRow base e sz v m xs)(h':w.ownsRow base' e' sz' v' m' xs')(hne:Nat.beq e e'=false){g:Nat}(hg:v.ownBlock=some g): v'.ownBlock≠some g:=by
 have hne':e≠e':=by intro e'';subst e'';simp at hne
 intro hg';rcases h.2 with ⟨rfl,_⟩|⟨g1,cap,cur,rfl,_,hh,_⟩
 ·simp [Value.ownBlock]at hg
 ·rcases h'.2 with ⟨rfl,_⟩|⟨g2,cap',cur',rfl,_,hh',_⟩
  ·simp [Value.ownBlock]at hg'
  ·have e1:g1=g:=by simpa [Value.ownBlock] using hg
   have e2:g2=g:=by simpa [Value.ownBlock] using hg'
   subst e1;subst e2;rw [hh]at hh';injection hh' with hh'
   injection hh' with _ ht
   exact hne' ht
theorem TriB.box{w:World}{base:Nat}{A:Option Addr}{d:Nat}{vv fv:Nat->Value}{vs:Nat->Row}{fs:Nat->List Nat}(h:TriB w base A d vv fv vs fs){b t:Nat}{cs:List Value}(hB:Blk w b t cs)(h1:Nat.beq 289 t=false)(h2:Nat.beq 71 t=false)(h3:Nat.beq 3 t=false): ¬ Qzm A d vv fv b:=by
 rintro (e|⟨l,hl,e|e⟩)
 ·exact hB.ne_own h.lev h1 e.symm
 ·exact hB.ne_own (h.vals.own l hl) h2 e.symm
 ·exact hB.ne_own (h.fst.own l hl) h3 e.symm
theorem TriB.congr{w:World}{base:Nat}{A:Option Addr}{d:Nat}{vv fv:Nat->Value}{vs vs':Nat->Row}{fs fs':Nat->List Nat}(h:TriB w base A d vv fv vs fs)(h1:∀ l,l<d->vs' l=vs l)(h2:∀ l,l<d->fs' l=fs l): TriB w base A d vv fv vs' fs' :=
 ⟨h.lev,⟨λi hi=>by rw [h1 i hi];exact h.vals.own i hi,h.vals.dis⟩,⟨λi hi=>by rw [h2 i hi];exact h.fst.own i hi,h.fst.dis⟩⟩
theorem Qhg{w:World}{p:Addr}(u:Value): w.grownBy (w.setCell p u) (some p.block):=⟨rfl,rfl,rfl,by simp [World.setCell],λk hk hn=>Below.heap_setCell w p u k (λe=>hn (by rw [e]))⟩
theorem TriB.setV{w w4 : World}{base : Nat}{A : Option Addr}{d k : Nat}{vv fv : Nat → Value}{vs : Nat → Row}{fs : Nat → List Nat}{v4 : Value}{r : Row}(H : TriB w base A d vv fv vs fs)(lk : k < d)(ho : w4.ownsRow base 71 3 v4 r.length (Jxs r))(hg : w.grownBy w4 (vv k).ownBlock)(hn : ∀ g, v4.ownBlock = some g → (vv k).ownBlock = some g ∨ w.heap.size ≤ g): w4.cell? ((adr A (k * 2)).add 0) = some (vv k) ∧ w4.frozen? ((adr A (k * 2)).add 0) = false ∧ v4.oneCell' = true ∧ TriB (w4.setCell ((adr A (k * 2)).add 0) v4) base A d (upd vv k v4) fv (upd vs k r) fs ∧
      w4.grownBy (w4.setCell ((adr A (k * 2)).add 0) v4) (Value.slice A d d).ownBlock := by
  have F4 := H.vals.upd lk ho hg hn
  have L4 := Jjs H.lev (H.vals.own k lk) hg rfl
  have f4 := H.fst.other (H.vals.own k lk) hg rfl
  obtain ⟨s1, s2, s3, s4, s5⟩ := Jqq L4 (q := k * 2) (by omega) v4
  rw [add_zero]
  have h1 : v4.oneCell' = true := by obtain ⟨B, c, e, _⟩ := Jjd ho; rw [e]; rfl
  refine ⟨s1.trans (Jkb d vv fv lk).1, s2, h1, ⟨?_, ?_, ?_⟩, s5⟩
  · rw [Jrl d vv fv lk] at s3; exact s3
  · have F5 := F4.other L4 s5 rfl
    refine ⟨fun i hi => ?_, F5.dis⟩
    have := F5.own i hi
    by_cases e : i = k
    · subst e; rw [Jjp, Jjp, Jjp] at this; simp only [Jjp]; exact this
    · rw [Jjl _ _ e, Jjl _ _ e, Jjl _ _ e] at this; simp only [Jjl _ _ e]; exact this
  · exact f4.other L4 s5 rfl
theorem TriB.setF{w w4 : World}{base : Nat}{A : Option Addr}{d k : Nat}{vv fv : Nat → Value}{vs : Nat → Row}{fs : Nat → List Nat}{v4 : Value}{r : List Nat}(H : TriB w base A d vv fv vs fs)(lk : k < d)(ho : w4.ownsRow base 3 1 v4 r.length (Jzw (nz r)))(hg : w.grownBy w4 (fv k).ownBlock)(hn : ∀ g, v4.ownBlock = some g → (fv k).ownBlock = some g ∨ w.heap.size ≤ g): w4.cell? ((adr A (k * 2)).add 1) = some (fv k) ∧ w4.frozen? ((adr A (k * 2)).add 1) = false ∧ v4.oneCell' = true ∧ TriB (w4.setCell ((adr A (k * 2)).add 1) v4) base A d vv (upd fv k v4) vs (upd fs k r) ∧
      w4.grownBy (w4.setCell ((adr A (k * 2)).add 1) v4) (Value.slice A d d).ownBlock := by
  have F4 := H.fst.upd lk ho hg hn
  have L4 := Jjs H.lev (H.fst.own k lk) hg rfl
  have f4 := H.vals.other (H.fst.own k lk) hg rfl
  obtain ⟨s1, s2, s3, s4, s5⟩ := Jqq L4 (q := k * 2 + 1) (by omega) v4
  rw [Jqw]
  have h1 : v4.oneCell' = true := by obtain ⟨B, c, e, _⟩ := Jjd ho; rw [e]; rfl
  refine ⟨s1.trans (Jkb d vv fv lk).2, s2, h1, ⟨?_, ?_, ?_⟩, s5⟩
  · rw [Jrk d vv fv lk] at s3; exact s3
  · exact f4.other L4 s5 rfl
  · have F5 := F4.other L4 s5 rfl
    refine ⟨fun i hi => ?_, F5.dis⟩
    have := F5.own i hi
    by_cases e : i = k
    · subst e; rw [Jjp, Jjp, Jjp] at this; simp only [Jjp]; exact this
    · rw [Jjl _ _ e, Jjl _ _ e, Jjl _ _ e] at this; simp only [Jjl _ _ e]; exact this
theorem Qrp{A:Option Addr}{d k:Nat}{vv fv:Nat->Value}{v4:Value}{M:Nat->Prop}(h:∀ j,Qzm A d vv fv j->M j)(lk:k<d)(hn:∀ g,v4.ownBlock=some g->M g): ∀ j,Qzm A d (upd vv k v4) fv j->M j:=by
 rintro j (e|⟨l,hl,e|e⟩)
 ·exact h j (.inl e)
 ·by_cases el:l=k
  ·subst el;rw [Jjp]at e;exact hn j e
  ·rw [Jjl _ _ el]at e;exact h j (.inr ⟨l,hl,.inl e⟩)
 ·exact h j (.inr ⟨l,hl,.inr e⟩)
theorem Qyh{A:Option Addr}{d k:Nat}{vv fv:Nat->Value}{v4:Value}{M:Nat->Prop}(h:∀ j,Qzm A d vv fv j->M j)(lk:k<d)(hn:∀ g,v4.ownBlock=some g->M g): ∀ j,Qzm A d vv (upd fv k v4) j->M j:=by
 rintro j (e|⟨l,hl,e|e⟩)
 ·exact h j (.inl e)
 ·exact h j (.inr ⟨l,hl,.inl e⟩)
 ·by_cases el:l=k
  ·subst el;rw [Jjp]at e;exact hn j e
  ·rw [Jjl _ _ el]at e;exact h j (.inr ⟨l,hl,.inr e⟩)
theorem Xcl(v:V)(w:World): (Instr.buildSlice 39 1 #[(0,v.val)]).run Tryz.prog w=.ok (.slice (some ⟨w.heap.size,0,none⟩) 1 1) (w.alloc (.cells v.cells.toArray 71)):=by kernel_rfl
theorem EVs: ElT Tryz.prog 39 71 3 32 (.agg #[.int .i64 0,.int .i64 0,.string ⟨#[]⟩]):=⟨Tryz.underlying39,info_parts (by kernel_rfl),rfl,by decide⟩
theorem bs1Int'(z:Int)(w:World): (Instr.buildSlice 23 1 #[(0,.int .i64 z)]).run Tryz.prog w=.ok (.slice (some ⟨w.heap.size,0,none⟩) 1 1) (w.alloc (.cells [.int .i64 z].toArray 3)):=by kernel_rfl
theorem rowC_one'(v:V): Jxs [v]=v.cells:=by simp [Jxs]
theorem Qcg{w:World}{base:Nat}{A:Option Addr}{d s:Nat}{vv fv:Nat->Value}{vs:Nat->Row}{fs:Nat->List Nat}{vx:Value}{x:Row}(H:TriB w base A d vv fv vs fs)(hx:Off (Qzm A d vv fv) w (λu=>RowV u vx x))(hlen:x.length=d)(hd:d<=32)(hs:s<=d)(hbase:base<=w.heap.size)(hsm:∀ l,l<d->(vs l).length<=1000000/\(fs l).length<=1000000):
  Ret Tryz.prog 201 [.agg #[.slice A d d],vx,.int .i64 (s:Int)] w λu w'=>∃ vv' fv',TriB w' base A d vv' fv' (λl=>if s<=l then vs l++[x.getD l V0] else vs l) (λl=>if s<=l then fs l++[if l+1<d then (vs (l+1)).length else 0] else fs l) /\
   GrN (Qzm A d vv fv) w w'/\∀ j,Qzm A d vv' fv' j->Qzm A d vv fv j∨w.heap.size<=j:=by
 obtain ⟨X,xc,hvx,hxc,hxm,hxr⟩:=hx.here;subst hvx;refine Jjb Tryz.func201 Tryz.ntmps201 rfl (by kernel_rfl) rfl ?_;refine ρ ?_;refine bx (cs:=[.slice A d d]) ?_;intro w1 b hx1 hb hB;obtain ⟨M,hM⟩:∃ M:Nat->Prop,M=λj=>Qzm A d vv fv j∨w.heap.size<=j/\j≠b:=⟨_,rfl⟩;have hbM:¬ M b:=by
  rw [hM];rintro (h'|h')
  ·exact (H.ext hx1).box hB rfl rfl rfl h'
  ·exact h'.2 rfl
 have hxM:Off M w1 (λu=>RowV u (.slice X x.length xc) x):=λu hg=>hx u ⟨hg.os.trans hx1.os,hg.tape.trans hx1.tape,hg.output.trans hx1.output,Nat.le_trans hx1.size hg.size,λk hk hn=>(hg.block k (Nat.lt_of_lt_of_le hk hx1.size) (λe=>by rw [hM]at e;rcases e with e|e;exact hn e;omega)).trans (hx1.block k hk)⟩;refine ρ ?_;refine Jzk (fun (k:Nat) (vv' fv':Nat->Value)=>[(1,.slice X x.length xc),(3,.pointer (some ⟨b,0,none⟩)),(6,.int .i64 (k:Int))])
  (λk vv' fv' w'=>s<=k/\k<=d/\TriB w' base A d vv' fv' (λl=>if s<=l/\l<k then vs l++[x.getD l V0] else vs l) (λl=>if s<=l/\l<k then fs l++[if l+1<d then (vs (l+1)).length else 0] else fs l)/\GrN M w1 w'/\∀ j,Qzm A d vv' fv' j->M j) (λk _ _=>d-k) s vv fv sB
  ⟨Nat.le_refl _,hs,?_,GrN.refl _ _,λj hj=>by rw [hM];exact .inl hj⟩ ?_
 ·have e1:(λl=>if s<=l/\l<s then vs l++[x.getD l V0] else vs l)=vs:=by funext l;rw [if_neg (by omega)]
  have e2:(λl=>if s<=l/\l<s then fs l++[if l+1<d then (vs (l+1)).length else 0] else fs l)=fs:=by funext l;rw [if_neg (by omega)]
  rw [e1,e2];exact H.ext hx1
 rintro k vv' fv' w2 ⟨hk1,hk2,H2,hg2,hM2⟩;refine ρ ?_;refine ci (λh=>?_) (λh=>?_)
 ·have lk:k<d:=by have:=of_decide_eq_true h;omega
  have lx:k<x.length:=by omega
  have hsz:=hsm k lk;clear h;obtain ⟨B,c,hvB,hcB,hrB⟩:=H2.vform lk;obtain ⟨own,hown⟩:∃ own,own=(vv' k).ownBlock:=⟨_,rfl⟩;have hoM:∀ j,own=some j->M j:=λj ej=>hM2 j (.inr ⟨k,lk,.inl (by rw [<-hown];exact ej)⟩);refine ρ ?_;refine Jzl (fun (vv5:Nat->Value)=>[(1,.slice X x.length xc),(3,.pointer (some ⟨b,0,none⟩)),(6,.int .i64 (k:Int))])
   (λvv5 w5=>TriB w5 base A d vv5 fv' (upd (λl=>if s<=l/\l<k then vs l++[x.getD l V0] else vs l) k (vs k++[x.getD k V0])) (λl=>if s<=l/\l<k then fs l++[if l+1<d then (vs (l+1)).length else 0] else fs l)/\GrN M w1 w5/\∀ j,Qzm A d vv5 fv' j->M j) ?_ ?_
  ·refine drN (one own) 4 [(0,0),(0,1),(0,2),(0,3),(0,4),(0,5),(0,6),(0,7),(0,8),(0,9),(0,10),(0,11),(0,12),(1,13),(1,14),(0,15),(0,16),(2,17)] (by kernel_rfl) ?_;have hxd:Ext w2 w2.drew:=(Ext.refl w2).drew;have H2d:=H2.ext hxd;have hg2d:=hg2.trans (GrN.ext hxd);have hB2:=Jqb hB hg2d hbM;have hxR:RdR w2.drew X x:=by
    obtain ⟨X',xc',e1,_,_,e4⟩:=hxM _ hg2d;injection e1 with e1 _ _;subst e1;exact e4
   have nb:¬ one own b:=λe=>hbM (hoM b e);have nA:∀ ad,A=some ad->¬ one own ad.block:=λad e h'=>by
    subst e;exact Jpx H2d.lev (H2d.vals.own k lk) rfl rfl (by rw [<-hown];exact h')
   have nA':¬ one own (adr A (k*2)).block:=by
    obtain ⟨ad,e,_⟩:=H2d.rd.isome (by omega) (by omega);subst e;simp only [adr,Option.getD_some,Jzc];exact nA ad rfl
   have hxN:∀ w',GrN (one own) w2.drew w'->RdR w' X x:=λw' hg=>by
    obtain ⟨X',xc',e1,_,_,e4⟩:=hxM _ (hg2d.trans (hg.mono λj _ ej=>hoM j ej));injection e1 with e1 _ _;subst e1;exact e4
   refine ρn ?_;refine nld (Jjg (hB2.at (i:=0) rfl) nb) ?_;refine ρn ?_;refine nld (Jjg (hB2.at (i:=0) rfl) nb) ?_;refine ρn ?_;refine Qyn 2 k H2d.rd lk ?_;refine ρn ?_;refine nld (Jjg (H2d.v0 lk) (by rw [Jzc];exact nA')) ?_;refine ρn ?_;refine Qyn 3 k hxR lx ?_;refine ρn ?_;refine Jfd (cs:=(x.getD k V0).cells) (λw' hg j u hu=>RdR.cell (hxN w' hg) lx hu) ?_;refine ρn ?_;refine nop ?_;refine bsl (Xcl (x.getD k V0)) ?_;intro w3 b3 hx3 hb3 hk3;refine ρ ?_;refine Jqm (GrN.ext hx3) ?_;have H3:=H2d.ext hx3;have ho3:=H3.vals.own k lk;rw [if_neg (show ¬ (s<=k/\k<k) by omega)]at ho3;have hl3:(vs k).length+1<=1000001:=by omega
   refine nop ?_;refine apb (base:=base) EVs ho3 (hk3.rd (n:=1) rfl) (V.one _) (by unfold maxLen;omega) (by omega) (Nat.le_trans hbase (Nat.le_trans hx1.size (Nat.le_trans hg2d.size hx3.size))) ?_;intro v4 w4 ho4 hg4 hn4;refine ρ ?_;refine Jqm (GrN.by hg4 λj ej=>by rw [<-hown]at ej;exact ej) ?_;have er:Jxs (vs k)++(x.getD k V0).cells=Jxs (vs k++[x.getD k V0]):=by rw [Qrc,rowC_one']
   have el:(vs k).length+1=(vs k++[x.getD k V0]).length:=by simp
   rw [er,el]at ho4;obtain ⟨c1,c2,c3,H5,hg5⟩:=H3.setV lk ho4 hg4 hn4;have hb2:b<w2.drew.heap.size:=hB2.lt;have L4:=Jjs H3.lev (H3.vals.own k lk) hg4 rfl;refine ρn ?_;refine Qyn 2 k (Rd.own L4) lk ?_;refine ρn ?_;refine Jkj ?_;refine sto c1 c2 ?_ (hv:=c3);refine ρ ?_;have hMn:∀ g,v4.ownBlock=some g->M g:=λg eg=>by
    rcases hn4 g eg with h'|h'
    ·exact hoM g (by rw [hown];exact h')
    ·rw [hM];exact .inr ⟨Nat.le_trans hx1.size (Nat.le_trans hg2d.size (Nat.le_trans hx3.size h')),λe=>by have:=hx3.size;omega⟩
   refine Jjn (upd vv' k v4) sB ⟨H5,?_,Qrp (M:=M) hM2 lk hMn⟩;exact ((hg2d.trans (GrN.ext hx3)).trans (GrN.by hg4 λj ej=>hoM j (by rw [hown];exact ej))).trans (GrN.by hg5 λj ej=>hM2 j (.inl ej))
  clear hoM hown hvB hcB hrB H2 hg2 hM2;rintro vv5 w5 ⟨H5,hg5,hM5⟩;obtain ⟨own,hown⟩:∃ own,own=(fv' k).ownBlock:=⟨_,rfl⟩;have hoM:∀ j,own=some j->M j:=λj ej=>hM5 j (.inr ⟨k,lk,.inr (by rw [<-hown];exact ej)⟩);refine drN (one own) 4 [(0,0),(0,1),(0,2),(0,3),(0,4),(0,5),(0,6),(0,7),(0,8),(0,9),(0,10),(0,11),(1,12),(1,13),(1,14),(0,15),(0,16),(2,17)] (by kernel_rfl) ?_;have hxd:Ext w5 w5.drew:=(Ext.refl w5).drew;have H5d:=H5.ext hxd;have hg5d:=hg5.trans (GrN.ext hxd);have hB5:=Jqb hB hg5d hbM;have nb:¬ one own b:=λe=>hbM (hoM b e);have nA':¬ one own (adr A (k*2)).block:=by
   obtain ⟨ad,e,_⟩:=H5d.rd.isome (by omega) (by omega);subst e;simp only [adr,Option.getD_some,Jzc];intro h';exact Jpx H5d.lev (H5d.fst.own k lk) rfl rfl (by rw [<-hown];exact h')
  refine ρn ?_;refine nld (Jjg (hB5.at (i:=0) rfl) nb) ?_;refine ρn ?_;refine nld (Jjg (hB5.at (i:=0) rfl) nb) ?_;refine ρn ?_;refine Qyn 2 k H5d.rd lk ?_;refine ρn ?_;refine nld (Jjg (H5d.f1 lk) (by rw [Jzc];exact nA')) ?_;refine ρn ?_;refine Jfd (cs:=[.slice A d d]) (λw' hg j u hu=>(Jqb hB5 hg nb).at hu) ?_;refine ρn ?_;refine nop ?_;refine cl (Jcq (l:=k+1) (li:=(k:Int)+1) H5d.rd (λl hl=>by obtain ⟨B,c,e,_⟩:=H5d.vform hl;exact ⟨B,c,e⟩) (by omega) hd) ?_;rintro u w6 ⟨rfl,hx6⟩;refine ρ ?_;refine Jqm (GrN.ext hx6) ?_;obtain ⟨nn,hnn⟩:∃ nn:Nat,nn=if k+1<d then (vs (k+1)).length else 0:=⟨_,rfl⟩
  have enn:(if k+1<d then List.length (upd (λl=>if s<=l/\l<k then vs l++[x.getD l V0] else vs l) k (vs k++[x.getD k V0]) (k+1)) else 0)=nn:=by
   rw [hnn,Jjl _ _ (by omega),if_neg (show ¬ (s<=k+1/\k+1<k) by omega)]
  rw [enn];refine nop ?_;refine bsl (bs1Int' (nn:Int)) ?_;intro w7 b7 hx7 hb7 hk7;refine ρ ?_;refine Jqm (GrN.ext hx7) ?_;have hx57:=hx6.trans hx7;have H7:=H5d.ext hx57;have ho7:=H7.fst.own k lk;rw [if_neg (show ¬ (s<=k/\k<k) by omega)]at ho7;refine nop ?_;refine apb (base:=base) EI ho7 (hk7.rd (n:=1) rfl) (λu hu=>by rw [List.mem_singleton.1 hu];rfl) (by unfold maxLen;omega) (by omega) (Nat.le_trans hbase (Nat.le_trans hx1.size (Nat.le_trans hg5d.size hx57.size))) ?_;intro v8 w8 ho8 hg8 hn8;refine ρ ?_;refine Jqm (GrN.by hg8 λj ej=>by rw [<-hown]at ej;exact ej) ?_;have er:Jzw (nz (fs k))++[.int .i64 (nn:Int)]=Jzw (nz (fs k++[nn])):=by simp [Jzw,nz]
  have el:(fs k).length+1=(fs k++[nn]).length:=by simp
  rw [er,el]at ho8;obtain ⟨c1,c2,c3,H9,hg9⟩:=H7.setF lk ho8 hg8 hn8;have L8:=Jjs H7.lev (H7.fst.own k lk) hg8 rfl;refine ρn ?_;refine Qyn 2 k (Rd.own L8) lk ?_;refine ρn ?_;refine Jkj ?_;refine sto c1 c2 ?_ (hv:=c3);refine ρ ?_;have hMn:∀ g,v8.ownBlock=some g->M g:=λg eg=>by
   rcases hn8 g eg with h'|h'
   ·exact hoM g (by rw [hown];exact h')
   ·rw [hM];exact .inr ⟨Nat.le_trans hx1.size (Nat.le_trans hg5d.size (Nat.le_trans hx57.size h')),λe=>by have:=hx57.size;have:=hB5.lt;omega⟩
  refine Jqf (k+1) vv5 (upd fv' k v8) sO ⟨by omega,by omega,H9.congr (λl hl=>?_) (λl hl=>?_),?_,Qyh (M:=M) hM5 lk hMn⟩ (by omega)
  ·by_cases e:l=k
   ·subst e;rw [Jjp,if_pos (by omega)]
   ·rw [Jjl _ _ e];by_cases e2:s<=l/\l<k
    ·rw [if_pos e2,if_pos (by omega)]
    ·rw [if_neg e2,if_neg (by omega)]
  ·by_cases e:l=k
   ·subst e;rw [Jjp,if_pos (by omega),hnn]
   ·rw [Jjl _ _ e];by_cases e2:s<=l/\l<k
    ·rw [if_pos e2,if_pos (by omega)]
    ·rw [if_neg e2,if_neg (by omega)]
  ·exact ((hg5d.trans (GrN.ext hx57)).trans (GrN.by hg8 λj ej=>hoM j (by rw [hown];exact ej))).trans (GrN.by hg9 λj ej=>hM5 j (.inl ej))
 ·have ek:k=d:=by have:=of_decide_eq_false h;omega
  subst ek;refine ρ ?_;refine Qmk ⟨vv',fv',H2.congr (λl hl=>?_) (λl hl=>?_),?_,λj hj=>?_⟩
  ·by_cases e:s<=l
   ·rw [if_pos e,if_pos ⟨e,hl⟩]
   ·rw [if_neg e,if_neg (λh'=>e h'.1)]
  ·by_cases e:s<=l
   ·rw [if_pos e,if_pos (show s<=l/\l<k from ⟨e,hl⟩)]
   ·rw [if_neg e,if_neg (λh'=>e h'.1)]
  ·exact ⟨hg2.os.trans hx1.os,hg2.tape.trans hx1.tape,hg2.output.trans hx1.output,Nat.le_trans hx1.size hg2.size,λj hj hn=>(hg2.block j (Nat.lt_of_lt_of_le hj hx1.size) (λe=>by rw [hM]at e;rcases e with e|e;exact hn e;omega)).trans (hx1.block j hj)⟩
  ·have:=hM2 j hj;rw [hM]at this;exact this.imp id λh'=>h'.1
open Go.RowKit Pl Go.Wk
attribute [local irreducible] WN
theorem Qxh{w:World}{A:Option Addr}{n c:Nat}{zs:List Int}{t:Int}(hR:Rd w 1 A n (Jzw zs))(hn:zs.length=n)(hm:n<=1100000): Ret Tryz.prog 213 [.slice A n c,.int .i64 t] w λu w'=>w'=w/\∃ z,u=.int .i64 z/\(0<=z↔t∈zs):=by
 refine Jjb Tryz.func213 Tryz.ntmps213 rfl (by kernel_rfl) rfl ?_;refine ρ ?_;refine Jqn (fun (k:Nat)=>[(0,.slice A n c),(1,.int .i64 t),(7,.int .i64 (n:Int)),(8,.int .i64 (k:Int))]) (λk w'=>w'=w/\k<=n/\t ∉ zs.take k) (λk=>n-k) 0 sB ⟨rfl,Nat.zero_le _,by simp⟩ ?_;rintro k w' ⟨rfl,hk,hI⟩;refine ρ ?_;refine ci (λh=>?_) (λh=>?_)
 ·have lk:k<n:=by have:=of_decide_eq_true h;omega
  have lz:k<zs.length:=by omega
  refine ρ ?_;refine ix k hR lk ?_;refine ρ ?_;refine ld (hR.cell (Jdr lz)) ?_;refine ρ ?_;refine ci (λh=>?_) (λh=>?_)
  ·refine ρ ?_;refine Jjq ⟨rfl,(k:Int),rfl,⟨λ_=>?_,λ_=>by omega⟩⟩;rw [Jql h];exact getD_mem' 0 zs lz
  ·refine ρ ?_;refine Jjt (k+1) sO ⟨rfl,by omega,?_⟩ (by omega);rw [Jjm 0 lz,List.mem_append,List.mem_singleton];rintro (h'|h')
   ·exact hI h'
   ·exact Jqh h h'
 ·refine ρ ?_;refine Jjq ⟨rfl,-1,rfl,⟨λe=>by omega,λe=>?_⟩⟩;rw [List.take_of_length_le (by have:=of_decide_eq_false h;omega)]at hI;exact absurd e hI
theorem Jnk{w:World}{A:Option Addr}{n c:Nat}{zs:List Int}{t:Int}(hR:Rd w 1 A n (Jzw zs))(hn:zs.length=n)(hm:n<=1100000): Ret Tryz.prog 200 [.slice A n c,.int .i64 t] w λu w'=>w'=w/\∃ b:Bool,u=.bool b/\(b=true↔t∈zs):=by
 refine Jjb Tryz.func200 Tryz.ntmps200 rfl (by kernel_rfl) rfl ?_;refine ρ ?_;refine cl (Qxh hR hn hm) ?_;rintro u w' ⟨rfl,z,rfl,hz⟩;refine ρ ?_;exact Jjq ⟨rfl,decide (0<=z),rfl,by rw [decide_eq_true_iff];exact hz⟩
def TriV(w:World)(v:Value)(d:Nat)(rs:List Row): Prop:=∃ (A:Option Addr) (vv fv:Nat->Value) (fs:Nat->List Nat),v=.agg #[.slice A d d]/\Rd w 2 A d (Jvq d vv fv)/\(∀ l,l<d->∃ B c,vv l=.slice B (lvl rs l).length c/\RdR w B (lvl rs l)) /\
 (∀ l,l<d->∃ B c,fv l=.slice B (fs l).length c/\Rd w 1 B (fs l).length (Jzw (nz (fs l))))/\∀ l,l+1<d->Chl rs l (fs l)
theorem TriB.off{w:World}{base:Nat}{A:Option Addr}{d:Nat}{vv fv:Nat->Value}{rs:List Row}{fs:Nat->List Nat}{N:Nat->Prop}(h:TriB w base A d vv fv (lvl rs) fs)(hc:∀ l,l+1<d->Chl rs l (fs l))(hN:∀ j,Qzm A d vv fv j->¬ N j): Off N w (λu=>TriV u (.agg #[.slice A d d]) d rs):=by
 intro u hg;refine ⟨A,vv,fv,fs,rfl,Qzl h.rd hg (λ_ ad e=>?_),λl hl=>?_,λl hl=>?_,hc⟩
 ·subst e;exact hN _ (.inl rfl)
 ·obtain ⟨B,c,e,_,hr⟩:=h.vform hl;refine ⟨B,c,e,Qzl hr hg λ_ ad e2=>hN _ (.inr ⟨l,hl,.inl ?_⟩)⟩;rw [e,e2];rfl
 ·obtain ⟨B,c,e,_,hr⟩:=h.fform hl;refine ⟨B,c,e,Qzl hr hg λ_ ad e2=>hN _ (.inr ⟨l,hl,.inr ?_⟩)⟩;rw [e,e2];rfl
theorem Xql: Jxc Tryz.prog 276=some (.agg #[.slice none 0 0]):=by kernel_rfl
theorem Qth(A:Option Addr)(n c:Nat)(w:World): (Instr.build 276 #[(0,.slice A n c)]).run Tryz.prog w=.ok (.agg #[.slice A n c]) w:=by kernel_rfl
theorem EL: ElT Tryz.prog 274 289 2 48 (.agg #[.slice none 0 0,.slice none 0 0]):=⟨Tryz.underlying274,info_parts (by kernel_rfl),rfl,by decide⟩
theorem one1{A:Option Addr}{n c:Nat}: ∀ u∈[Value.slice A n c],u.oneCell'=true:=by intro u hu;rw [List.mem_singleton.1 hu];rfl
theorem made2(d:Nat): (madeCells (Value.agg #[.slice none 0 0,.slice none 0 0]).cells (d*2)).toList=Jvq d (λ_=>.slice none 0 0) (λ_=>.slice none 0 0):=by
 apply List.ext_getElem?
 intro k;have hz:(Value.agg #[.slice none 0 0,.slice none 0 0]).cells = #[.slice none 0 0,.slice none 0 0]:=rfl;rw [hz];by_cases hk:k<d*2
 ·have h1:=Jkb d (λ_=>Value.slice none 0 0) (λ_=>Value.slice none 0 0) (l:=k / 2) (by omega);have hm:k % 2=0∨k % 2=1:=by omega
  rcases hm with hm|hm
  ·have e:k / 2*2=k:=by omega
   rw [e]at h1;rw [h1.1];simp only [madeCells,Array.getElem?_toList,Array.getElem?_map,Array.getElem?_range,hk,if_true,Option.map_some];have:k % (#[Value.slice none 0 0,.slice none 0 0]:Array Value).size=0:=hm;rw [this];rfl
  ·have e:k / 2*2+1=k:=by omega
   rw [e]at h1;rw [h1.2];simp only [madeCells,Array.getElem?_toList,Array.getElem?_map,Array.getElem?_range,hk,if_true,Option.map_some];have:k % (#[Value.slice none 0 0,.slice none 0 0]:Array Value).size=1:=hm;rw [this];rfl
 ·rw [List.getElem?_eq_none (by simp [madeCells];omega),List.getElem?_eq_none (by rw [Jqg];omega)]
end Go.Proofs.YtefpailelagbkaaGreatDoor
