/- Part 2 of the proof: Lw5, LwA, OpE, LwD, Wa1, Wa2, Mkr. -/
import Derived.Test.YtefpailelagbkaaGreatDoorKno43
import Derived.Test.YtefpailelagbkaaGreatDoorRows
import Derived.LaidSub
import Derived.Lib.LaidTab
set_option linter.unusedVariables false
set_option maxRecDepth 100000
set_option maxHeartbeats 40000000
namespace Go.Proofs.YtefpailelagbkaaGreatDoor
open Go.RowKit Pl Go.Wk
attribute [local irreducible] WC WL QX WD WDB WP WN WG WH WM
theorem bldNum(n:Int)(w:World): (Instr.build 71 #[(0,.int .i64 1),(1,.int .i64 n)]).run Tryz.prog w=.ok (nV n).val w:=by kernel_rfl
theorem bs2V(a b:V)(w:World): (Instr.buildSlice 40 2 #[(0,a.val),(1,b.val)]).run Tryz.prog w=.ok (.slice (some ⟨w.heap.size,0,none⟩) 2 2) (w.alloc (.cells (Jzj [a,b]).toArray 71)):=by kernel_rfl
theorem bs3R(A1 A2 A3:Option Addr)(n1 n2 n3 c1 c2 c3:Nat)(w:World): (Instr.buildSlice 35 3 #[(0,.slice A1 n1 c1),(1,.slice A2 n2 c2),(2,.slice A3 n3 c3)]).run Tryz.prog w=.ok (.slice (some ⟨w.heap.size,0,none⟩) 3 3) (w.alloc (.cells [.slice A1 n1 c1,.slice A2 n2 c2,.slice A3 n3 c3].toArray 40)):=by kernel_rfl
theorem bs1RR(A1:Option Addr)(n1 c1:Nat)(w:World): (Instr.buildSlice 25 1 #[(0,.slice A1 n1 c1)]).run Tryz.prog w=.ok (.slice (some ⟨w.heap.size,0,none⟩) 1 1) (w.alloc (.cells [.slice A1 n1 c1].toArray 35)):=by kernel_rfl
theorem bs1II(A1:Option Addr)(n1 c1:Nat)(w:World): (Instr.buildSlice 24 1 #[(0,.slice A1 n1 c1)]).run Tryz.prog w=.ok (.slice (some ⟨w.heap.size,0,none⟩) 1 1) (w.alloc (.cells [.slice A1 n1 c1].toArray 23)):=by kernel_rfl
theorem bs2I(a b:Int)(w:World): (Instr.buildSlice 23 2 #[(0,.int .i64 a),(1,.int .i64 b)]).run Tryz.prog w=.ok (.slice (some ⟨w.heap.size,0,none⟩) 2 2) (w.alloc (.cells [Value.int .i64 a,.int .i64 b].toArray 3)):=by kernel_rfl
theorem bldCase(A B C:Option Addr)(a b c a' b' c':Nat)(w:World): (Instr.build 27 #[(0,.int .i64 2),(1,.int .i64 2),(2,.slice A a a'),(4,.slice B b b'),(5,.slice C c c')]).run Tryz.prog w=.ok (.agg #[.int .i64 2,.int .i64 2,.slice A a a',.slice none 0 0,.slice B b b',.slice C c c']) w:=by kernel_rfl
theorem litRow{w:World}{b:Nat}{r:Row}(h:Blk w b 71 (Jzj r))(hl:r.length<=1100000): RowV w (.slice (some ⟨b,0,none⟩) r.length r.length) r:=⟨some ⟨b,0,none⟩,r.length,rfl,Nat.le_refl _,hl,h.rd (Qkq r)⟩
theorem litRows{w:World}{b:Nat}(ps:List Pr)(h:Blk w b 40 (ps.map (·.1)))(hr:∀ p∈ps,RowV w p.1 p.2)(hl:ps.length<=1100000): RowsV w (.slice (some ⟨b,0,none⟩) ps.length ps.length) (ps.map (·.2)):=⟨ps,some ⟨b,0,none⟩,ps.length,rfl,rfl,Nat.le_refl _,hl,h.rd (by simp),hr⟩
open Go.RowKit Pl Go.Wk
theorem natOf_wrap{i:Nat}(h:i<18446744073709551616)(w:World): Ret Tryz.prog 18 [.int .u64 (IntKind.u64.wrap (i:Int))] w λv w'=>NatV w' v i/\Ext w w':=by
 rw [Xxr (z:=(i:Int)) (by omega)];exact (Jfc i h w).mono λv w' h=>⟨h.1,h.2.2⟩
end Go.Proofs.YtefpailelagbkaaGreatDoor
namespace Go.Proofs.YtefpailelagbkaaGreatDoor
open Go.RowKit Pl Go.Wk Go.ChangeShapes Go.WideShapes
section
variable {H:Type} {enc:TypeId×Value->H} {P:Program} {w:World} {base:Nat} {spare:Nat->Bool} {held:Bool} {B:Nat}
end
section
variable {H:Type} {enc:TypeId×Value->H} {w:World} {base b0:Nat} {spare:Nat->Bool} {held:Bool}
def CaseE(w:World)(v:Value): Prop:=∃ (cs:List Value) (c:Cse),v=.agg cs.toArray/\CseV w cs c/\∀ i,i<c.rss.length->∀ r∈c.rss.getD i [],∀ u∈r,Qwt u
end
theorem gPow: Tryz.prog.globalNamed "internal/strconv.uint64pow10" = some 1:=by kernel_rfl
theorem gPowT: (Tryz.prog.globals[1]?).map (·.type)=some 307:=by kernel_rfl
theorem tb_of_laid{W:World}(h:laidMetH Tryz.prog Rows.accessAtUptoRow.laid W): TB W.heap.size W:=by
 refine ⟨Nat.le_refl _,Lib.tabBelow_of_tabIs ?_⟩;have i:=h.filter (λx=>x.1 == "internal/strconv.uint64pow10");exact Lib.tabIs_of_head (rest:=[]) gPow gPowT Tryz.underlying307 Tryz.underlying45 (by kernel_rfl) (by kernel_rfl) i
def layOn(d:DataW Unit): Obj->Obj
 | .cells _ t z=>.cells (match d with
  | .agg ps=>(ps.map fun
   | .lit (.int k z)=>Value.int k z
   | _=>Value.bool false).toArray
  | _=>#[]) t z
 | o=>o
open Go.RowKit Pl Go.Wk
attribute [local irreducible] WC WL QX WD WDB WP WN WG WH WM
theorem tmod_is{k:Int}{n:Nat}(hk:0<=k)(hn:0<n): ∃ r:Nat,k.tmod (n:Int)=(r:Int)/\r<n:=by
 refine ⟨(k.tmod (n:Int)).toNat,?_,?_⟩
 ·have:=Int.tmod_nonneg (a:=k) (n:Int) hk;omega
 ·have j:=Int.tmod_nonneg (a:=k) (n:Int) hk;have i:=Int.tmod_lt_of_pos k (show (0:Int)<(n:Int) by omega);omega
open Go.RowKit Pl Go.Wk
def CuV(w:World)(x cu:Value)(p st:Nat): Prop:=∃ (A1 A2 A3 A4 A5:Option Addr) (n1 n2 n3 n4 n5 c1 c2 c3 c4 c5:Nat) (pv:Value),x=.agg #[.slice A1 n1 c1,.slice A2 n2 c2,.slice A3 n3 c3,.slice A4 n4 c4,.slice A5 n5 c5]/\cu=.agg #[.slice A1 n1 c1,.slice A2 n2 c2,.slice A3 n3 c3,.slice A4 n4 c4,.slice A5 n5 c5,pv,.int .i64 (st:Int)]/\NatV w pv p
theorem CuV.ext{w w':World}{x cu:Value}{p st:Nat}(h:CuV w x cu p st)(hx:Ext w w'): CuV w' x cu p st:=by
 obtain ⟨A1,A2,A3,A4,A5,C,u,o,j,i,c1,c2,Z,U,O,pv,J,G,D⟩:=h;exact ⟨A1,A2,A3,A4,A5,C,u,o,j,i,c1,c2,Z,U,O,pv,J,G,D.ext hx⟩
def CuF(w:World)(cu:Value): Prop:=∀ a1 a2 a3 a4 a5 pv z,cu=.agg #[a1,a2,a3,a4,a5,pv,z]->Fresh w pv
theorem zCur: Jxd Tryz.prog 87=some (.agg #[.slice none 0 0,.slice none 0 0,.slice none 0 0,.slice none 0 0,.slice none 0 0,.slice none 0 0,.int .i64 0]):=by kernel_rfl
theorem bldCur1(A1 A2 A3 A4 A5:Option Addr)(n1 n2 n3 n4 n5 c1 c2 c3 c4 c5:Nat)(w:World): (Instr.build 87 #[(0,.agg #[.slice A1 n1 c1,.slice A2 n2 c2,.slice A3 n3 c3,.slice A4 n4 c4,.slice A5 n5 c5])]).run Tryz.prog w=.ok (.agg #[.slice A1 n1 c1,.slice A2 n2 c2,.slice A3 n3 c3,.slice A4 n4 c4,.slice A5 n5 c5,.slice none 0 0,.int .i64 0]) w:=by kernel_rfl
theorem bldCur2(A1 A2 A3 A4 A5 A6:Option Addr)(n1 n2 n3 n4 n5 n6 c1 c2 c3 c4 c5 c6:Nat)(w:World): (Instr.build 87 #[(0,.agg #[.slice A1 n1 c1,.slice A2 n2 c2,.slice A3 n3 c3,.slice A4 n4 c4,.slice A5 n5 c5]),(1,.slice A6 n6 c6)]).run Tryz.prog w=.ok (.agg #[.slice A1 n1 c1,.slice A2 n2 c2,.slice A3 n3 c3,.slice A4 n4 c4,.slice A5 n5 c5,.slice A6 n6 c6,.int .i64 0]) w:=by kernel_rfl
theorem bldCur3(A1 A2 A3 A4 A5 A6:Option Addr)(n1 n2 n3 n4 n5 n6 c1 c2 c3 c4 c5 c6:Nat)(z:Int)(w:World): (Instr.build 87 #[(0,.agg #[.slice A1 n1 c1,.slice A2 n2 c2,.slice A3 n3 c3,.slice A4 n4 c4,.slice A5 n5 c5]),(1,.slice A6 n6 c6),(2,.int .i64 z)]).run Tryz.prog w=.ok (.agg #[.slice A1 n1 c1,.slice A2 n2 c2,.slice A3 n3 c3,.slice A4 n4 c4,.slice A5 n5 c5,.slice A6 n6 c6,.int .i64 z]) w:=by kernel_rfl
theorem one_7{A B C D E F:Option Addr}{a b c d e f a' b' c' d' e' f':Nat}{z:Int}: ∀ u∈[Value.slice A a a',.slice B b b',.slice C c c',.slice D d d',.slice E e e',.slice F f f',.int .i64 z],u.oneCell'=true:=λu i=>by
 simp only [List.mem_cons,List.not_mem_nil,or_false]at i;rcases i with rfl|rfl|rfl|rfl|rfl|rfl|rfl<;>rfl
theorem pre_get{l m:List Value}{j:Nat}{u:Value}(h:l[j]?=some u): (l++m)[j]?=some u:=by
 rw [List.getElem?_append_left (List.getElem?_eq_some_iff.1 h).1];exact h
theorem rowOff{w:World}{A:Option Addr}{r:Row}{b t:Nat}{cs:List Value}(hR:RdR w A r)(hB:Blk w b t cs)(hs:∀ u∈cs,∀ s,u≠.string s): Off (λk=>k=b) w λu=>RdR u A r:=Xkq hR λh0 j e (U:j.block=b)=>by
 obtain ⟨Z,o,J,i⟩:=hR.2 h0;rw [e]at o;injection o with o
 subst o;cases r with
 | nil=>simp [Jzj]at h0
 | cons v r=>
  have C:w.cell? (j.add 2)=some (.string v.str):=i 2 _ rfl;have G:=World.cell?_spot C;have D:(j.add 2).block=b:=by rw [Jxt];exact U
  have O:j.add 2=⟨b,(j.add 2).off,none⟩:=by
   generalize hq:j.add 2=q at *
   obtain ⟨qb,qo,qs⟩:=q;simp only at G D;subst G;subst D;rfl
  rw [O,hB.cell]at C;exact hs _ (List.mem_of_getElem? C) _ rfl
theorem no_str{A B C D E F:Option Addr}{a b c d e f a' b' c' d' e' f':Nat}{z:Int}: ∀ u∈[Value.slice A a a',.slice B b b',.slice C c c',.slice D d d',.slice E e e',.slice F f f',.int .i64 z],∀ s,u≠.string s:=λu i s=>by
 simp only [List.mem_cons,List.not_mem_nil,or_false]at i;rcases i with rfl|rfl|rfl|rfl|rfl|rfl|rfl<;>simp
theorem start_any{w:World}{A1 A2 A3 A4 A5:Option Addr}{n1 n2 n3 n4 n5 c1 c2 c3 c4 c5:Nat}: Ret Tryz.prog 49 [.agg #[.slice A1 n1 c1,.slice A2 n2 c2,.slice A3 n3 c3,.slice A4 n4 c4,.slice A5 n5 c5]] w λu w'=>CuV w' (.agg #[.slice A1 n1 c1,.slice A2 n2 c2,.slice A3 n3 c3,.slice A4 n4 c4,.slice A5 n5 c5]) u 0 0/\Ext w w':=by
 refine Jjc Tryz.func49 Tryz.ntmps49 rfl (by kernel_rfl) rfl ?_;refine ρ ?_;refine bx ?_;intro w1 b j hb O;refine ρ ?_;refine alc zCur ?_;intro Z b2 i C G;refine ρ ?_;refine ldW (O.ext i) ?_;refine ρ ?_;refine bld (bldCur1 _ _ _ _ _ _ _ _ _ _ _ _ _ _ _ _) ?_;refine ρ ?_;refine stW G ?_;intro U D J o;refine ρ ?_;exact Qhj D ⟨⟨A1,A2,A3,A4,A5,n1,n2,n3,n4,n5,c1,c2,c3,c4,c5,_,rfl,rfl,NatV.nil _⟩,o w (j.trans i) (nL j.size C)⟩
section
variable {w:World} {x cu:Value} {f:Nat} {ds:List Bool} {kf:Nat->Nat} {pf:Nat->Int} {BB:Nat->List BkT} {tot:Nat} {L:List Row} {p st:Nat}
theorem nextF_any(h:IxA w x f ds kf pf BB tot L)(hc:CuV w x cu p st)(hp:(Jjf p).length<=100):
  Ret Tryz.prog 39 [cu] w λu w'=>Ext w w'/\match L[p]? with
   | some r=>∃ cu' A c,∃ st':Nat,u=.tuple #[cu',.slice A r.length c,.bool true]/\CuV w' x cu' (p+1) st'/\RdR w' A r/\r.length<=c/\r.length=f/\(st'<=Jcg f λv=>hmB (BB v))/\CuF w cu'
   | none=>∃ cu',u=.tuple #[cu',.slice none 0 0,.bool false]/\CuV w' x cu' p 0:=by
 obtain ⟨A1,A2,A3,A4,A5,n1,n2,n3,n4,n5,c1,c2,c3,c4,c5,pv,rfl,rfl,a7⟩:=hc;obtain ⟨QA,qc,rfl,_⟩:=id a7;refine Jjc Tryz.func39 Tryz.ntmps39 rfl (by kernel_rfl) rfl ?_;refine ρ ?_;refine bx ?_;intro w1 b aa hb hB;refine ρ ?_;refine alc zCur ?_;intro w2 b2 ae aj a8;have Z:=hB.ext ae;have U:=aa.trans ae;refine ρ ?_;refine lds (cs:=[.slice A1 n1 c1,.slice A2 n2 c2,.slice A3 n3 c3,.slice A4 n4 c4,.slice A5 n5 c5]) (λj u hu=>Z.at (pre_get (m:=[.slice QA _ qc,.int .i64 (st:Int)]) hu)) ?_;refine ρ ?_;refine ld (Z.at (i:=5) rfl) ?_;refine ρ ?_;refine cl (at_any (h.ext U) (a7.ext U)) ?_;rintro u w3 ⟨C,h3⟩;have O:=U.trans C;unfold AtR at h3;cases hr:L[p]? with
 | none=>
  rw [hr]at h3;simp only at h3;subst h3;refine ρ ?_;refine lds (cs:=[.slice A1 n1 c1,.slice A2 n2 c2,.slice A3 n3 c3,.slice A4 n4 c4,.slice A5 n5 c5]) (λj u hu=>(Z.ext C).at (pre_get (m:=[.slice QA _ qc,.int .i64 (st:Int)]) hu)) ?_;refine ρ ?_;refine ld ((Z.ext C).at (i:=5) rfl) ?_;refine ρ ?_;refine bld (bldCur2 _ _ _ _ _ _ _ _ _ _ _ _ _ _ _ _ _ _ _) ?_;refine ρ ?_;refine stW (a8.ext C) ?_;intro w4 aq ar G;have a6:Ext w w4:=G w O (nL aa.size aj);refine ρ ?_;exact Xwv aq ⟨a6,_,rfl,A1,A2,A3,A4,A5,n1,n2,n3,n4,n5,c1,c2,c3,c4,c5,_,rfl,rfl,a7.ext a6⟩
 | some r=>
  rw [hr]at h3;simp only at h3;obtain ⟨A,c,st',rfl,e1,e2,e3,e4⟩:=h3;have ak:=Z.ext C;have J:Ext w3 w3.drew:=(Ext.refl w3).drew;have au:=a8.lt;have ab:¬ b=b2:=λe=>by have:=hB.lt;omega
  refine ρ ?_;refine drN (λk=>k=b2) 13 [(0,0),(0,1),(0,2),(0,3),(0,6),(0,8),(1,4),(1,5),(0,7),(1,9),(0,10),(0,11)] (by kernel_rfl) ?_;refine ρn ?_;refine Jlg (cs:=[.slice A1 n1 c1,.slice A2 n2 c2,.slice A3 n3 c3,.slice A4 n4 c4,.slice A5 n5 c5]) (λw' hg j u hu=>(Jjw (ak.ext J) hg ab).at (pre_get (m:=[.slice QA _ qc,.int .i64 (st:Int)]) hu)) ?_;refine ρn ?_;refine nld (Jjg ((ak.ext J).at (i:=5) rfl) ab) ?_;refine ρn ?_;refine nop ?_;refine cl (Jfc 1 (by decide) _) ?_;rintro o w4 ⟨ho,_,G⟩;refine ρ ?_;refine Jqt (GrN.ext G) ?_;refine ρn ?_;refine nop ?_;have a9:=(O.trans J).trans G;have ao:(Jjf 1).length<=1000:=by rw [Qgn (by decide) (by decide)];decide
  refine cl (Jzz (a7.ext a9) ho (by omega) ao) ?_;rintro sv w5 ⟨hs,af,ac⟩;obtain ⟨SA,sc,rfl,_⟩:=id hs;refine ρ ?_;refine Jqt (GrN.ext ac) ?_;refine ρn ?_;refine Xqb (bldCur3 _ _ _ _ _ _ _ _ _ _ _ _ _ _ _ _ _ _ _) ?_;refine ρn ?_;refine nop ?_;have D:=(J.trans G).trans ac;refine stW ((a8.ext C).ext D) ?_;intro w6 ap ai am;have a6:Ext w w6:=am w (O.trans D) (nL aa.size aj);have ah:GrN (λk=>k=b2) w5 w6:=GrN.by ai λk hk=>by injection hk with hk;exact hk.symm
  refine Jzr (Jqt ah ?_);refine ρn ?_;refine ρ ?_;have ag:RdR w6 A r:=(rowOff (Rd.ext e1 D) ((a8.ext C).ext D) no_str) w6 ah;have an:NatV w6 (.slice SA (Jjf (p+1)).length sc) (p+1):=hs.grown ai λad m c e=>by
   have h1:=af ad m c e;have h2:=((C.trans J).trans G).size;intro e2;injection e2 with e2
   omega
  exact Xwv ap ⟨a6,_,A,c,st',rfl,⟨A1,A2,A3,A4,A5,n1,n2,n3,n4,n5,c1,c2,c3,c4,c5,_,rfl,rfl,an⟩,ag,e2,e3,e4,λa1 a2 a3 a4 a5 pv z e ad m c e2=>by
   injection e with e
   injection e with e
   injection e with _ e
   injection e with _ e
   injection e with _ e
   injection e with _ e
   injection e with _ e
   injection e with e _
   subst e;have h1:=af ad m c e2;have h2:=a9.size;omega⟩
theorem next_any(h:IxA w x f ds kf pf BB tot L)(hc:CuV w x cu p st)(hp:(Jjf p).length<=100):
  Ret Tryz.prog 39 [cu] w λu w'=>Ext w w'/\match L[p]? with
   | some r=>∃ cu' A c,∃ st':Nat,u=.tuple #[cu',.slice A r.length c,.bool true]/\CuV w' x cu' (p+1) st'/\RdR w' A r/\r.length<=c/\r.length=f/\st'<=Jcg f λv=>hmB (BB v)
   | none=>∃ cu',u=.tuple #[cu',.slice none 0 0,.bool false]/\CuV w' x cu' p 0:=(nextF_any h hc hp).mono λu w' ⟨i,h⟩=>⟨i,by
 cases hr:L[p]? with
 | none=>rw [hr]at h;exact h
 | some r=>rw [hr]at h;obtain ⟨cu',A,c,st',e,G,D,C,o,j,_⟩:=h;exact ⟨cu',A,c,st',e,G,D,C,o,j⟩⟩
theorem prev_any(h:IxA w x f ds kf pf BB tot L)(hc:CuV w x cu p st)(hp:(Jjf p).length<=100):
  Ret Tryz.prog 40 [cu] w λu w'=>Ext w w'/\match (if p=0 then none else L[p-1]?) with
   | some r=>∃ cu' A c,∃ st':Nat,u=.tuple #[cu',.slice A r.length c,.bool true]/\CuV w' x cu' (p-1) st'/\RdR w' A r/\r.length<=c/\r.length=f/\st'<=Jcg f λv=>hmB (BB v)
   | none=>∃ cu',u=.tuple #[cu',.slice none 0 0,.bool false]/\CuV w' x cu' p 0:=by
 obtain ⟨A1,A2,A3,A4,A5,n1,n2,n3,n4,n5,c1,c2,c3,c4,c5,pv,rfl,rfl,a2⟩:=hc;obtain ⟨QA,qc,rfl,_⟩:=id a2;refine Jjc Tryz.func40 Tryz.ntmps40 rfl (by kernel_rfl) rfl ?_;refine ρ ?_;refine bx ?_;intro w1 b a1 hb hB;refine ρ ?_;refine alc zCur ?_;intro w2 b2 aa a4 Z;have O:=hB.ext aa;have G:=a1.trans aa;have a6:Ext w2 w2.drew:=(Ext.refl w2).drew;refine ρ ?_;refine drN (λ_=>False) 10 [(0,0),(0,1),(1,2),(1,3),(0,4),(0,5),(0,6),(0,7),(0,8)] (by kernel_rfl) ?_;refine ρn ?_;refine nld (Jjg ((O.ext a6).at (i:=5) rfl) (λe=>e)) ?_;refine ρn ?_;refine nop ?_;refine cl (Jfc 1 (by decide) _) ?_;rintro o w3 ⟨ho,_,a9⟩;refine ρ ?_;refine Jqt (GrN.ext a9) ?_;refine ρn ?_;refine nop ?_;have U:=a6.trans a9;refine cl (Qxm (a2.ext (G.trans U)) ho (by omega)) ?_;rintro u w4 ⟨⟨sv,rfl,hs,ag⟩,a8⟩;obtain ⟨SA,sc,rfl,_⟩:=id hs;have D:=U.trans a8;refine ρ ?_;refine Jqt (GrN.ext a8) ?_;refine ρn ?_
 refine ρ ?_;by_cases h0:p=0
 ·subst h0;simp only [if_pos];refine ci (λh=>?_) (λh=>?_);rotate_left
  ·exfalso
   have:=Jwq h;rw [if_pos (by decide)]at this;cases this
  clear h;refine ρ ?_;refine lds (cs:=[.slice A1 n1 c1,.slice A2 n2 c2,.slice A3 n3 c3,.slice A4 n4 c4,.slice A5 n5 c5]) (λj u hu=>(O.ext D).at (pre_get (m:=[.slice QA _ qc,.int .i64 (st:Int)]) hu)) ?_;refine ρ ?_;refine ld ((O.ext D).at (i:=5) rfl) ?_;refine ρ ?_;refine bld (bldCur2 _ _ _ _ _ _ _ _ _ _ _ _ _ _ _ _ _ _ _) ?_;refine ρ ?_;refine stW (Z.ext D) ?_;intro w9 a5 ai a3;have J:Ext w w9:=a3 w (G.trans D) (nL a1.size a4);refine ρ ?_;exact Xwv a5 ⟨J,_,rfl,A1,A2,A3,A4,A5,n1,n2,n3,n4,n5,c1,c2,c3,c4,c5,_,rfl,rfl,a2.ext J⟩
 refine ci (λh=>?_) (λh=>?_)
 ·exfalso
  have:=Jwp h;rw [if_neg (by omega)]at this;exact this rfl
 clear h;simp only [if_neg h0];refine ρ ?_;refine lds (cs:=[.slice A1 n1 c1,.slice A2 n2 c2,.slice A3 n3 c3,.slice A4 n4 c4,.slice A5 n5 c5]) (λj u hu=>(O.ext D).at (pre_get (m:=[.slice QA _ qc,.int .i64 (st:Int)]) hu)) ?_;refine ρ ?_;refine cl (at_any (h.ext (G.trans D)) hs) ?_;rintro u w5 ⟨a7,h5⟩;have C:=D.trans a7;unfold AtR at h5;cases hr:L[p-1]? with
 | none=>
  rw [hr]at h5;simp only at h5;subst h5;refine ρ ?_;refine lds (cs:=[.slice A1 n1 c1,.slice A2 n2 c2,.slice A3 n3 c3,.slice A4 n4 c4,.slice A5 n5 c5]) (λj u hu=>(O.ext C).at (pre_get (m:=[.slice QA _ qc,.int .i64 (st:Int)]) hu)) ?_;refine ρ ?_;refine ld ((O.ext C).at (i:=5) rfl) ?_;refine ρ ?_;refine bld (bldCur2 _ _ _ _ _ _ _ _ _ _ _ _ _ _ _ _ _ _ _) ?_;refine ρ ?_;refine stW (Z.ext C) ?_;intro w9 a5 ai a3;have J:Ext w w9:=a3 w (G.trans C) (nL a1.size a4);refine ρ ?_;exact Xwv a5 ⟨J,_,rfl,A1,A2,A3,A4,A5,n1,n2,n3,n4,n5,c1,c2,c3,c4,c5,_,rfl,rfl,a2.ext J⟩
 | some r=>
  rw [hr]at h5;simp only at h5;obtain ⟨A,c,st',rfl,e1,e2,e3,e4⟩:=h5;refine ρ ?_;refine lds (cs:=[.slice A1 n1 c1,.slice A2 n2 c2,.slice A3 n3 c3,.slice A4 n4 c4,.slice A5 n5 c5]) (λj u hu=>(O.ext C).at (pre_get (m:=[.slice QA _ qc,.int .i64 (st:Int)]) hu)) ?_;refine ρ ?_;refine bld (bldCur3 _ _ _ _ _ _ _ _ _ _ _ _ _ _ _ _ _ _ _ _) ?_;refine ρ ?_;refine stW (Z.ext C) ?_;intro w6 aj ac ae;have J:Ext w w6:=ae w (G.trans C) (nL a1.size a4);have ah:GrN (λk=>k=b2) w5 w6:=GrN.by ac λk hk=>by injection hk with hk;exact hk.symm
  have ak:=Z.lt;have ab:RdR w6 A r:=(rowOff e1 (Z.ext C) no_str) w6 ah;have af:NatV w6 (.slice SA (Jjf (p-1)).length sc) (p-1):=(hs.ext a7).grown ac λad m c e=>by
   have h1:=ag ad m c e;have h2:=U.size;intro e2;injection e2 with e2
   omega
  refine ρ ?_;exact Xwv aj ⟨J,_,A,c,st',rfl,⟨A1,A2,A3,A4,A5,n1,n2,n3,n4,n5,c1,c2,c3,c4,c5,_,rfl,rfl,af⟩,ab,e2,e3,e4⟩
theorem pos_any(hc:CuV w x cu p st)(hp:(Jjf p).length<=100): Ret Tryz.prog 42 [cu] w λu w'=>NatV w' u p/\Ext w w':=by
 obtain ⟨A1,A2,A3,A4,A5,n1,n2,n3,n4,n5,c1,c2,c3,c4,c5,pv,rfl,rfl,o⟩:=hc;obtain ⟨QA,Z,rfl,_⟩:=id o;refine Jjc Tryz.func42 Tryz.ntmps42 rfl (by kernel_rfl) rfl ?_;refine ρ ?_;refine bx ?_;intro O b j hb G;refine ρ ?_;refine ld (G.at (i:=5) rfl) ?_;refine ρ ?_;refine cl (Jyj (o.ext j) (by omega)) ?_;rintro u J ⟨D,_,C⟩;obtain ⟨UA,U,rfl,_⟩:=id D;refine ρ ?_;exact Jjr ⟨D,j.trans C⟩
theorem steps_any(hc:CuV w x cu p st): Ret Tryz.prog 43 [cu] w λu w'=>u=.int .i64 (st:Int)/\Ext w w':=by
 obtain ⟨A1,A2,A3,A4,A5,n1,Z,U,O,J,c1,c2,c3,c4,c5,pv,rfl,rfl,o⟩:=hc;obtain ⟨QA,G,rfl,_⟩:=id o;refine Jjc Tryz.func43 Tryz.ntmps43 rfl (by kernel_rfl) rfl ?_;refine ρ ?_;refine bx ?_;intro D b j hb C;refine ρ ?_;refine ld (C.at (i:=6) rfl) ?_;refine ρ ?_;exact Jjr ⟨rfl,j⟩
end
open Go.RowKit Pl Go.Wk
theorem num44_any(n:Int)(w:World): Ret Tryz.prog 90 [.int .i64 n] w λx w'=>x=(nV n).val/\Ext w w':=by
 refine Jjc Tryz.func90 Tryz.ntmps90 rfl (by kernel_rfl) rfl ?_;refine ρ ?_;refine alc Qml ?_;intro J b j C u;refine ρ ?_;refine bld (bldNum n _) ?_;refine ρ ?_;refine stb u (cs':=(nV n).cells) ?_ (V.one _);intro G o D i;refine ρ ?_;exact Qhj o ⟨rfl,i w j C⟩
theorem of44_any{n:Nat}(hn:n<18446744073709551616)(w:World): Ret Tryz.prog 47 [.int .i64 (n:Int)] w λu w'=>NatV w' u n/\Ext w w':=by
 refine Jjc Tryz.func47 Tryz.ntmps47 rfl (by kernel_rfl) rfl ?_;refine ρ ?_;refine cl (natOf_wrap hn w) ?_;rintro u o ⟨j,i⟩;obtain ⟨D,C,rfl,_⟩:=id j;refine ρ ?_;exact Jjr ⟨j,i⟩
theorem cmpN_zero{n m:Nat}: Qcv n m=0↔n=m:=by
 unfold Qcv;split
 ·constructor
  ·intro h;omega
  ·intro h;omega
 ·split
  ·constructor
   ·intro h;omega
   ·intro h;omega
  ·constructor
   ·intro _;omega
   ·intro _;rfl
theorem is44_any{v:Value}{p n:Nat}{w:World}(hv:NatV w v p)(hn:n<18446744073709551616): Ret Tryz.prog 41 [v,.int .i64 (n:Int)] w λu w'=>u=.bool (decide (p=n))/\Ext w w':=by
 obtain ⟨VA,vc,rfl,_⟩:=id hv;refine Jjc Tryz.func41 Tryz.ntmps41 rfl (by kernel_rfl) rfl ?_;refine ρ ?_;refine cl (of44_any hn w) ?_;rintro u D ⟨o,i⟩;refine ρ ?_;refine cl (Jkw (hv.ext i) o) ?_;rintro _ C ⟨rfl,j⟩;refine ρ ?_;refine Jjr ⟨?_,i.trans j⟩;congr 1
 rw [Bool.eq_iff_iff,beq_iff_eq,decide_eq_true_eq,cmpN_zero]
end Go.Proofs.YtefpailelagbkaaGreatDoor
namespace Go.Wk
open Go.RowKit
structure SF where
 p: Value->World->Prop
 st:∀ {v:Value} {w w':World},p v w->Ext w w'->p v w'
def SF.bk{w:World}{b t:Nat}{cs:List Value}(h:Blk w b t cs): SF:=⟨λv _=>v=.agg cs.toArray,λh _=>h⟩
def SF.eq(c:Value): SF:=⟨λv _=>v=c,λh _=>h⟩
def depB(o:Oper)(k:Nat): Bool:=o.after.any λe=>Region.binds .any e && e.on == k
def accB(l:List Oper): Bool:=(List.range l.length).all λi=>match nth l i with
 | some o=>o.after.all λe=>!Region.binds .any e || Nat.blt e.on i
 | none=>true
def slM(vs:Nat->Value)(al:AL): List Nat->Nat->AL
 | [],_=>al
 | d::r,i=>(d,vs i)::slM vs al r (i+1)
theorem lk_slM_no{vs:Nat->Value}{al:AL}{t:Nat}: ∀ {ds:List Nat} {i:Nat},t ∉ ds->lk (slM vs al ds i) t=lk al t
 | [],_,_=>rfl
 | d::r,i,h=>by
  unfold slM;rw [Jff _ _ (λe=>h (by rw [e];exact mC ..))];exact lk_slM_no λh'=>h (List.mem_cons_of_mem _ h')
theorem lk_slM_at{vs:Nat->Value}{al:AL}: ∀ {ds:List Nat} {i j:Nat},ds.Nodup->j<ds.length->lk (slM vs al ds i) (ds.getD j 0)=some (vs (i+j))
 | [],_,_,_,h=>by simp at h
 | d::r,i,0,_,_=>by unfold slM;simp [Jfg]
 | d::r,i,j+1,hn,hj=>by
  have hn':=List.nodup_cons.1 hn;have hj':j<r.length:=by simpa using hj
  unfold slM;have e:(d::r).getD (j+1) 0=r.getD j 0:=by simp
  rw [e];have hm:r.getD j 0∈r:=by rw [List.getD_eq_getElem?_getD,List.getElem?_eq_getElem hj'];exact List.getElem_mem hj'
  rw [Jff _ _ (λe=>hn'.1 (by rw [e];exact hm)),lk_slM_at hn'.2 hj'];congr 2;omega
theorem mem_getD{ds:List Nat}{t:Nat}(h:t∈ds): ∃ j,j<ds.length/\ds.getD j 0=t:=by
 obtain ⟨j,i,e⟩:=List.getElem_of_mem h;exact ⟨j,i,by rw [List.getD_eq_getElem?_getD,List.getElem?_eq_getElem i];exact e⟩
section
variable {P:Program} {n:Nat} {al:AL} {w:World} {Q:Exit->Act->World->Prop} {ops:Array Oper}
def toM(G:Act->World->Prop): Exit->Act->World->Prop
 | .normal,a,w=>G a w
 | _,_,_=>False
theorem wpOp_of_M{i:Nat}{o:Oper}{G:Act->World->Prop}(ho:ops[i]?=some o)(h:WL P n ops (toM G) [o] al w): ∀ a,Fr n al a->wpOp P ops (QF Q) i G a w:=λa D=>by
 have j:=h a D;unfold wpList at j;unfold wpOp;simp only [ho];have u:¬ LetsOut (toM G):=by rintro ⟨a,w,h⟩;exact h
 split
 ·rename_i hw;simp only [hw,if_true]at j;rcases j with j|⟨_,j⟩
  ·left
   refine Oper.wp_mono (K:=wpList P ops (toM G) []) (λO w' J=>J) ?_;unfold Oper.wp at j ⊢;exact Jxc (Q:=toM G) (λc a w C=>C.elim) (λC=>absurd C u) j
  ·exact absurd j u
 ·rename_i hw;simp only [hw]at j;exact j
def PM(n:Nat)(al:AL)(w:World)(d:Nat)(F:SF)(a:Act)(w':World): Prop:=∃ v,Fr n ((d,v)::al) a/\Ext w w'/\F.p v w'
theorem mdone{w':World}{d:Nat}{v:Value}{F:SF}(hx:Ext w w')(h:F.p v w'): QX n (toM (PM n al w d F)) .normal ((d,v)::al) w':=λa i=>⟨v,i,hx,h⟩
def fiM(Fs:List SF)(k:Nat)(v:Value)(w:World): Prop:=(Fs.getD k ⟨λ_ _=>True,λ_ _=>trivial⟩).p v w
theorem fiM.ext{Fs:List SF}{k:Nat}{v:Value}{w w':World}(h:fiM Fs k v w)(hx:Ext w w'): fiM Fs k v w':=SF.st _ h hx
def OpM(P:Program)(n:Nat)(ops:Array Oper)(al:AL)(w0:World)(ds:List Nat)(Fs:List SF)(i:Nat)(o:Oper): Prop :=
 ∀ vs w1,Ext w0 w1->(∀ k,depB o k=true->fiM Fs k (vs k) w1)->WL P n ops (toM (PM n (slM vs al ds 0) w1 (ds.getD i 0) (Fs.getD i ⟨λ_ _=>True,λ_ _=>trivial⟩))) [o] (slM vs al ds 0) w1
def GoM(P:Program)(n:Nat)(ops:Array Oper)(al:AL)(w0:World)(ds:List Nat)(Fs:List SF): Nat->Nat->List Oper->Prop
 | 0,_,_=>True
 | _+1,_,[]=>True
 | m+1,i,o::r=>OpM P n ops al w0 ds Fs i o/\GoM P n ops al w0 ds Fs m (i+1) r
theorem GoM.get{w0:World}{ds:List Nat}{Fs:List SF}: ∀ {l:List Oper} {m s i:Nat} {o:Oper},GoM P n ops al w0 ds Fs m s l->i<m->l[i]?=some o->OpM P n ops al w0 ds Fs (s+i) o
 | [],_,_,_,_,_,_,h=>by simp at h
 | x::r,0,_,_,_,_,h0,_=>by omega
 | x::r,m+1,s,0,o,h,_,e=>by
  simp only [List.getElem?_cons_zero,Option.some.injEq]at e;subst e;exact h.1
 | x::r,m+1,s,i+1,o,h,h0,e=>by
  have:=GoM.get h.2 (by omega:i<m) (by simpa using e);rwa [show s+(i+1)=s+1+i by omega]
theorem gmc{w0:World}{ds:List Nat}{Fs:List SF}{m i:Nat}{o:Oper}{r:List Oper}(h:∀ vs w1,Ext w0 w1->(∀ k,(hk:depB o k=true:=by kernel_rfl)->fiM Fs k (vs k) w1)->WL P n ops (toM (PM n (slM vs al ds 0) w1 (ds.getD i 0) (Fs.getD i ⟨λ_ _=>True,λ_ _=>trivial⟩))) [o] (slM vs al ds 0) w1)(h2:GoM P n ops al w0 ds Fs m (i+1) r): GoM P n ops al w0 ds Fs (m+1) i (o::r):=⟨h,h2⟩
theorem gme{w0:World}{ds:List Nat}{Fs:List SF}{i:Nat}{r:List Oper}: GoM P n ops al w0 ds Fs 0 i r:=trivial
def ndB: List Nat->Bool
 | []=>true
 | d::r=>!(r.any λx=>Nat.beq d x) && ndB r
theorem ndB_spec: ∀ {ds:List Nat},ndB ds=true->ds.Nodup
 | [],_=>List.nodup_nil
 | d::r,h=>by
  simp only [ndB,Bool.and_eq_true,Bool.not_eq_true']at h;refine List.nodup_cons.2 ⟨λhm=>?_,ndB_spec h.2⟩;have:=List.any_eq_false.1 h.1 d hm;simp at this
def behB(ops:Array Oper)(F m q:Nat): Bool:=(List.range ops.size).all λi=>Nat.blt i m || (List.range m).all λj=>Nat.beq j q || Jnf ops F i j
theorem lst_get(m k i:Nat): (lst m k)[i]?=if i<m then some (Nat.blt i k) else none:=by
 unfold lst;by_cases h:i<m
 ·simp [h]
 ·simp [h]
theorem wpAnyC_M{T:Nat->Bool}{l:List Oper}{w0:World}{m q F fuel':Nat}{ds:List Nat}{Fs:List SF}(hml:m<=l.length)(hacc:accB l=true)(hbeh:behB l.toArray F m q=true)(hnd:ndB ds=true)(hlen:ds.length=m)(hfree:∀ d∈ds,lk al d=none)(hop:GoM P n l.toArray al w0 ds Fs m 0 l)(hend:∀ vs w1,Ext w0 w1->(∀ k,k<m->fiM Fs k (vs k) w1)->WH P n l.toArray Q T fuel' (lst l.length m) (slM vs al ds 0) w1)(hend2:q<m->∀ vs w1,Ext w0 w1->(∀ k,k<m->k≠q->fiM Fs k (vs k) w1)->WH P n l.toArray Q T (fuel'+1) ((lst l.length m).setIfInBounds q false) (slM vs al ds 0) w1):
  ∀ (us:List Nat) (listed:Array Bool) (a:Act) (w:World),us.Nodup->(∀ k,k<m->(listed.getD k true=false↔k∈us))->(∀ k,m<=k->k<l.length->listed.getD k true=false)->(∀ k∈us,k<m)->listed.size=l.length->Closed l.toArray listed->Fr n al a->Ext w0 w ->
   (∀ k,k<m->k ∉ us->fiM Fs k (a.tmps.getD (ds.getD k 0) undef) w)->Jkx P l.toArray Q T (us.length+fuel') listed a w:=by
 have hN:=ndB_spec hnd;have U:∀ a:Act,Fr n al a->Fr n (slM (λj=>a.tmps.getD (ds.getD j 0) undef) al ds 0) a:=λa ha=>⟨ha.size,ha.defers,λt v h=>by
  by_cases hm:t∈ds
  ·obtain ⟨j,hj,e⟩:=mem_getD hm;rw [<-e,lk_slM_at hN hj]at h;simp only [Nat.zero_add,Option.some.injEq]at h;rw [<-e];exact h
  ·rw [lk_slM_no hm]at h;exact ha.has t v h⟩
 intro us;generalize hL:us.length=L
 induction L generalizing us with
 | zero=>
  intro listed a w hu G a5 Z af a1 ha hx hf;have ai:us=[]:=List.length_eq_zero_iff.1 hL;subst ai;have e:listed=lst l.length m:=by
   refine Array.ext_getElem? λi=>?_;rw [lst_get];by_cases hi:i<l.length
   ·rw [if_pos hi];have J:i<listed.size:=by omega
    by_cases a4:i<m
    ·have D:=G i a4;have C:listed.getD i true=true:=by
      cases hh:listed.getD i true with
      | true=>rfl
      | false=>exact absurd (D.1 hh) (by simp)
     simp [J]at C;simp [J,C,Nat.blt];omega
    ·have C:=a5 i (by omega) hi;simp [J]at C;have h3:Nat.blt i m=false:=by
      cases hh:Nat.blt i m with
      | false=>rfl
      | true=>exact absurd (show i+1<=m by simpa [Nat.blt] using hh) (by omega)
     simp [J,C,h3]
   ·rw [if_neg hi];simp;omega
  rw [Nat.zero_add,e];rw [e]at a1;exact hend _ w hx (λk O=>hf k O (by simp)) a1 a (U a ha)
 | succ L ih=>
  intro listed a w hu G a5 Z af a1 ha hx hf;rw [show L+1+fuel'=(L+fuel')+1 by omega];have ab:us≠[]:=λe=>by rw [e]at hL;cases hL
  by_cases hq:us=[q]
  ·have ah:q<m:=Z q (by rw [hq];simp);have ay:L=0:=by rw [hq]at hL;simpa using hL.symm
   have e:listed=(lst l.length m).setIfInBounds q false:=by
    refine Array.ext_getElem? λi=>?_;by_cases hqi:q=i
    ·subst hqi;have D:=(G q ah).2 (by rw [hq];simp);have C:q<listed.size:=by omega
     simp [C]at D;rw [Array.getElem?_setIfInBounds_self_of_lt (by unfold lst;simp;omega)];simp [C,D]
    ·rw [Array.getElem?_setIfInBounds_ne hqi,lst_get];by_cases hi:i<l.length
     ·rw [if_pos hi];have J:i<listed.size:=by omega
      by_cases a4:i<m
      ·have D:=G i a4;have C:listed.getD i true=true:=by
        cases hh:listed.getD i true with
        | true=>rfl
        | false=>exact absurd (D.1 hh) (by rw [hq];simp;omega)
       simp [J]at C;simp [J,C,Nat.blt];omega
      ·have C:=a5 i (by omega) hi;simp [J]at C;have h3:Nat.blt i m=false:=by
        cases hh:Nat.blt i m with
        | false=>rfl
        | true=>exact absurd (show i+1<=m by simpa [Nat.blt] using hh) (by omega)
       simp [J,C,h3]
     ·rw [if_neg hi];simp;omega
   rw [ay,e,show 0+fuel'+1=fuel'+1 by omega];rw [e]at a1;exact hend2 ah _ w hx (λk O aq=>hf k O (by rw [hq];simpa using aq)) a1 a (U a ha)
  obtain ⟨k0,a3,ak⟩:∃ k,k∈us/\k≠q:=by
   refine Classical.byContradiction λap=>?_;have U:∀ k∈us,k=q:=λk O=>Classical.byContradiction λh=>ap ⟨k,O,h⟩;apply hq
   match us,hu,ab,U with
   | [x],_,_,h=>rw [h x (by simp)]
   | x::y::r,hu,_,h=>
    have D:=h x (by simp);have C:=h y (by simp);rw [D,C]at hu;simp at hu
  refine ⟨λhr=>?_,λi hi=>?_⟩
  ·exfalso
   obtain ⟨k,O,aj⟩:∃ k,k∈us/\∀ j,j<k->j ∉ us:=by
    have:∀ s k,k∈us->k<s->∃ k,k∈us/\∀ j,j<k->j ∉ us:=by
     intro s;induction s with
     | zero=>intro k _ h;omega
     | succ s ihs=>
      intro k O az;by_cases h:∃ j,j<k/\j∈us
      ·obtain ⟨j,hj,ae⟩:=h;exact ihs j ae (by omega)
      ·exact ⟨k,O,λj hj ae=>h ⟨j,hj,ae⟩⟩
    exact this (k0+1) k0 a3 (by omega)
   have a2:=Z k O;have au:=(G k a2).2 O;have ac:k<l.length:=by omega
   have ag:k∈Region.ready .any l.toArray listed:=by
    refine mem_ready.2 ⟨au,l[k],by simp [ac],λe he hb=>?_⟩;have D:=List.all_eq_true.1 hacc k (List.mem_range.2 ac);have hn:nth l k=some l[k]:=by rw [Jxj];simp [ac]
    rw [hn]at D;simp only [Array.all_eq_true_iff_forall_mem,Bool.or_eq_true,Bool.not_eq_true']at D;have C:=(D e he).resolve_left (by rw [hb];simp);have h3:e.on<k:=by (have:e.on+1<=k:=by simpa [Nat.blt] using C);(omega)
    have h4:=aj _ h3;have h5:listed.getD e.on true=true:=by
     cases hh:listed.getD e.on true with
     | true=>rfl
     | false=>exact absurd ((G _ (by omega)).1 hh) h4
    have h6:e.on<listed.size:=by omega
    simp [h6]at h5 ⊢;exact h5
   rw [hr]at ag;cases ag
  ·obtain ⟨ao,o,ho,am⟩:=mem_ready.1 hi;have aa:l[i]?=some o:=by simpa using ho
   have aw:i<l.length:=(List.getElem?_eq_some_iff.1 aa).1;have a7:i<m:=by
    rcases Nat.lt_or_ge i m with h|h
    ·exact h
    ·exfalso
     have D:=List.all_eq_true.1 hbeh i (List.mem_range.2 (by simpa using aw));simp only [Bool.or_eq_true]at D;have C:=D.resolve_left (by
      intro hh;have:i+1<=m:=by simpa [Nat.blt] using hh
      omega)
     have an:=List.all_eq_true.1 C k0 (List.mem_range.2 (Z k0 a3));simp only [Bool.or_eq_true]at an;have h3:=an.resolve_left λhh=>ak (Nat.eq_of_beq_eq_true hh);have h4:=Jwn a1 F i k0 o ho (Jwm ho hi) h3;have h5:=(G k0 (Z k0 a3)).2 a3;have h6:k0<listed.size:=by have:=Z k0 a3;omega
     simp [h6]at h4 h5;rw [h4]at h5;cases h5
   have a4:=(G i a7).1 ao;have hO:=GoM.get hop a7 aa;rw [Nat.zero_add]at hO;have hW:=hO (λj=>a.tmps.getD (ds.getD j 0) undef) w hx λk O=>by
    unfold depB at O;rw [Array.any_eq_true']at O;obtain ⟨e,he,D⟩:=O;simp only [Bool.and_eq_true,beq_iff_eq]at D;have C:=am e he D.1;rw [D.2]at C;have h3:k<listed.size:=by
     rcases Nat.lt_or_ge k listed.size with h'|h'
     ·exact h'
     ·simp [Array.getElem?_eq_none h']at C
    have a2:k<m:=by
     rcases Nat.lt_or_ge k m with h|h
     ·exact h
     ·have h4:=a5 k h (by omega);simp [h3]at C h4;rw [C]at h4;cases h4
    refine hf k a2 λad=>?_;have h4:=(G k a2).2 ad;simp [h3]at C h4;rw [C]at h4;cases h4
   have D:=wpOp_of_M (Q:=Q) (ops:=l.toArray) (by simpa using aa) hW a (U a ha);refine wpOp_mono (λa' w' h=>?_) D;obtain ⟨v,a6,a8,hF⟩:=h;have ax:lk ((ds.getD i 0,v)::slM (λj=>a.tmps.getD (ds.getD j 0) undef) al ds 0) (ds.getD i 0)=some v:=Jfg _ _ _;have av:ds.getD i 0∈ds:=by rw [List.getD_eq_getElem?_getD,List.getElem?_eq_getElem (by omega)];exact List.getElem_mem _
   refine ⟨λ_=>a8,ih (us.erase i) (by rw [List.length_erase_of_mem a4,hL];omega) _ a' w' (hu.erase i) (λk a2=>?_) (λk D C=>?_) (λk O=>Z k (hu.mem_erase_iff.1 O).2) (by simp [af]) (a1.step hi) ?_ (hx.trans a8) λk O ad=>?_⟩
   ·by_cases e:i=k
    ·subst e;have:i<listed.size:=by omega
     simp only [hu.mem_erase_iff];simp [this]
    ·rw [getD_set_ne true e,G k a2,hu.mem_erase_iff];exact ⟨λh=>⟨λh'=>e h'.symm,h⟩,λh=>h.2⟩
   ·rw [getD_set_ne true (by omega)];exact a5 k D C
   ·refine ⟨a6.size,a6.defers,λt u a9=>?_⟩;have hm:t ∉ ds:=λhm=>by rw [hfree t hm]at a9;cases a9
    exact a6.has t u (by rw [Jff _ _ (λe=>hm (by rw [<-e];exact av)),lk_slM_no hm];exact a9)
   ·by_cases e:k=i
    ·subst e;rw [a6.has _ _ ax];exact hF
    ·have ar:k ∉ us:=λh=>ad (hu.mem_erase_iff.2 ⟨e,h⟩);have ab:ds.getD i 0≠ds.getD k 0:=λh=>by
      have D:=lk_slM_at (vs:=λj=>Value.int .i64 (j:Int)) (al:=[]) (i:=0) hN (j:=i) (by omega);have C:=lk_slM_at (vs:=λj=>Value.int .i64 (j:Int)) (al:=[]) (i:=0) hN (j:=k) (by omega);rw [h,C]at D;simp only [Nat.zero_add,Option.some.injEq,Value.int.injEq,true_and]at D;omega
     have h3:=a6.has (ds.getD k 0) _ (by rw [Jff _ _ ab];exact lk_slM_at hN (by omega));simp only [Nat.zero_add]at h3;rw [h3];exact (hf k O ar).ext a8
theorem hmkq{T:Nat->Bool}{l:List Oper}(m q F fuel':Nat)(ds:List Nat)(Fs:List SF)(hc:(accB l && behB l.toArray F m q && ndB ds && Nat.beq ds.length m && Nat.beq (m+fuel') l.length)=true)(hfree:(ds.all λd=>(lk al d).isNone)=true)(hop:GoM P n l.toArray al w ds Fs m 0 l)(hend:∀ vs w1,Ext w w1->(∀ k,(hk:k<m:=by decide)->fiM Fs k (vs k) w1)->WH P n l.toArray Q T fuel' (lst l.length m) (slM vs al ds 0) w1)(hend2:q<m->∀ vs w1,Ext w w1->(∀ k,(hk:k<m:=by decide)->(hq:k≠q:=by decide)->fiM Fs k (vs k) w1)->WH P n l.toArray Q T (fuel'+1) ((lst l.length m).setIfInBounds q false) (slM vs al ds 0) w1): WH P n l.toArray Q T l.toArray.size (Array.replicate l.toArray.size false) al w:=λo a D=>by
 simp only [Bool.and_eq_true]at hc;obtain ⟨⟨⟨⟨Z,U⟩,O⟩,J⟩,G⟩:=hc;have u:ds.length=m:=Nat.eq_of_beq_eq_true J;have i:m+fuel'=l.length:=Nat.eq_of_beq_eq_true G;have:=wpAnyC_M (Q:=Q) (T:=T) (F:=F) (q:=q) (fuel':=fuel') (by omega) Z U O u (λd C=>by simpa using List.all_eq_true.1 hfree d C) hop hend hend2 (List.range m) (Array.replicate l.length false) a w List.nodup_range (λk hk=>?_) (λk _ h=>by simp [h]) (λk hk=>List.mem_range.1 hk) (by simp) (by simpa using o) D (Ext.refl w) λk hk j=>absurd (List.mem_range.2 hk) j
 ·rw [List.length_range,i]at this;simpa using this
 ·have:k<l.length:=by omega
  simp [this,hk]
theorem hmk{T:Nat->Bool}{l:List Oper}(m F fuel':Nat)(ds:List Nat)(Fs:List SF)(hc:(accB l && behB l.toArray F m m && ndB ds && Nat.beq ds.length m && Nat.beq (m+fuel') l.length)=true)(hfree:(ds.all λd=>(lk al d).isNone)=true)(hop:GoM P n l.toArray al w ds Fs m 0 l)(hend:∀ vs w1,Ext w w1->(∀ k,(hk:k<m:=by decide)->fiM Fs k (vs k) w1)->WH P n l.toArray Q T fuel' (lst l.length m) (slM vs al ds 0) w1): WH P n l.toArray Q T l.toArray.size (Array.replicate l.toArray.size false) al w :=
 hmkq m m F fuel' ds Fs hc hfree hop hend λh=>absurd h (Nat.lt_irrefl m)
end
end Go.Wk
