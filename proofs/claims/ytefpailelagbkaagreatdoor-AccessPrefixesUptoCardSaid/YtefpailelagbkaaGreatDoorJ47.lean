/- Part 47 of the proof: LwA, Open, OpE, LwB, LwC, LwDW. -/
import Derived.Test.YtefpailelagbkaaGreatDoorJ46
import Derived.ProofKit
import Derived.OpenShut
import Derived.ShutString
import Derived.ChangeOld
import Derived.Deep.Slices
import Derived.Deep.Fields
import Derived.Test.YtefpailelagbkaaGreatDoorRows
import Derived.LaidSub
import Derived.Lib.LaidTab
set_option linter.unusedVariables false
set_option maxRecDepth 100000
set_option maxHeartbeats 40000000
namespace Go.Proofs.YtefpailelagbkaaGreatDoor
open Go.RowKit Pl Go.Wk
attribute [local irreducible] WC WL QX WD WDB WP WN WG WH WM
theorem RowsV.one{w:World}{A:Option Addr}{n c:Nat}{L:List Row}(h:RowsV w (.slice A n c) L){i:Nat}(hi:i<L.length): ∃ (v:Value) (cs:List Value),Rd w 1 A n cs/\n=L.length/\cs[i]?=some v/\RowV w v (L.getD i []):=by
 obtain ⟨LA,lc,e,_,_,cs,hR,hE⟩:=h.parts;injection e with e1 e2 e3
 subst e1;subst e2;obtain ⟨v,hv,hr⟩:=hE i hi;exact ⟨v,cs,hR,rfl,hv,hr⟩
theorem natOf_wrap{i:Nat}(h:i<18446744073709551616)(w:World): Ret Tryz.prog 18 [.int .u64 (IntKind.u64.wrap (i:Int))] w λv w'=>NatV w' v i/\Ext w w':=by
 rw [Qpt (z:=(i:Int)) (by omega)];exact (Jzf i h w).mono λv w' h=>⟨h.1,h.2.2⟩
theorem getD_some{L:List Row}{i:Nat}(h:i<L.length): L[i]?=some (L.getD i []):=by simp [List.getD,List.getElem?_eq_getElem h]
end Go.Proofs.YtefpailelagbkaaGreatDoor
namespace Go.Wk
open Go.RowKit Go.ChangeShapes Go.WideShapes
section
variable {H:Type} {enc:TypeId×Value->H} {P:Program} {w:World} {base:Nat} {spare:Nat->Bool} {held:Bool}
theorem rd_of{A:Option Addr}{sz len:Nat}{cs:List Value}{ad:Addr}(hA:A=some ad)(hl:cs.length=len*sz)(hc:∀ j u,cs[j]?=some u->w.cell? (ad.add j)=some u): Rd w sz A len cs :=
 ⟨hl,λh0=>⟨ad,hA,by
  have h1:=hc 0 cs[0] (List.getElem?_eq_getElem h0);rw [add_zero]at h1;exact World.block_lt_of_cell? w ad h1,hc⟩⟩
theorem flatMap_one{α:Type}(f:α->Value)(l:List α): l.flatMap (λz=>[f z])=l.map f:=by induction l<;>simp_all
end
end Go.Wk
namespace Go.Proofs.YtefpailelagbkaaGreatDoor
open Go.RowKit Pl Go.Wk Go.ChangeShapes Go.WideShapes
theorem bulk_one{H:Type}(d:DataW H): 1<=Rows.uptoBulk d:=by
 cases d with
 | lit l=>cases l<;>simp [Rows.uptoBulk]
 | nil=>simp [Rows.uptoBulk]
 | ptr d=>simp [Rows.uptoBulk]
 | slice elems spare=>simp [Rows.uptoBulk]
 | agg parts=>simp [Rows.uptoBulk]
 | iface t d=>simp [Rows.uptoBulk]
 | map entries=>simp [Rows.uptoBulk]
 | held h=>simp [Rows.uptoBulk]
theorem bulk_part{H:Type}{d:DataW H}{l:List (DataW H)}(h:d∈l): Rows.uptoBulk d<=Rows.uptoBulkAll l:=by
 induction l with
 | nil=>cases h
 | cons x r ih=>
  simp only [Rows.uptoBulkAll];cases List.mem_cons.1 h with
  | inl e=>subst e;omega
  | inr e=>have:=ih e;omega
theorem bulk_len{H:Type}(l:List (DataW H)): l.length<=Rows.uptoBulkAll l:=by
 induction l with
 | nil=>simp [Rows.uptoBulkAll]
 | cons x r ih=>have:=bulk_one x;simp only [Rows.uptoBulkAll,List.length_cons];omega
section
variable {H:Type} {enc:TypeId×Value->H} {P:Program} {w:World} {base:Nat} {spare:Nat->Bool} {held:Bool} {B:Nat}
theorem open_elemsB{α:Type}{t e sz:Nat}{fuel:Nat}{cs:List Value}{x:DataW H×List MemPlace}(X:α->List Value)(R:α->Prop)(ht:P.underlying t=some (.slice e))(hc:P.cellsOf e=sz)(hb:Rows.uptoBulk x.1<=B)(hX:∀ (n:Nat) (cs':List Value) (y:DataW H×List MemPlace),DataW.trod enc P w base spare held n e cs'=some y->Rows.uptoBulk y.1<=B->∃ z:α,cs'=X z/\R z)(h:DataW.trod enc P w base spare held fuel t cs=some x): ∃ (l:List α) (A:Option Addr) (cap:Nat),cs=[.slice A l.length cap]/\Rd w sz A l.length (l.flatMap X)/\(∀ z∈l,R z)/\l.length<=cap/\l.length<=B:=by
 rcases Go.Deep.open_slice ht h with ⟨hcs,_⟩|⟨a,len,cap,m,n,D,Pl,hcs,_,hl,hm,hmm,hx,hel⟩
 ·exact ⟨[],none,0,hcs,Rd.nil,(λz hz=>by cases hz),Nat.le_refl _,Nat.zero_le _⟩
 ·subst hcs;subst hx;have hlm:len<=m:=by rw [hmm];split<;>omega
  have hbl:Rows.uptoBulkAll ((List.range len).map D)<=B:=by
   simp only [Rows.uptoBulk]at hb;omega
  have hlB:len<=B:=by
   have:=bulk_len ((List.range len).map D);simp at this;omega
  have key:∀ k,k<=len->∃ l:List α,l.length=k/\(l.flatMap X).length=k*sz/\(∀ j u,(l.flatMap X)[j]?=some u->w.cell? (a.add j)=some u)/\∀ z∈l,R z:=by
   intro k;induction k with
   | zero=>intro _;exact ⟨[],rfl,by simp,(λj u hu=>by simp at hu),(λz hz=>by cases hz)⟩
   | succ k ih=>
    intro hk;obtain ⟨l,h1,h2,h3,h4⟩:=ih (by omega);obtain ⟨cs',hcs',htr⟩:=hel k (by omega);have hDk:D k∈(List.range len).map D:=List.mem_map.2 ⟨k,List.mem_range.2 (by omega),rfl⟩;obtain ⟨z,rfl,hz⟩:=hX n cs' _ htr (Nat.le_trans (bulk_part hDk) hbl);rw [hc]at hcs';obtain ⟨_,hlen,hat⟩:=World.cells?_some hcs';refine ⟨l++[z],by simp [h1],?_,?_,?_⟩
    ·rw [List.flatMap_append,List.length_append,h2];simp only [List.flatMap_cons,List.flatMap_nil,List.append_nil,hlen,Nat.add_mul,Nat.one_mul]
    ·intro j u hu;rw [List.flatMap_append]at hu;simp only [List.flatMap_cons,List.flatMap_nil,List.append_nil]at hu;rcases Nat.lt_or_ge j (k*sz) with hj|hj
     ·rw [List.getElem?_append_left (by omega)]at hu;exact h3 j u hu
     ·rw [List.getElem?_append_right (by omega),h2]at hu;have hb:j-k*sz<sz:=by have:=(List.getElem?_eq_some_iff.1 hu).1;omega
      have:=hat (j-k*sz) hb;rw [Qpb]at this;rw [show k*sz+(j-k*sz)=j by omega]at this;rw [this,hu]
    ·intro z' hz';rcases List.mem_append.1 hz' with h'|h'
     ·exact h4 z' h'
     ·simp at h';subst h';exact hz
  obtain ⟨l,h1,h2,h3,h4⟩:=key len (Nat.le_refl _);subst h1;exact ⟨l,some a,cap,rfl,rd_of rfl h2 h3,h4,hl,hlB⟩
end
section
variable {H:Type} {enc:TypeId×Value->H} {w:World} {base b0:Nat} {spare:Nat->Bool} {held:Bool}
theorem open_value{n:Nat}{cs:List Value}{y:DataW H×List MemPlace}(h:DataW.trod enc Tryz.prog w base spare held n 71 cs=some y): ∃ v:V,cs=v.cells/\Qwc v:=by
 obtain ⟨xs,m,_,_,hlen,hxl,hf⟩:=DataW.trod_struct Tryz.underlying71 h;have hl3:cs.length=3:=by rw [hlen];kernel_rfl
 have hx3:xs.length=3:=hxl;match cs,hl3 with
 | [c0,c1,c2],_=>
  have f0:DataW.trod enc Tryz.prog w base spare held m 3 (([c0,c1,c2].drop 0).take (Tryz.prog.cellsOf 3))=xs[0]?:=hf 0 _ rfl;have f1:DataW.trod enc Tryz.prog w base spare held m 2 (([c0,c1,c2].drop 1).take (Tryz.prog.cellsOf 2))=xs[1]?:=hf 1 _ rfl;have f2:DataW.trod enc Tryz.prog w base spare held m 9 (([c0,c1,c2].drop 2).take (Tryz.prog.cellsOf 9))=xs[2]?:=hf 2 _ rfl;rw [show Tryz.prog.cellsOf 3=1 by kernel_rfl,List.getElem?_eq_getElem (by omega)]at f0;rw [show Tryz.prog.cellsOf 2=1 by kernel_rfl,List.getElem?_eq_getElem (by omega)]at f1;rw [show Tryz.prog.cellsOf 9=1 by kernel_rfl,List.getElem?_eq_getElem (by omega)]at f2;obtain ⟨k,e0,_,wk⟩:=DataW.trod_int Tryz.underlying3 f0;obtain ⟨i,e1,_,wi⟩:=DataW.trod_int Tryz.underlying2 f1;obtain ⟨s,e2,_,_⟩:=DataW.trod_string Tryz.underlying9 f2;simp at e0 e1 e2;subst e0;subst e1;subst e2;exact ⟨⟨k,i,s⟩,rfl,bounds_i64 wk,bounds_i64 wi⟩
def RowE(w:World)(v:Value)(r:Row): Prop:=RowV w v r/\∀ u∈r,Qwc u
theorem open_rowE{n:Nat}{cs:List Value}{y:DataW H×List MemPlace}(h:DataW.trod enc Tryz.prog w base spare held n 40 cs=some y)(hb:Rows.uptoBulk y.1<=1048576): ∃ p:Pr,cs=[p.1]/\RowE w p.1 p.2:=by
 obtain ⟨l,A,cap,e,h1,h2,h3,h4⟩:=open_elemsB (sz:=3) V.cells Qwc Tryz.underlying40 (by kernel_rfl) hb (λn cs' y hy _=>open_value hy) h;have hm:l.length<=1100000:=by omega
 exact ⟨(.slice A l.length cap,l),e,⟨A,cap,rfl,h3,hm,h1⟩,h2⟩
def RowsE(w:World)(v:Value)(ls:List Row): Prop:=RowsV w v ls/\∀ r∈ls,∀ u∈r,Qwc u
theorem open_rowsE{n:Nat}{cs:List Value}{y:DataW H×List MemPlace}(h:DataW.trod enc Tryz.prog w base spare held n 35 cs=some y)(hb:Rows.uptoBulk y.1<=1048576): ∃ p:Value×List Row,cs=[p.1]/\RowsE w p.1 p.2:=by
 obtain ⟨ps,A,cap,e,h1,h2,h3,h4⟩:=open_elemsB (sz:=1) (λp:Pr=>[p.1]) (λp=>RowE w p.1 p.2) Tryz.underlying35 (by kernel_rfl) hb (λn cs' y hy hb=>open_rowE hy hb) h;rw [flatMap_one]at h1;exact ⟨(.slice A ps.length cap,ps.map (·.2)),e,⟨ps,A,cap,rfl,rfl,h3,by omega,h1,λp hp=>(h2 p hp).1⟩,λr hr u hu=>by
  obtain ⟨p,hp,rfl⟩:=List.mem_map.1 hr;exact (h2 p hp).2 u hu⟩
theorem getD_map{α β:Type}(f:α->β)(l:List α)(a:α)(b:β){i:Nat}(h:i<l.length): (l.map f).getD i b=f (l.getD i a):=by simp [List.getD,List.getElem?_eq_getElem h]
theorem open_rowssE{n:Nat}{cs:List Value}{y:DataW H×List MemPlace}(h:DataW.trod enc Tryz.prog w base spare held n 25 cs=some y)(hb:Rows.uptoBulk y.1<=1048576):
  ∃ (A:Option Addr) (c:Nat) (rss:List (List Row)),cs=[.slice A rss.length c]/\RowssV w (.slice A rss.length c) rss/\∀ i,i<rss.length->∀ r∈rss.getD i [],∀ u∈r,Qwc u:=by
 obtain ⟨ps,A,cap,e,h1,h2,h3,h4⟩:=open_elemsB (sz:=1) (λp:Value×List Row=>[p.1]) (λp=>RowsE w p.1 p.2) Tryz.underlying25 (by kernel_rfl) hb (λn cs' y hy hb=>open_rowsE hy hb) h;rw [flatMap_one]at h1;have hl:(ps.map (·.2)).length=ps.length:=List.length_map _
 have hg:∀ i,i<ps.length->(ps.map (·.2)).getD i []=(ps.getD i (.bool false,[])).2:=λi hi=>getD_map (·.2) ps (.bool false,[]) [] hi
 refine ⟨A,cap,ps.map (·.2),by rw [hl];exact e,⟨A,cap,ps.map (·.1),rfl,by omega,by omega,by rw [hl];exact h1,λi hi=>?_⟩,λi hi=>?_⟩
 ·have hi':i<ps.length:=by omega
  rw [hg i hi'];exact ⟨(ps.getD i (.bool false,[])).1,by simp [List.getD,List.getElem?_eq_getElem hi'],(h2 _ (getD_mem' _ _ hi')).1⟩
 ·have hi':i<ps.length:=by omega
  rw [hg i hi'];exact (h2 _ (getD_mem' _ _ hi')).2
theorem open_intsE{n:Nat}{cs:List Value}{y:DataW H×List MemPlace}(h:DataW.trod enc Tryz.prog w base spare held n 23 cs=some y)(hb:Rows.uptoBulk y.1<=1048576): ∃ p:Value×List Int,cs=[p.1]/\IntsV w p.1 p.2/\∃ A c,p.1=.slice A p.2.length c:=by
 obtain ⟨l,A,cap,e,h1,h2,h3,h4⟩:=open_elemsB (sz:=1) (λz:Int=>[Value.int .i64 z]) (λ_=>True) Tryz.underlying23 (by kernel_rfl) hb (λn cs' y hy _=>by obtain ⟨z,e,_,_⟩:=DataW.trod_int Tryz.underlying3 hy;exact ⟨z,e,trivial⟩) h;rw [flatMap_one]at h1;have hm:l.length<=1100000:=by omega
 exact ⟨(.slice A l.length cap,l),e,⟨A,cap,rfl,h3,hm,h1⟩,A,cap,rfl⟩
theorem open_intssE{n:Nat}{cs:List Value}{y:DataW H×List MemPlace}(h:DataW.trod enc Tryz.prog w base spare held n 24 cs=some y)(hb:Rows.uptoBulk y.1<=1048576):
  ∃ (A:Option Addr) (c:Nat) (zss:List (List Int)),cs=[.slice A zss.length c]/\IntssV w (.slice A zss.length c) zss:=by
 obtain ⟨ps,A,cap,e,h1,h2,h3,h4⟩:=open_elemsB (sz:=1) (λp:Value×List Int=>[p.1]) (λp=>IntsV w p.1 p.2) Tryz.underlying24 (by kernel_rfl) hb (λn cs' y hy hb=>by obtain ⟨p,e,hp,_⟩:=open_intsE hy hb;exact ⟨p,e,hp⟩) h;rw [flatMap_one]at h1;have hl:(ps.map (·.2)).length=ps.length:=List.length_map _
 refine ⟨A,cap,ps.map (·.2),by rw [hl];exact e,⟨A,cap,ps.map (·.1),rfl,by omega,by omega,by rw [hl];exact h1,λi hi=>?_⟩⟩
 have hi':i<ps.length:=by omega
 rw [getD_map (·.2) ps (.bool false,[]) [] hi']
 exact ⟨(ps.getD i (.bool false,[])).1,by simp [List.getD,List.getElem?_eq_getElem hi'],h2 _ (getD_mem' _ _ hi')⟩
theorem open_boolsE{n:Nat}{cs:List Value}{y:DataW H×List MemPlace}(h:DataW.trod enc Tryz.prog w base spare held n 22 cs=some y)(hb:Rows.uptoBulk y.1<=1048576): ∃ (A:Option Addr) (c:Nat) (l:List Bool),cs=[.slice A l.length c]/\BoolsV w (.slice A l.length c) l:=by
 obtain ⟨l,A,cap,e,h1,h2,h3,h4⟩:=open_elemsB (sz:=1) (λz:Bool=>[Value.bool z]) (λ_=>True) Tryz.underlying22 (by kernel_rfl) hb (λn cs' y hy _=>by obtain ⟨z,e,_⟩:=DataW.trod_bool Tryz.underlying4 hy;exact ⟨z,e,trivial⟩) h;rw [flatMap_one]at h1;exact ⟨A,cap,l,e,⟨A,cap,rfl,h3,by omega,h1⟩⟩
def CaseE(w:World)(v:Value): Prop:=∃ (cs:List Value) (c:Cse),v=.agg cs.toArray/\CseV w cs c/\∀ i,i<c.rss.length->∀ r∈c.rss.getD i [],∀ u∈r,Qwc u
theorem open_case{v:Value}{d:DataW H}{p:List MemPlace}(hv:Value.okWide Tryz.prog w .any b0 27 v)(h:DataW.Trod enc Tryz.prog w base spare held 27 v d p)(hb:Rows.uptoBulk d<=1048576): CaseE w v:=by
 simp only [Value.okWide,Tryz.underlying27]at hv;obtain ⟨cs,rfl,h2,_⟩:=hv;rw [show Tryz.prog.cellsOf 27=6 by kernel_rfl]at h2;obtain ⟨l⟩:=cs;obtain ⟨fuel,h⟩:=h;match l,h2 with
 | [c0,c1,c2,c3,c4,c5],_=>
  obtain ⟨xs,m,_,hx,hlen,hxl,hf⟩:=DataW.trod_struct Tryz.underlying27 h;have hx6:xs.length=6:=hxl;injection hx with hx _
  subst hx;have hB:∀ i (hi:i<xs.length),Rows.uptoBulk xs[i].1<=1048576:=λi hi=>by
   have h1:xs[i].1∈xs.map (·.1):=List.mem_map.2 ⟨xs[i],List.getElem_mem hi,rfl⟩
   have h2:=bulk_part h1;simp only [Rows.uptoBulk]at hb;omega
  have f0:DataW.trod enc Tryz.prog w base spare held m 3 (([c0,c1,c2,c3,c4,c5].drop 0).take (Tryz.prog.cellsOf 3))=xs[0]?:=hf 0 _ rfl;have f1:DataW.trod enc Tryz.prog w base spare held m 3 (([c0,c1,c2,c3,c4,c5].drop 1).take (Tryz.prog.cellsOf 3))=xs[1]?:=hf 1 _ rfl;have f2:DataW.trod enc Tryz.prog w base spare held m 22 (([c0,c1,c2,c3,c4,c5].drop 2).take (Tryz.prog.cellsOf 22))=xs[2]?:=hf 2 _ rfl;have f3:DataW.trod enc Tryz.prog w base spare held m 23 (([c0,c1,c2,c3,c4,c5].drop 3).take (Tryz.prog.cellsOf 23))=xs[3]?:=hf 3 _ rfl;have f4:DataW.trod enc Tryz.prog w base spare held m 24 (([c0,c1,c2,c3,c4,c5].drop 4).take (Tryz.prog.cellsOf 24))=xs[4]?:=hf 4 _ rfl;have f5:DataW.trod enc Tryz.prog w base spare held m 25 (([c0,c1,c2,c3,c4,c5].drop 5).take (Tryz.prog.cellsOf 25))=xs[5]?:=hf 5 _ rfl;rw [show Tryz.prog.cellsOf 3=1 by kernel_rfl,List.getElem?_eq_getElem (by omega)]at f0 f1;rw [show Tryz.prog.cellsOf 22=1 by kernel_rfl,List.getElem?_eq_getElem (by omega)]at f2
  rw [show Tryz.prog.cellsOf 23=1 by kernel_rfl,List.getElem?_eq_getElem (by omega)]at f3;rw [show Tryz.prog.cellsOf 24=1 by kernel_rfl,List.getElem?_eq_getElem (by omega)]at f4;rw [show Tryz.prog.cellsOf 25=1 by kernel_rfl,List.getElem?_eq_getElem (by omega)]at f5;obtain ⟨n,e0,_,w0⟩:=DataW.trod_int Tryz.underlying3 f0;obtain ⟨f,e1,_,w1⟩:=DataW.trod_int Tryz.underlying3 f1;obtain ⟨A2,k2,ds,e2,g2⟩:=open_boolsE f2 (hB 2 (by omega));obtain ⟨⟨p3,pm⟩,e3,g3,A3,k3,ep3⟩:=open_intsE f3 (hB 3 (by omega));simp only at ep3 g3 e3;subst ep3;obtain ⟨A4,k4,vs,e4,g4⟩:=open_intssE f4 (hB 4 (by omega));obtain ⟨A5,k5,rss,e5,g5,hfit⟩:=open_rowssE f5 (hB 5 (by omega));simp at e0 e1 e2 e3 e4 e5;subst e0;subst e1;subst e2;subst e3;subst e4;subst e5;exact ⟨_,⟨n,f,ds,pm,vs,rss⟩,rfl,⟨A2,k2,A3,k3,A4,k4,A5,k5,rfl,g2,g3,g4,g5,bounds_i64 w0,bounds_i64 w1⟩,hfit⟩
end
theorem gPow: Tryz.prog.globalNamed "internal/strconv.uint64pow10" = some 1:=by kernel_rfl
theorem gPowT: (Tryz.prog.globals[1]?).map (·.type)=some 307:=by kernel_rfl
theorem tb_of_laid{W:World}(h:laidMetH Tryz.prog Rows.accessAtUptoRow.laid W): TB W.heap.size W:=by
 refine ⟨Nat.le_refl _,Lib.tabBelow_of_tabIs ?_⟩;have h1:=h.filter (λx=>x.1 == "internal/strconv.uint64pow10");exact Lib.tabIs_of_head (rest:=[]) gPow gPowT Tryz.underlying307 Tryz.underlying45 (by kernel_rfl) (by kernel_rfl) h1
def layOn(d:DataW Unit): Obj->Obj
 | .cells _ t z=>.cells (match d with
  | .agg ps=>(ps.map fun
   | .lit (.int k z)=>Value.int k z
   | _=>Value.bool false).toArray
  | _=>#[]) t z
 | o=>o
open Go.RowKit Pl Go.Wk
attribute [local irreducible] WC WL QX WD WDB WP WN WG WH WM
theorem begins_any{va vb:Value}{a b:Row}{w:World}(ha:RowV w va a)(hb:RowV w vb b):
  Ret Tryz.prog 24 [va,vb] w λu w'=>u=.bool (decide (a.take b.length=b))/\Ext w w':=by
 obtain ⟨A,ac,rfl,hac,ham,hA⟩:=id ha;obtain ⟨C,bc,rfl,hbc,hbm,hC⟩:=id hb;refine Jjb Tryz.func24 Tryz.ntmps24 rfl (by kernel_rfl) rfl ?_;refine ρ ?_;refine ki 10 (λh=>?_) (λh=>?_)
 ·have hl:b.length<=a.length:=by have:=of_decide_eq_true h;omega
  clear h;refine ρ ?_;refine slh b.length ?_;refine ρ ?_;have hT:RowV w (.slice A b.length ac) (a.take b.length):=by
   have e:(a.take b.length).length=b.length:=by rw [List.length_take];omega
   refine ⟨A,ac,by rw [e],by omega,by omega,?_⟩;have:=Rd.take hA (m:=b.length) hl;rw [Qqd a hl]at this;unfold RdR;rw [e];exact this
  refine cl (Jbh hT hb) ?_;rintro _ w1 ⟨rfl,hx1⟩;refine ρ ?_;exact Jjq ⟨rfl,hx1⟩
 ·have hl:¬ b.length<=a.length:=by have:=of_decide_eq_false h;omega
  clear h;refine ρ ?_;refine Jjq ⟨?_,Ext.refl w⟩;rw [decide_eq_false];intro e;have:=congrArg List.length e;rw [List.length_take]at this;omega
theorem wiL_take(L:List Row)(y:Row){i:Nat}(h:i<L.length): wiL (L.take (i+1)) y=wiL (L.take i) y++(if (L.getD i []).take y.length=y then [L.getD i []] else []):=by
 unfold wiL;rw [Jjm [] h,List.filter_append];congr 1
 simp only [List.filter_cons,List.filter_nil];by_cases e:(L.getD i []).take y.length=y
 ·rw [if_pos e,if_pos (by simpa using e)]
 ·rw [if_neg e,if_neg (by simpa using e)]
end Go.Proofs.YtefpailelagbkaaGreatDoor
namespace Go.Wk
theorem wjoinB{P:Program}{n:Nat}{al:AL}{w:World}{Q Q':Exit->Act->World->Prop}{α:Type}{c d:Code}{id:Nat}(fr:α->AL)(I:α->World->Prop)(h1:WC P n c (Exit.inBlock id (Exit.then (λa w=>∃ x,Fr n (fr x) a/\I x w) Q)) al w)(h2:∀ x w,I x w->WC P n d Q' (fr x) w):
  WC P n c (Exit.inBlock id (Exit.then (d.wp P Q') Q)) al w:=by
 intro a ha;refine wp_mono (h1 a ha) ?_;intro e a' w' hq;cases e with
 | normal=>obtain ⟨x,h3,h4⟩:=hq;exact h2 x w' h4 a' h3
 | exit id'=>
  by_cases e:id'=id
  ·simp only [Exit.inBlock,e,if_true]at hq ⊢;obtain ⟨x,h3,h4⟩:=hq;exact h2 x w' h4 a' h3
  ·simp only [Exit.inBlock,e,if_false]at hq ⊢;exact hq
 | goto l=>exact hq
 | ret=>exact hq
 | panic c=>exact hq
 | outgrown=>exact hq
end Go.Wk
namespace Go.Proofs.YtefpailelagbkaaGreatDoor
open Go.RowKit Pl Go.Wk
attribute [local irreducible] WC WL QX WD WDB WP WN WG WH WM
theorem cmpR_takeD: ∀ (a b:Row) (ds:List Bool) (l:Nat),Jxg a b ds<=0->Jxg (a.take l) (b.take l) ds<=0
 | _,_,_,0,_=>by simp [Jxg]
 | [],[],_,_+1,_=>by simp [Jxg]
 | [],_::_,_,_+1,_=>by simp [Jxg]
 | _::_,[],_,_+1,h=>by simp [Jxg]at h
 | x::a,y::b,ds,l+1,h=>by
  simp only [List.take_succ_cons,Jxg]at h ⊢;by_cases e:cmpV x y=0
  ·rw [if_pos e]at h ⊢;exact cmpR_takeD a b _ l h
  ·rw [if_neg e]at h ⊢;exact h
theorem pre_between{ds:List Bool}{a b c y:Row}(h1:Jxg a b ds<=0)(h2:Jxg b c ds<=0)(ha:a.take y.length=y)(hc:c.take y.length=y): b.take y.length=y:=by
 have k1:=cmpR_takeD a b ds y.length h1;have k2:=cmpR_takeD b c ds y.length h2;rw [ha]at k1;rw [hc]at k2;have k3:=Jnq y (b.take y.length) ds;exact Jvt _ _ ds (by omega)
theorem lt_getD{ds:List Bool}{L:List Row}(h:Lt ds L){i j:Nat}(hij:i<j)(hj:j<L.length): Jxg (L.getD i []) (L.getD j []) ds<0:=by
 have hi:i<L.length:=by omega
 have:=List.pairwise_iff_getElem.1 h i j hi hj hij;rwa [Jjh [] _ hi,Jjh [] _ hj]at *
theorem wiL_at{ds:List Bool}{L:List Row}(h:Lt ds L){y:Row}{first at_:Nat}(hf:first<=at_)(ha:at_<L.length)(hall:∀ i,first<=i->i<=at_->(L.getD i []).take y.length=y)(hstop:first=0∨(L.getD (first-1) []).take y.length≠y): (wiL L y)[at_-first]?=some (L.getD at_ []):=by
 have hnone:∀ i,i<first->(L.getD i []).take y.length≠y:=λi hi e=>by
  rcases hstop with h0|h0
  ·omega
  ·refine h0 ?_;by_cases e1:i=first-1
   ·rw [<-e1];exact e
   ·have k1:=lt_getD h (i:=i) (j:=first-1) (by omega) (by omega);have k2:=lt_getD h (i:=first-1) (j:=at_) (by omega) ha;exact pre_between (Int.le_of_lt k1) (Int.le_of_lt k2) e (hall at_ hf (Nat.le_refl _))
 have key:∀ k,k<=at_+1->wiL (L.take k) y=((L.take k).drop first):=by
  intro k;induction k with
  | zero=>intro _;simp [wiL]
  | succ k ih=>
   intro hk;have hkL:k<L.length:=by omega
   rw [wiL_take L y hkL,ih (by omega)];by_cases hkf:k<first
   ·rw [if_neg (hnone k hkf),List.append_nil,List.drop_of_length_le (by rw [List.length_take];omega),List.drop_of_length_le (by rw [List.length_take];omega)]
   ·rw [if_pos (hall k (by omega) (by omega)),Jjm [] hkL,List.drop_append_of_le_length (by rw [List.length_take];omega)]
 have e:wiL L y=wiL (L.take (at_+1)) y++wiL (L.drop (at_+1)) y:=by
  unfold wiL;rw [<-List.filter_append,List.take_append_drop]
 rw [e,key (at_+1) (Nat.le_refl _),List.getElem?_append_left (by simp;omega),List.getElem?_drop,List.getElem?_take_of_lt (by omega)];rw [show first+(at_-first)=at_ by omega];exact getD_some ha
theorem take_rowV{w:World}{A:Option Addr}{c:Nat}{r:Row}(h:RowV w (.slice A r.length c) r){m:Nat}(hm:m<=r.length): RowV w (.slice A m c) (r.take m)/\(r.take m).length=m/\m<=c:=by
 obtain ⟨A',c',e,h1,h2,h3⟩:=h;injection e with e1 e2 e3
 subst e1;subst e3;have e:(r.take m).length=m:=by rw [List.length_take];omega
 refine ⟨⟨A,c,by rw [e],by omega,by omega,?_⟩,e,by omega⟩;have:=Rd.take h3 (m:=m) hm;rw [Qqd r hm]at this;unfold RdR;rw [e];exact this
set_option linter.constructorNameAsVariable false in
theorem accessPrefixes_any{B0:Nat}{w:World}{cs:List Value}{c:Cse}{k:Int}(hTB:TB B0 w)(h:CseV w cs c)(hfit:∀ i,i<c.rss.length->∀ r∈c.rss.getD i [],∀ u∈r,Qwc u)(hk:0<=k/\k<=65535):
  Ret Tryz.prog 5 [.agg cs.toArray,.int .u16 k] w λu w'=>u=.bool true/\Ext w w':=by
 obtain ⟨dA,dc,pA,pc,vA,vc,rA,rc,rfl,hD,hP,hV,hR,hn,hf⟩:=id h;refine Jjb Tryz.func5 Tryz.ntmps5 rfl (by kernel_rfl) rfl ?_;refine ρ ?_;refine bx (cs:=[.int .i64 c.n,.int .i64 c.f,.slice dA c.ds.length dc,.slice pA c.pm.length pc,.slice vA c.vs.length vc,.slice rA c.rss.length rc]) ?_;intro w1 b hx1 hb hB;refine ρ ?_;refine lds (cs:=[.int .i64 c.n,.int .i64 c.f,.slice dA c.ds.length dc,.slice pA c.pm.length pc,.slice vA c.vs.length vc,.slice rA c.rss.length rc]) (λj u hu=>hB.at hu) ?_;refine ρ ?_;refine cl (Qng (hTB.ext hx1) (h.ext hx1) hfit) ?_;rintro u w2 ⟨hx2,hbr⟩;rcases hbr with ⟨rfl,hng⟩|⟨ats,x,av,kf,pf,BB,tot,hOk,rfl,hIx,hav⟩
 ·refine ρ ?_;refine alc (cs:=[.slice none 0 0,.slice none 0 0,.slice none 0 0,.slice none 0 0,.slice none 0 0]) Qjm ?_;intro w3 b3 hx3 hb3 hk3;refine ρ ?_;refine stb (cs':=[.slice none 0 0,.slice none 0 0,.slice none 0 0,.slice none 0 0,.slice none 0 0]) hk3 ?_ Jgt;intro w4 hk4 hg4 hx4;have hx24:Ext w2 w4:=hx4 w2 hx3 hb3;refine ρ ?_;refine cl (Xkw (hTB.ext ((hx1.trans hx2).trans hx24))) ?_;rintro _ w5 ⟨rfl,hx5⟩;refine ρ ?_;exact Jjq ⟨rfl,((hx1.trans hx2).trans hx24).trans hx5⟩
 obtain ⟨XA,xd,YB,yd,ZA,zd,UA,ud,tv,kvs,pvs,rfl,_,_,_,_,_,_,htv,_⟩:=id hIx.ix.ex;obtain ⟨TA,tc,rfl,_⟩:=id htv;obtain ⟨LA,lc,rfl,hlc,hlm,_⟩:=hav.parts;obtain ⟨L,hL⟩:∃ L,L=c.ans:=⟨_,rfl⟩;have hl5:L.length<=5000:=by rw [hL];exact hOk.anl
 rw [<-hL]at hIx hav;rw [show c.ans.length=L.length by rw [hL]];have hal:∀ r∈L,r.length=c.F:=λr hr=>hOk.arow (hL ▸ hr);refine ρ ?_;refine alc (cs:=[.slice none 0 0,.slice none 0 0,.slice none 0 0,.slice none 0 0,.slice none 0 0]) Qjm ?_;intro w3 b3 hx3 hb3 hk3;refine ρ ?_;refine stb (cs':=[.slice XA c.F xd,.slice YB c.F yd,.slice ZA c.F zd,.slice UA c.F ud,.slice TA (Jjf tot).length tc]) hk3 ?_ Jgt;intro w4 hk4 hg4 hx4;have hx24:Ext w2 w4:=hx4 w2 hx3 hb3;have hxw4:=(hx1.trans hx2).trans hx24;have hIx4:=hIx.ext hx24;have hav4:=hav.ext hx24;have hxB4:=hB.ext (hx2.trans hx24);rcases Nat.eq_zero_or_pos L.length with h0|hpos
 ·have eL:L=[]:=List.eq_nil_of_length_eq_zero h0;subst eL;refine ρ ?_;refine cl (Xkw (hTB.ext hxw4)) ?_;rintro _ w5 ⟨rfl,hx5⟩;refine ρ ?_;exact Jjq ⟨rfl,hxw4.trans hx5⟩
 refine ρ ?_;refine ci (λh=>?_) (λh=>?_)
 ·exfalso
  have:=Jql h;omega
 clear h;refine ρ ?_;refine Go.Wk.kv 40 (congrArg (λz=>Value.int .i64 z) (Qsd (z:=k) (by omega))) ?_;refine Go.Wk.rem (b:=(L.length:Int)) (by omega) ?_;obtain ⟨at_,hat⟩:∃ at_:Nat,k.tmod (L.length:Int)=(at_:Int)/\at_<L.length:=by
  refine ⟨(k.tmod (L.length:Int)).toNat,?_,?_⟩
  ·have:=Int.tmod_nonneg (a:=k) (L.length:Int) hk.1;omega
  ·have h1:=Int.tmod_nonneg (a:=k) (L.length:Int) hk.1;have h2:=Int.tmod_lt_of_pos k (show (0:Int)<(L.length:Int) by omega);omega
 obtain ⟨e1,hlt⟩:=hat;rw [e1];refine ρ ?_;have hN6:c.F<=6:=by have:=hOk.fF.2;have:=hOk.nN.2;omega
 have hcf:=hOk.fF.1;have hrl:=hal (L.getD at_ []) (getD_mem' [] _ hlt);have hxd:Ext w4 w4.drew:=(Ext.refl w4).drew;refine drN (λ_=>False) 13 [(0,0),(0,1),(0,2),(1,3),(1,4),(0,5),(0,6),(0,7),(0,8),(0,9),(0,10),(0,11)] (by kernel_rfl) ?_;refine ρn ?_;refine Jfd (cs:=[.slice XA c.F xd,.slice YB c.F yd,.slice ZA c.F zd,.slice UA c.F ud,.slice TA (Jjf tot).length tc]) (λw' hg j u hu=>((hk4.ext hxd).ext hg.toExt).at hu) ?_;refine ρn ?_;refine nop ?_;refine cl (natOf_wrap (i:=at_) (by omega) _) ?_;rintro o w5 ⟨ho,hx5⟩;refine ρ ?_;refine Jqm (GrN.ext hx5) ?_;refine ρn ?_;refine nop ?_;have hx45:=hxd.trans hx5;refine cl (Qnt (hIx4.ext hx45) ho) ?_;rintro u w6 ⟨hx6,h6⟩;unfold AtR at h6;rw [getD_some hlt]at h6;obtain ⟨A1,c1,st1,rfl,q1,q2,q3,q4⟩:=h6;refine ρ ?_;refine Jqm (GrN.ext hx6) ?_;refine ρn ?_;refine ρ ?_;have hx46:=hx45.trans hx6;have hrV:RowV w6 (.slice A1 (L.getD at_ []).length c1) (L.getD at_ []):=⟨A1,c1,rfl,q2,by omega,q1⟩
 obtain ⟨r,hr⟩:∃ r,r=L.getD at_ []:=⟨_,rfl⟩;rw [<-hr]at hrV hrl q2;rw [show (L.getD at_ []).length=r.length by rw [hr]];refine ld ((hxB4.ext hx46).at (i:=1) rfl) ?_;refine ρ ?_;refine ci (λh=>?_) (λh=>?_)
 ·exfalso
  have:=Jkp h;omega
 clear h;refine ρ ?_;refine ld ((hxB4.ext hx46).at (i:=1) rfl) ?_;refine ρ ?_;refine Jqn (fun (m:Nat)=>[(4,.bool false),(5,.pointer (some ⟨b3,0,none⟩)),(6,.slice LA L.length lc),(9,.int .i64 (at_:Int)),(10,.slice A1 r.length c1),(64,.int .i64 (c.f+1)),(65,.int .i64 (m:Int))])
  (λm w'=>m<=c.F+1/\Ext w6 w') (λm=>c.F+1-m) 0 sB ⟨Nat.zero_le _,Ext.refl _⟩ ?_
 rintro m w7 ⟨hm,hx7⟩;have hx47:=hx46.trans hx7;refine ρ ?_;refine ci (λh=>?_) (λh=>?_)
 ·have lm:m<=c.F:=by have:=of_decide_eq_true h;omega
  clear h;have hrm:=take_rowV (hrV.ext hx7) (show m<=r.length by omega);refine ρ ?_;refine wjoinB (fun (f1:Nat)=>[(4,.bool false),(5,.pointer (some ⟨b3,0,none⟩)),(6,.slice LA L.length lc),(9,.int .i64 (at_:Int)),(10,.slice A1 r.length c1),(13,.int .i64 (m:Int)),(14,.int .i64 (f1:Int)),(64,.int .i64 (c.f+1)),(65,.int .i64 (m:Int))])
   (λf1 w'=>f1<=at_/\(∀ i,f1<=i->i<=at_->(L.getD i []).take m=r.take m)/\(f1=0∨(L.getD (f1-1) []).take m≠r.take m)/\Ext w7 w') ?_ ?_
  ·refine Jqn (fun (f1:Nat)=>[(4,.bool false),(5,.pointer (some ⟨b3,0,none⟩)),(6,.slice LA L.length lc),(9,.int .i64 (at_:Int)),(10,.slice A1 r.length c1),(13,.int .i64 (m:Int)),(14,.int .i64 (f1:Int)),(64,.int .i64 (c.f+1)),(65,.int .i64 (m:Int))])
    (λf1 w'=>f1<=at_/\(∀ i,f1<=i->i<=at_->(L.getD i []).take m=r.take m)/\Ext w7 w') (λf1=>f1) at_ sB ⟨Nat.le_refl _,λi h1 h2=>by rw [show i=at_ by omega,hr],Ext.refl _⟩ ?_
   rintro f1 w8 ⟨hf1,hall,hx8⟩;have hx48:=hx47.trans hx8;have hxe:Ext w8 w8.drew:=(Ext.refl w8).drew;refine ρ ?_;refine drN (λ_=>False) 14 [(0,0),(0,1),(0,2),(0,3),(0,4),(0,5),(0,6),(0,7),(0,8),(0,9),(0,10),(1,11),(0,12)] (by kernel_rfl) ?_;refine ρn ?_;refine nki 71 (λh=>?_) (λh=>?_)
   ·have hf0:0<f1:=by have:=of_decide_eq_true h;omega
    clear h;have hlf:f1-1<L.length:=by omega
    obtain ⟨rv,rcs,hrR,_,hrc,hrV2⟩:=(hav4.ext (hx48.trans hxe)).one hlf;obtain ⟨RA2,rc2,erv,_,_,_⟩:=id hrV2;subst erv;refine ρn ?_;refine nix (f1-1) hrR hlf ?_;refine ρn ?_;refine nld (λw' hg=>(hrR.ext hg.toExt).cell hrc) ?_;refine ρn ?_;refine nslh (A:=A1) (m:=r.length) (c:=c1) m ?_ (by omega);refine ρn ?_;refine nop ?_;have hy8:=(hrm.1.ext hx8).ext hxe;rw [<-hrm.2.1]at hy8;have hbg:=begins_any hrV2 hy8;rw [hrm.2.1]at hbg;refine cl hbg ?_;rintro _ w9 ⟨rfl,hx9⟩;refine ρ ?_;refine Jqm (GrN.ext hx9) ?_;refine ρn ?_;refine ρ ?_;refine ci (λh=>?_) (λh=>?_)
    ·have hb:=of_decide_eq_true h;rw [hrm.2.1]at hb;refine ρ ?_;refine Jjt (f1-1) sO ⟨by omega,λi h1 h2=>?_,(hx8.trans hxe).trans hx9⟩ (by omega);by_cases e:i=f1-1
     ·rw [e];exact hb
     ·exact hall i (by omega) h2
    ·have hb:=of_decide_eq_false h;rw [hrm.2.1]at hb;refine ρ ?_;exact Jjn f1 sB ⟨hf1,hall,.inr hb,(hx8.trans hxe).trans hx9⟩
   ·have hf0:f1=0:=by have:=of_decide_eq_false h;omega
    clear h;refine ρn ?_;refine ρ ?_;exact Jjn f1 sB ⟨hf1,hall,.inl hf0,hx8.trans hxe⟩
  rintro f1 w8 ⟨hf1,hall,hstop,hx8⟩;have hx48:=hx47.trans hx8;have hxe:Ext w8 w8.drew:=(Ext.refl w8).drew;refine ρ ?_;refine drN (λ_=>False) 18 [(0,0),(0,1),(0,2),(0,3),(0,4),(0,5),(0,6),(0,7),(1,8),(1,9),(0,10),(0,11),(0,12),(0,13),(0,14),(0,15),(0,16)] (by kernel_rfl) ?_;refine ρn ?_;refine Jfd (cs:=[.slice XA c.F xd,.slice YB c.F yd,.slice ZA c.F zd,.slice UA c.F ud,.slice TA (Jjf tot).length tc]) (λw' hg j u hu=>(((hk4.ext hx48).ext hxe).ext hg.toExt).at hu) ?_;refine ρn ?_;refine nslh (A:=A1) (m:=r.length) (c:=c1) m ?_ (by omega);refine ρn ?_;refine nop ?_;have hof:=natOf_wrap (i:=at_-f1) (by omega) w8.drew;rw [show ((at_-f1:Nat):Int)=(at_:Int)-(f1:Int) by omega]at hof;refine cl hof ?_;rintro o2 w9 ⟨ho2,hx9⟩;refine ρ ?_;refine Jqm (GrN.ext hx9) ?_;refine ρn ?_;refine nop ?_;have hx49:=(hx48.trans hxe).trans hx9;have hwi:=Jfn (y:=r.take m) (PA:=A1) (pc:=c1) (hIx4.ext hx49) (by obtain ⟨A',c',e,_,_,h3⟩:=((hrm.1.ext hx8).ext hxe).ext hx9;injection e with e1 e2 e3;subst e1;exact h3) ho2
  rw [hrm.2.1]at hwi;refine cl hwi ?_;rintro u w10 ⟨hx10,_,h10⟩;have h10:=h10 lm;unfold AcR at h10;have hst:(wiL L (r.take m))[at_-f1]?=some (L.getD at_ []):=by
   refine wiL_at (ds:=c.ds) (hL ▸ hOk.ans.1) hf1 hlt (λi h1 h2=>by rw [hrm.2.1];exact hall i h1 h2) ?_;rw [hrm.2.1];exact hstop
  rw [hst,<-hr]at h10;obtain ⟨A3,c3,st3,rfl,p1,p2,p3,p4⟩:=h10;refine ρ ?_;refine Jqm (GrN.ext hx10) ?_;refine ρn ?_;refine ρ ?_;have hx710:=((hx8.trans hxe).trans hx9).trans hx10;have hS:RowV w10 (.slice A3 r.length c3) r:=⟨A3,c3,rfl,p2,by omega,p1⟩;refine cl (Jbh hS ((hrV.ext hx7).ext hx710)) ?_;rintro _ w11 ⟨rfl,hx11⟩;rw [decide_eq_true rfl];refine ρ ?_;exact Jjt (m+1) sO ⟨by omega,(hx7.trans hx710).trans hx11⟩ (by omega)
 ·refine ρ ?_;refine cl (Xkw (hTB.ext (hxw4.trans hx47))) ?_;rintro _ w8 ⟨rfl,hx8⟩;refine ρ ?_;exact Jjq ⟨rfl,(hxw4.trans hx47).trans hx8⟩
end Go.Proofs.YtefpailelagbkaaGreatDoor
namespace Go.Proofs.YtefpailelagbkaaGreatDoor
open Go.RowKit Pl Go.Wk Go.ChangeShapes Go.WideShapes
section
variable {H:Type} {enc:TypeId×Value->H} {w:World} {base b0:Nat} {spare:Nat->Bool} {held:Bool}
end
theorem accessPrefixes_walk{B0:Nat}{w:World}{v:Value}{k:Int}(hTB:TB B0 w)(h:CaseE w v)(hk:0<=k/\k<=65535): Ret Tryz.prog 5 [v,.int .u16 k] w λu w'=>u=.bool true/\Ext w w':=by
 obtain ⟨cs,c,rfl,hC,hf⟩:=h;exact accessPrefixes_any hTB hC hf hk
end Go.Proofs.YtefpailelagbkaaGreatDoor
