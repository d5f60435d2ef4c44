/- Part 46 of the proof: OpE, LwAW. -/
import Derived.Test.YtefpailelagbkaaGreatDoorJ45
import Derived.Test.YtefpailelagbkaaGreatDoorRows
import Derived.LaidSub
import Derived.Lib.LaidTab
set_option linter.unusedVariables false
set_option maxRecDepth 100000
set_option maxHeartbeats 40000000
namespace Go.Proofs.YtefpailelagbkaaGreatDoor
open Go.RowKit Pl Go.Wk Go.ChangeShapes Go.WideShapes
theorem bulk_one{H:Type}(d:DataW H): 1<=Rows.uptoBulk d:=by
 cases d with
 | lit l=>cases l<;>simp [Rows.uptoBulk]
 | nil=>simp [Rows.uptoBulk]
 | ptr d=>simp [Rows.uptoBulk]
 | slice elems spare=>simp [Rows.uptoBulk]
 | agg parts=>simp [Rows.uptoBulk]
 | iface t d=>simp [Rows.uptoBulk]
 | map entries=>simp [Rows.uptoBulk]
 | held h=>simp [Rows.uptoBulk]
theorem bulk_part{H:Type}{d:DataW H}{l:List (DataW H)}(h:d∈l): Rows.uptoBulk d<=Rows.uptoBulkAll l:=by
 induction l with
 | nil=>cases h
 | cons x r ih=>
  simp only [Rows.uptoBulkAll];cases List.mem_cons.1 h with
  | inl e=>subst e;omega
  | inr e=>have:=ih e;omega
theorem bulk_len{H:Type}(l:List (DataW H)): l.length<=Rows.uptoBulkAll l:=by
 induction l with
 | nil=>simp [Rows.uptoBulkAll]
 | cons x r ih=>have:=bulk_one x;simp only [Rows.uptoBulkAll,List.length_cons];omega
section
variable {H:Type} {enc:TypeId×Value->H} {P:Program} {w:World} {base:Nat} {spare:Nat->Bool} {held:Bool} {B:Nat}
theorem Jkk{α:Type}{t e sz:Nat}{fuel:Nat}{cs:List Value}{x:DataW H×List MemPlace}(X:α->List Value)(R:α->Prop)(ht:P.underlying t=some (.slice e))(hc:P.cellsOf e=sz)(hb:Rows.uptoBulk x.1<=B)(hX:∀ (n:Nat) (cs':List Value) (y:DataW H×List MemPlace),DataW.trod enc P w base spare held n e cs'=some y->Rows.uptoBulk y.1<=B->∃ z:α,cs'=X z/\R z)(h:DataW.trod enc P w base spare held fuel t cs=some x): ∃ (l:List α) (A:Option Addr) (cap:Nat),cs=[.slice A l.length cap]/\Rd w sz A l.length (l.flatMap X)/\(∀ z∈l,R z)/\l.length<=cap/\l.length<=B:=by
 rcases Go.Deep.open_slice ht h with ⟨hcs,_⟩|⟨a,len,cap,m,n,D,Pl,hcs,_,hl,hm,hmm,hx,hel⟩
 ·exact ⟨[],none,0,hcs,Rd.nil,(λz hz=>by cases hz),Nat.le_refl _,Nat.zero_le _⟩
 ·subst hcs;subst hx;have hlm:len<=m:=by rw [hmm];split<;>omega
  have hbl:Rows.uptoBulkAll ((List.range len).map D)<=B:=by
   simp only [Rows.uptoBulk]at hb;omega
  have hlB:len<=B:=by
   have:=bulk_len ((List.range len).map D);simp at this;omega
  have key:∀ k,k<=len->∃ l:List α,l.length=k/\(l.flatMap X).length=k*sz/\(∀ j u,(l.flatMap X)[j]?=some u->w.cell? (a.add j)=some u)/\∀ z∈l,R z:=by
   intro k;induction k with
   | zero=>intro _;exact ⟨[],rfl,by simp,(λj u hu=>by simp at hu),(λz hz=>by cases hz)⟩
   | succ k ih=>
    intro hk;obtain ⟨l,h1,h2,h3,h4⟩:=ih (by omega);obtain ⟨cs',hcs',htr⟩:=hel k (by omega);have hDk:D k∈(List.range len).map D:=List.mem_map.2 ⟨k,List.mem_range.2 (by omega),rfl⟩;obtain ⟨z,rfl,hz⟩:=hX n cs' _ htr (Nat.le_trans (bulk_part hDk) hbl);rw [hc]at hcs';obtain ⟨_,hlen,hat⟩:=World.cells?_some hcs';refine ⟨l++[z],by simp [h1],?_,?_,?_⟩
    ·rw [List.flatMap_append,List.length_append,h2];simp only [List.flatMap_cons,List.flatMap_nil,List.append_nil,hlen,Nat.add_mul,Nat.one_mul]
    ·intro j u hu;rw [List.flatMap_append]at hu;simp only [List.flatMap_cons,List.flatMap_nil,List.append_nil]at hu;rcases Nat.lt_or_ge j (k*sz) with hj|hj
     ·rw [List.getElem?_append_left (by omega)]at hu;exact h3 j u hu
     ·rw [List.getElem?_append_right (by omega),h2]at hu;have hb:j-k*sz<sz:=by have:=(List.getElem?_eq_some_iff.1 hu).1;omega
      have:=hat (j-k*sz) hb;rw [add_add]at this;rw [show k*sz+(j-k*sz)=j by omega]at this;rw [this,hu]
    ·intro z' hz';rcases List.mem_append.1 hz' with h'|h'
     ·exact h4 z' h'
     ·simp at h';subst h';exact hz
  obtain ⟨l,h1,h2,h3,h4⟩:=key len (Nat.le_refl _);subst h1;exact ⟨l,some a,cap,rfl,rd_of rfl h2 h3,h4,hl,hlB⟩
end
section
variable {H:Type} {enc:TypeId×Value->H} {w:World} {base b0:Nat} {spare:Nat->Bool} {held:Bool}
theorem open_value{n:Nat}{cs:List Value}{y:DataW H×List MemPlace}(h:DataW.trod enc Tryz.prog w base spare held n 71 cs=some y): ∃ v:V,cs=v.cells/\fitI v:=by
 obtain ⟨xs,m,_,_,hlen,hxl,hf⟩:=DataW.trod_struct Tryz.underlying71 h;have hl3:cs.length=3:=by rw [hlen];kernel_rfl
 have hx3:xs.length=3:=hxl;match cs,hl3 with
 | [c0,c1,c2],_=>
  have f0:DataW.trod enc Tryz.prog w base spare held m 3 (([c0,c1,c2].drop 0).take (Tryz.prog.cellsOf 3))=xs[0]?:=hf 0 _ rfl;have f1:DataW.trod enc Tryz.prog w base spare held m 2 (([c0,c1,c2].drop 1).take (Tryz.prog.cellsOf 2))=xs[1]?:=hf 1 _ rfl;have f2:DataW.trod enc Tryz.prog w base spare held m 9 (([c0,c1,c2].drop 2).take (Tryz.prog.cellsOf 9))=xs[2]?:=hf 2 _ rfl;rw [show Tryz.prog.cellsOf 3=1 by kernel_rfl,List.getElem?_eq_getElem (by omega)]at f0;rw [show Tryz.prog.cellsOf 2=1 by kernel_rfl,List.getElem?_eq_getElem (by omega)]at f1;rw [show Tryz.prog.cellsOf 9=1 by kernel_rfl,List.getElem?_eq_getElem (by omega)]at f2;obtain ⟨k,e0,_,wk⟩:=DataW.trod_int Tryz.underlying3 f0;obtain ⟨i,e1,_,wi⟩:=DataW.trod_int Tryz.underlying2 f1;obtain ⟨s,e2,_,_⟩:=DataW.trod_string Tryz.underlying9 f2;simp at e0 e1 e2;subst e0;subst e1;subst e2;exact ⟨⟨k,i,s⟩,rfl,bounds_i64 wk,bounds_i64 wi⟩
def RowE(w:World)(v:Value)(r:Row): Prop:=RowV w v r/\∀ u∈r,fitI u
theorem open_rowE{n:Nat}{cs:List Value}{y:DataW H×List MemPlace}(h:DataW.trod enc Tryz.prog w base spare held n 40 cs=some y)(hb:Rows.uptoBulk y.1<=1048576): ∃ p:Pr,cs=[p.1]/\RowE w p.1 p.2:=by
 obtain ⟨l,A,cap,e,h1,h2,h3,h4⟩:=Jkk (sz:=3) V.cells fitI Tryz.underlying40 (by kernel_rfl) hb (λn cs' y hy _=>open_value hy) h;have hm:l.length<=1100000:=by omega
 exact ⟨(.slice A l.length cap,l),e,⟨A,cap,rfl,h3,hm,h1⟩,h2⟩
def RowsE(w:World)(v:Value)(ls:List Row): Prop:=RowsV w v ls/\∀ r∈ls,∀ u∈r,fitI u
theorem open_rowsE{n:Nat}{cs:List Value}{y:DataW H×List MemPlace}(h:DataW.trod enc Tryz.prog w base spare held n 35 cs=some y)(hb:Rows.uptoBulk y.1<=1048576): ∃ p:Value×List Row,cs=[p.1]/\RowsE w p.1 p.2:=by
 obtain ⟨ps,A,cap,e,h1,h2,h3,h4⟩:=Jkk (sz:=1) (λp:Pr=>[p.1]) (λp=>RowE w p.1 p.2) Tryz.underlying35 (by kernel_rfl) hb (λn cs' y hy hb=>open_rowE hy hb) h;rw [Jww]at h1;exact ⟨(.slice A ps.length cap,ps.map (·.2)),e,⟨ps,A,cap,rfl,rfl,h3,by omega,h1,λp hp=>(h2 p hp).1⟩,λr hr u hu=>by
  obtain ⟨p,hp,rfl⟩:=List.mem_map.1 hr;exact (h2 p hp).2 u hu⟩
theorem getD_map{α β:Type}(f:α->β)(l:List α)(a:α)(b:β){i:Nat}(h:i<l.length): (l.map f).getD i b=f (l.getD i a):=by simp [List.getD,List.getElem?_eq_getElem h]
theorem open_rowssE{n:Nat}{cs:List Value}{y:DataW H×List MemPlace}(h:DataW.trod enc Tryz.prog w base spare held n 25 cs=some y)(hb:Rows.uptoBulk y.1<=1048576):
  ∃ (A:Option Addr) (c:Nat) (rss:List (List Row)),cs=[.slice A rss.length c]/\RowssV w (.slice A rss.length c) rss/\∀ i,i<rss.length->∀ r∈rss.getD i [],∀ u∈r,fitI u:=by
 obtain ⟨ps,A,cap,e,h1,h2,h3,h4⟩:=Jkk (sz:=1) (λp:Value×List Row=>[p.1]) (λp=>RowsE w p.1 p.2) Tryz.underlying25 (by kernel_rfl) hb (λn cs' y hy hb=>open_rowsE hy hb) h;rw [Jww]at h1;have hl:(ps.map (·.2)).length=ps.length:=List.length_map _
 have hg:∀ i,i<ps.length->(ps.map (·.2)).getD i []=(ps.getD i (.bool false,[])).2:=λi hi=>getD_map (·.2) ps (.bool false,[]) [] hi
 refine ⟨A,cap,ps.map (·.2),by rw [hl];exact e,⟨A,cap,ps.map (·.1),rfl,by omega,by omega,by rw [hl];exact h1,λi hi=>?_⟩,λi hi=>?_⟩
 ·have hi':i<ps.length:=by omega
  rw [hg i hi'];exact ⟨(ps.getD i (.bool false,[])).1,by simp [List.getD,List.getElem?_eq_getElem hi'],(h2 _ (getD_mem' _ _ hi')).1⟩
 ·have hi':i<ps.length:=by omega
  rw [hg i hi'];exact (h2 _ (getD_mem' _ _ hi')).2
theorem open_intsE{n:Nat}{cs:List Value}{y:DataW H×List MemPlace}(h:DataW.trod enc Tryz.prog w base spare held n 23 cs=some y)(hb:Rows.uptoBulk y.1<=1048576): ∃ p:Value×List Int,cs=[p.1]/\IntsV w p.1 p.2/\∃ A c,p.1=.slice A p.2.length c:=by
 obtain ⟨l,A,cap,e,h1,h2,h3,h4⟩:=Jkk (sz:=1) (λz:Int=>[Value.int .i64 z]) (λ_=>True) Tryz.underlying23 (by kernel_rfl) hb (λn cs' y hy _=>by obtain ⟨z,e,_,_⟩:=DataW.trod_int Tryz.underlying3 hy;exact ⟨z,e,trivial⟩) h;rw [Jww]at h1;have hm:l.length<=1100000:=by omega
 exact ⟨(.slice A l.length cap,l),e,⟨A,cap,rfl,h3,hm,h1⟩,A,cap,rfl⟩
theorem open_intssE{n:Nat}{cs:List Value}{y:DataW H×List MemPlace}(h:DataW.trod enc Tryz.prog w base spare held n 24 cs=some y)(hb:Rows.uptoBulk y.1<=1048576):
  ∃ (A:Option Addr) (c:Nat) (zss:List (List Int)),cs=[.slice A zss.length c]/\IntssV w (.slice A zss.length c) zss:=by
 obtain ⟨ps,A,cap,e,h1,h2,h3,h4⟩:=Jkk (sz:=1) (λp:Value×List Int=>[p.1]) (λp=>IntsV w p.1 p.2) Tryz.underlying24 (by kernel_rfl) hb (λn cs' y hy hb=>by obtain ⟨p,e,hp,_⟩:=open_intsE hy hb;exact ⟨p,e,hp⟩) h;rw [Jww]at h1;have hl:(ps.map (·.2)).length=ps.length:=List.length_map _
 refine ⟨A,cap,ps.map (·.2),by rw [hl];exact e,⟨A,cap,ps.map (·.1),rfl,by omega,by omega,by rw [hl];exact h1,λi hi=>?_⟩⟩
 have hi':i<ps.length:=by omega
 rw [getD_map (·.2) ps (.bool false,[]) [] hi']
 exact ⟨(ps.getD i (.bool false,[])).1,by simp [List.getD,List.getElem?_eq_getElem hi'],h2 _ (getD_mem' _ _ hi')⟩
theorem open_boolsE{n:Nat}{cs:List Value}{y:DataW H×List MemPlace}(h:DataW.trod enc Tryz.prog w base spare held n 22 cs=some y)(hb:Rows.uptoBulk y.1<=1048576): ∃ (A:Option Addr) (c:Nat) (l:List Bool),cs=[.slice A l.length c]/\BoolsV w (.slice A l.length c) l:=by
 obtain ⟨l,A,cap,e,h1,h2,h3,h4⟩:=Jkk (sz:=1) (λz:Bool=>[Value.bool z]) (λ_=>True) Tryz.underlying22 (by kernel_rfl) hb (λn cs' y hy _=>by obtain ⟨z,e,_⟩:=DataW.trod_bool Tryz.underlying4 hy;exact ⟨z,e,trivial⟩) h;rw [Jww]at h1;exact ⟨A,cap,l,e,⟨A,cap,rfl,h3,by omega,h1⟩⟩
def CaseE(w:World)(v:Value): Prop:=∃ (cs:List Value) (c:Cse),v=.agg cs.toArray/\CseV w cs c/\∀ i,i<c.rss.length->∀ r∈c.rss.getD i [],∀ u∈r,fitI u
theorem open_case{v:Value}{d:DataW H}{p:List MemPlace}(hv:Value.okWide Tryz.prog w .any b0 27 v)(h:DataW.Trod enc Tryz.prog w base spare held 27 v d p)(hb:Rows.uptoBulk d<=1048576): CaseE w v:=by
 simp only [Value.okWide,Tryz.underlying27]at hv;obtain ⟨cs,rfl,h2,_⟩:=hv;rw [show Tryz.prog.cellsOf 27=6 by kernel_rfl]at h2;obtain ⟨l⟩:=cs;obtain ⟨fuel,h⟩:=h;match l,h2 with
 | [c0,c1,c2,c3,c4,c5],_=>
  obtain ⟨xs,m,_,hx,hlen,hxl,hf⟩:=DataW.trod_struct Tryz.underlying27 h;have hx6:xs.length=6:=hxl;injection hx with hx _
  subst hx;have hB:∀ i (hi:i<xs.length),Rows.uptoBulk xs[i].1<=1048576:=λi hi=>by
   have h1:xs[i].1∈xs.map (·.1):=List.mem_map.2 ⟨xs[i],List.getElem_mem hi,rfl⟩
   have h2:=bulk_part h1;simp only [Rows.uptoBulk]at hb;omega
  have f0:DataW.trod enc Tryz.prog w base spare held m 3 (([c0,c1,c2,c3,c4,c5].drop 0).take (Tryz.prog.cellsOf 3))=xs[0]?:=hf 0 _ rfl;have f1:DataW.trod enc Tryz.prog w base spare held m 3 (([c0,c1,c2,c3,c4,c5].drop 1).take (Tryz.prog.cellsOf 3))=xs[1]?:=hf 1 _ rfl;have f2:DataW.trod enc Tryz.prog w base spare held m 22 (([c0,c1,c2,c3,c4,c5].drop 2).take (Tryz.prog.cellsOf 22))=xs[2]?:=hf 2 _ rfl;have f3:DataW.trod enc Tryz.prog w base spare held m 23 (([c0,c1,c2,c3,c4,c5].drop 3).take (Tryz.prog.cellsOf 23))=xs[3]?:=hf 3 _ rfl;have f4:DataW.trod enc Tryz.prog w base spare held m 24 (([c0,c1,c2,c3,c4,c5].drop 4).take (Tryz.prog.cellsOf 24))=xs[4]?:=hf 4 _ rfl;have f5:DataW.trod enc Tryz.prog w base spare held m 25 (([c0,c1,c2,c3,c4,c5].drop 5).take (Tryz.prog.cellsOf 25))=xs[5]?:=hf 5 _ rfl;rw [show Tryz.prog.cellsOf 3=1 by kernel_rfl,List.getElem?_eq_getElem (by omega)]at f0 f1;rw [show Tryz.prog.cellsOf 22=1 by kernel_rfl,List.getElem?_eq_getElem (by omega)]at f2
  rw [show Tryz.prog.cellsOf 23=1 by kernel_rfl,List.getElem?_eq_getElem (by omega)]at f3;rw [show Tryz.prog.cellsOf 24=1 by kernel_rfl,List.getElem?_eq_getElem (by omega)]at f4;rw [show Tryz.prog.cellsOf 25=1 by kernel_rfl,List.getElem?_eq_getElem (by omega)]at f5;obtain ⟨n,e0,_,w0⟩:=DataW.trod_int Tryz.underlying3 f0;obtain ⟨f,e1,_,w1⟩:=DataW.trod_int Tryz.underlying3 f1;obtain ⟨A2,k2,ds,e2,g2⟩:=open_boolsE f2 (hB 2 (by omega));obtain ⟨⟨p3,pm⟩,e3,g3,A3,k3,ep3⟩:=open_intsE f3 (hB 3 (by omega));simp only at ep3 g3 e3;subst ep3;obtain ⟨A4,k4,vs,e4,g4⟩:=open_intssE f4 (hB 4 (by omega));obtain ⟨A5,k5,rss,e5,g5,hfit⟩:=open_rowssE f5 (hB 5 (by omega));simp at e0 e1 e2 e3 e4 e5;subst e0;subst e1;subst e2;subst e3;subst e4;subst e5;exact ⟨_,⟨n,f,ds,pm,vs,rss⟩,rfl,⟨A2,k2,A3,k3,A4,k4,A5,k5,rfl,g2,g3,g4,g5,bounds_i64 w0,bounds_i64 w1⟩,hfit⟩
end
theorem gPow: Tryz.prog.globalNamed "internal/strconv.uint64pow10" = some 1:=by kernel_rfl
theorem gPowT: (Tryz.prog.globals[1]?).map (·.type)=some 307:=by kernel_rfl
theorem tb_of_laid{W:World}(h:laidMetH Tryz.prog Rows.accessAtUptoRow.laid W): TB W.heap.size W:=by
 refine ⟨Nat.le_refl _,Lib.tabBelow_of_tabIs ?_⟩;have h1:=h.filter (λx=>x.1 == "internal/strconv.uint64pow10");exact Lib.tabIs_of_head (rest:=[]) gPow gPowT Tryz.underlying307 Tryz.underlying45 (by kernel_rfl) (by kernel_rfl) h1
def layOn(d:DataW Unit): Obj->Obj
 | .cells _ t z=>.cells (match d with
  | .agg ps=>(ps.map fun
   | .lit (.int k z)=>Value.int k z
   | _=>Value.bool false).toArray
  | _=>#[]) t z
 | o=>o
open Go.RowKit Pl Go.Wk
theorem accessAt_walk{B0:Nat}{w:World}{v:Value}(hTB:TB B0 w)(h:CaseE w v): Ret Tryz.prog 3 [v] w λu w'=>u=.bool true/\Ext w w':=by
 obtain ⟨cs,c,rfl,hC,hf⟩:=h;exact accessAt_any hTB hC hf
end Go.Proofs.YtefpailelagbkaaGreatDoor
