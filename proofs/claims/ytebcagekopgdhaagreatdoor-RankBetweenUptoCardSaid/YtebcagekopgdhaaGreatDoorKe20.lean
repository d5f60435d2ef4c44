/- Part 0. -/
import Derived.Test.YtebcagekopgdhaaGreatDoorG19
import Derived.ProofKit
import Derived.OpenShut
import Derived.ShutString
import Derived.ChangeOld
import Derived.Deep.Slices
import Derived.Deep.Fields
import Derived.Test.YtebcagekopgdhaaGreatDoorRows
import Derived.LaidSub
import Derived.Lib.LaidTab
set_option linter.unusedVariables false
set_option maxRecDepth 100000
set_option maxHeartbeats 40000000
namespace Go.Wk
open Go.RowKit Go.ChangeShapes Go.WideShapes
section
variable {H:Type} {enc:TypeId×Value->H} {P:Program} {w:World} {base:Nat} {spare:Nat->Bool} {held:Bool}
theorem rd_of{A:Option Addr}{sz len:Nat}{cs:List Value}{ad:Addr}(hA:A=some ad)(hl:cs.length=len*sz)(hc:∀ j u,cs[j]?=some u->w.cell? (ad.add j)=some u): Rd w sz A len cs :=
 ⟨hl,λh0=>⟨ad,hA,by
  have o:=hc 0 cs[0] (List.getElem?_eq_getElem h0);rw [add_zero]at o;exact World.block_lt_of_cell? w ad o,hc⟩⟩
theorem flatMap_one{α:Type}(f:α->Value)(l:List α): l.flatMap (λz=>[f z])=l.map f:=by induction l<;>simp_all
end
end Go.Wk
namespace Go.Proofs.YtebcagekopgdhaaGreatDoor
open Go.RowKit Pl Go.Wk Go.ChangeShapes Go.WideShapes
variable {cs:List Value}{e fuel i n t:Nat}{H α β:Type}
theorem bulk_one(d:DataW H): 1<=Rows.uptoBulk d:=by
 cases d with
 | lit l=>cases l<;>simp [Rows.uptoBulk]
 | nil=>simp [Rows.uptoBulk]
 | ptr d=>simp [Rows.uptoBulk]
 | slice elems spare=>simp [Rows.uptoBulk]
 | agg parts=>simp [Rows.uptoBulk]
 | iface t d=>simp [Rows.uptoBulk]
 | map entries=>simp [Rows.uptoBulk]
 | held h=>simp [Rows.uptoBulk]
theorem bulk_part{d:DataW H}{l:List (DataW H)}(h:d∈l): Rows.uptoBulk d<=Rows.uptoBulkAll l:=by
 induction l with
 | nil=>cases h
 | cons x r ih=>
  simp only [Rows.uptoBulkAll];cases List.mem_cons.1 h with
  | inl e=>subst e;omega
  | inr e=>have:=ih e;omega
theorem bulk_len(l:List (DataW H)): l.length<=Rows.uptoBulkAll l:=by
 induction l with
 | nil=>simp [Rows.uptoBulkAll]
 | cons x r ih=>have:=bulk_one x;simp only [Rows.uptoBulkAll,List.length_cons];omega
section
variable {H:Type} {enc:TypeId×Value->H} {P:Program} {w:World} {base:Nat} {spare:Nat->Bool} {held:Bool} {B:Nat}
theorem open_elemsB{sz:Nat}{x:DataW H×List MemPlace}(X:α->List Value)(R:α->Prop)(ht:P.underlying t=some (.slice e))(hc:P.cellsOf e=sz)(hb:Rows.uptoBulk x.1<=B)(hX:∀ (n:Nat) (cs':List Value) (y:DataW H×List MemPlace),DataW.trod enc P w base spare held n e cs'=some y->Rows.uptoBulk y.1<=B->∃ z:α,cs'=X z/\R z)(h:DataW.trod enc P w base spare held fuel t cs=some x): ∃ (l:List α) (A:Option Addr) (cap:Nat),cs=[.slice A l.length cap]/\Rd w sz A l.length (l.flatMap X)/\(∀ z∈l,R z)/\l.length<=cap/\l.length<=B:=by
 rcases Go.Deep.open_slice ht h with ⟨G,_⟩|⟨a,len,cap,m,n,D,Pl,G,_,hl,hm,hmm,hx,hel⟩
 .exact ⟨[],none,0,G,Rd.nil,(λz J=>by cases J),Nat.le_refl _,Nat.zero_le _⟩
 .subst G;subst hx;have a6:len<=m:=by rw [hmm];split<;>omega
  have a3:Rows.uptoBulkAll ((List.range len).map D)<=B:=by
   simp only [Rows.uptoBulk]at hb;omega
  have a2:len<=B:=by
   have:=bulk_len ((List.range len).map D);simp at this;omega
  have key:∀ k,k<=len->∃ l:List α,l.length=k/\(l.flatMap X).length=k*sz/\(∀ j u,(l.flatMap X)[j]?=some u->w.cell? (a.add j)=some u)/\∀ z∈l,R z:=by
   intro k;induction k with
   | zero=>intro _;exact ⟨[],rfl,by simp,(λj u o=>by simp at o),(λz J=>by cases J)⟩
   | succ k ih=>
    intro hk;obtain ⟨l,h1,U,h3,h4⟩:=ih om;obtain ⟨cs',C,a1⟩:=hel k om;have a5:D k∈(List.range len).map D:=List.mem_map.2 ⟨k,List.mem_range.2 om,rfl⟩;obtain ⟨z,rfl,J⟩:=hX n cs' _ a1 (nL (bulk_part a5) a3);rw [hc]at C;obtain ⟨_,O,a4⟩:=World.cells?_some C;refine ⟨l++[z],by simp [h1],?_,?_,?_⟩
    .rw [List.flatMap_append,List.length_append,U];simp only [List.flatMap_cons,List.flatMap_nil,List.append_nil,O,Nat.add_mul,Nat.one_mul]
    .intro j u o;rw [List.flatMap_append]at o;simp only [List.flatMap_cons,List.flatMap_nil,List.append_nil]at o;rcases Nat.lt_or_ge j (k*sz) with hj|hj
     .rw [List.getElem?_append_left om]at o;exact h3 j u o
     .rw [List.getElem?_append_right om,U]at o;have hb:j-k*sz<sz:=by have:=(List.getElem?_eq_some_iff.1 o).1;omega
      have:=a4 (j-k*sz) hb;rw [add_add]at this;rw [show k*sz+(j-k*sz)=j by omega]at this;rw [this,o]
    .intro z' Z;rcases List.mem_append.1 Z with h'|h'
     .exact h4 z' h'
     .simp at h';subst h';exact J
  obtain ⟨l,h1,U,h3,h4⟩:=key len (Nat.le_refl _);subst h1;exact ⟨l,some a,cap,rfl,rd_of rfl U h3,h4,hl,a2⟩
end
section
variable {H:Type} {enc:TypeId×Value->H} {w:World} {base b0:Nat} {spare:Nat->Bool} {held:Bool}
theorem open_value{y:DataW H×List MemPlace}(h:DataW.trod enc Tryz.prog w base spare held n 47 cs=some y): ∃ v:V,cs=v.cells/\Vt v:=by
 obtain ⟨u,m,_,_,o,C,J⟩:=DataW.trod_struct Tryz.underlying47 h;have G:cs.length=3:=by rw [o];kernel_rfl
 have a1:u.length=3:=C;match cs,G with
 | [c0,c1,c2],_=>
  have U:DataW.trod enc Tryz.prog w base spare held m 3 (([c0,c1,c2].drop 0).take (Tryz.prog.cellsOf 3))=u[0]?:=J 0 _ rfl;have f1:DataW.trod enc Tryz.prog w base spare held m 2 (([c0,c1,c2].drop 1).take (Tryz.prog.cellsOf 2))=u[1]?:=J 1 _ rfl;have O:DataW.trod enc Tryz.prog w base spare held m 9 (([c0,c1,c2].drop 2).take (Tryz.prog.cellsOf 9))=u[2]?:=J 2 _ rfl;rw [show Tryz.prog.cellsOf 3=1 by kernel_rfl,List.getElem?_eq_getElem om]at U;rw [show Tryz.prog.cellsOf 2=1 by kernel_rfl,List.getElem?_eq_getElem om]at f1;rw [show Tryz.prog.cellsOf 9=1 by kernel_rfl,List.getElem?_eq_getElem om]at O;obtain ⟨k,e0,_,wk⟩:=DataW.trod_int Tryz.underlying3 U;obtain ⟨i,e1,_,wi⟩:=DataW.trod_int Tryz.underlying2 f1;obtain ⟨s,Z,_,_⟩:=DataW.trod_string Tryz.underlying9 O;simp at e0 e1 Z;subst e0;subst e1;subst Z;exact ⟨⟨k,i,s⟩,rfl,bounds_i64 wk,bounds_i64 wi⟩
def RowE(w:World)(v:Value)(r:Row): Prop:=RowV w v r/\∀ u∈r,Vt u
theorem open_rowE{y:DataW H×List MemPlace}(h:DataW.trod enc Tryz.prog w base spare held n 37 cs=some y)(hb:Rows.uptoBulk y.1<=1048576): ∃ p:Pr,cs=[p.1]/\RowE w p.1 p.2:=by
 obtain ⟨l,A,o,e,O,J,G,Z⟩:=open_elemsB (sz:=3) V.cells Vt Tryz.underlying37 kr hb (λn U y u _=>open_value u) h;have C:l.length<=1100000:=om
 exact ⟨(.slice A l.length o,l),e,⟨A,o,rfl,G,C,O⟩,J⟩
def RowsE(w:World)(v:Value)(ls:List Row): Prop:=RowsV w v ls/\∀ r∈ls,∀ u∈r,Vt u
theorem open_rowsE{y:DataW H×List MemPlace}(h:DataW.trod enc Tryz.prog w base spare held n 54 cs=some y)(hb:Rows.uptoBulk y.1<=1048576): ∃ p:Value×List Row,cs=[p.1]/\RowsE w p.1 p.2:=by
 obtain ⟨ps,A,o,e,J,G,h3,h4⟩:=open_elemsB (sz:=1) (λp:Pr=>[p.1]) (λp=>RowE w p.1 p.2) Tryz.underlying54 kr hb (λn a1 y O hb=>open_rowE O hb) h;rw [flatMap_one]at J;exact ⟨(.slice A ps.length o,ps.map (·.2)),e,⟨ps,A,o,rfl,rfl,h3,om,J,λp C=>(G p C).1⟩,λr Z u U=>by
  obtain ⟨p,C,rfl⟩:=List.mem_map.1 Z;exact (G p C).2 u U⟩
theorem getD_map(f:α->β)(l:List α)(a:α)(b:β)(h:i<l.length): (l.map f).getD i b=f (l.getD i a):=by simp [List.getD,List.getElem?_eq_getElem h]
theorem open_rowssE{y:DataW H×List MemPlace}(h:DataW.trod enc Tryz.prog w base spare held n 51 cs=some y)(hb:Rows.uptoBulk y.1<=1048576):
  ∃ (A:Option Addr) (c:Nat) (rss:List (List Row)),cs=[.slice A rss.length c]/\RowssV w (.slice A rss.length c) rss/\∀ i,i<rss.length->∀ r∈rss.getD i [],∀ u∈r,Vt u:=by
 obtain ⟨ps,A,C,e,U,O,h3,h4⟩:=open_elemsB (sz:=1) (λp:Value×List Row=>[p.1]) (λp=>RowsE w p.1 p.2) Tryz.underlying51 kr hb (λn a1 y Z hb=>open_rowsE Z hb) h;rw [flatMap_one]at U;have G:(ps.map (·.2)).length=ps.length:=List.length_map _
 have J:∀ i,i<ps.length->(ps.map (·.2)).getD i []=(ps.getD i (.bool false,[])).2:=λi hi=>getD_map (·.2) ps (.bool false,[]) [] hi
 refine ⟨A,C,ps.map (·.2),by rw [G];exact e,⟨A,C,ps.map (·.1),rfl,om,om,by rw [G];exact U,λi hi=>?_⟩,λi hi=>?_⟩
 .have o:i<ps.length:=om
  rw [J i o];exact ⟨(ps.getD i (.bool false,[])).1,by simp [List.getD,List.getElem?_eq_getElem o],(O _ (getD_mem' _ _ o)).1⟩
 .have o:i<ps.length:=om
  rw [J i o];exact (O _ (getD_mem' _ _ o)).2
theorem open_intsE{y:DataW H×List MemPlace}(h:DataW.trod enc Tryz.prog w base spare held n 44 cs=some y)(hb:Rows.uptoBulk y.1<=1048576): ∃ p:Value×List Int,cs=[p.1]/\IntsV w p.1 p.2/\∃ A c,p.1=.slice A p.2.length c:=by
 obtain ⟨l,A,o,e,u,Z,J,U⟩:=open_elemsB (sz:=1) (λz:Int=>[Value.int .i64 z]) (λ_=>True) Tryz.underlying44 kr hb (λn O y C _=>by obtain ⟨z,e,_,_⟩:=DataW.trod_int Tryz.underlying3 C;exact ⟨z,e,trivial⟩) h;rw [flatMap_one]at u;have G:l.length<=1100000:=om
 exact ⟨(.slice A l.length o,l),e,⟨A,o,rfl,J,G,u⟩,A,o,rfl⟩
theorem open_intssE{y:DataW H×List MemPlace}(h:DataW.trod enc Tryz.prog w base spare held n 50 cs=some y)(hb:Rows.uptoBulk y.1<=1048576):
  ∃ (A:Option Addr) (c:Nat) (zss:List (List Int)),cs=[.slice A zss.length c]/\IntssV w (.slice A zss.length c) zss:=by
 obtain ⟨ps,A,u,e,G,U,h3,h4⟩:=open_elemsB (sz:=1) (λp:Value×List Int=>[p.1]) (λp=>IntsV w p.1 p.2) Tryz.underlying50 kr hb (λn Z y J hb=>by obtain ⟨p,e,O,_⟩:=open_intsE J hb;exact ⟨p,e,O⟩) h;rw [flatMap_one]at G;have C:(ps.map (·.2)).length=ps.length:=List.length_map _
 refine ⟨A,u,ps.map (·.2),by rw [C];exact e,⟨A,u,ps.map (·.1),rfl,om,om,by rw [C];exact G,λi hi=>?_⟩⟩
 have o:i<ps.length:=om
 rw [getD_map (·.2) ps (.bool false,[]) [] o]
 exact ⟨(ps.getD i (.bool false,[])).1,by simp [List.getD,List.getElem?_eq_getElem o],U _ (getD_mem' _ _ o)⟩
theorem open_boolsE{y:DataW H×List MemPlace}(h:DataW.trod enc Tryz.prog w base spare held n 24 cs=some y)(hb:Rows.uptoBulk y.1<=1048576): ∃ (A:Option Addr) (c:Nat) (l:List Bool),cs=[.slice A l.length c]/\BoolsV w (.slice A l.length c) l:=by
 obtain ⟨l,A,o,e,u,U,G,O⟩:=open_elemsB (sz:=1) (λz:Bool=>[Value.bool z]) (λ_=>True) Tryz.underlying24 kr hb (λn J y C _=>by obtain ⟨z,e,_⟩:=DataW.trod_bool Tryz.underlying4 C;exact ⟨z,e,trivial⟩) h;rw [flatMap_one]at u;exact ⟨A,o,l,e,⟨A,o,rfl,G,om,u⟩⟩
def CaseE(w:World)(v:Value): Prop:=∃ (cs:List Value) (c:Cse),v=.agg cs.toArray/\CseV w cs c/\∀ i,i<c.rss.length->∀ r∈c.rss.getD i [],∀ u∈r,Vt u
theorem open_case{v:Value}{d:DataW H}{p:List MemPlace}(hv:Value.okWide Tryz.prog w .any b0 53 v)(h:DataW.Trod enc Tryz.prog w base spare held 53 v d p)(hb:Rows.uptoBulk d<=1048576): CaseE w v:=by
 simp only [Value.okWide,Tryz.underlying53]at hv;obtain ⟨cs,rfl,h2,_⟩:=hv;rw [show Tryz.prog.cellsOf 53=6 by kernel_rfl]at h2;obtain ⟨l⟩:=cs;obtain ⟨a2,h⟩:=h;match l,h2 with
 | [c0,c1,c2,c3,c4,c5],_=>
  obtain ⟨o,m,_,Z,a1,U,u⟩:=DataW.trod_struct Tryz.underlying53 h;have a3:o.length=6:=U;injection Z with Z _
  subst Z;have J:∀ i (hi:i<o.length),Rows.uptoBulk o[i].1<=1048576:=λi hi=>by
   have h1:o[i].1∈o.map (·.1):=List.mem_map.2 ⟨o[i],List.getElem_mem hi,rfl⟩
   have h2:=bulk_part h1;simp only [Rows.uptoBulk]at hb;omega
  have f0:DataW.trod enc Tryz.prog w base spare held m 3 (([c0,c1,c2,c3,c4,c5].drop 0).take (Tryz.prog.cellsOf 3))=o[0]?:=u 0 _ rfl;have f1:DataW.trod enc Tryz.prog w base spare held m 3 (([c0,c1,c2,c3,c4,c5].drop 1).take (Tryz.prog.cellsOf 3))=o[1]?:=u 1 _ rfl;have f2:DataW.trod enc Tryz.prog w base spare held m 24 (([c0,c1,c2,c3,c4,c5].drop 2).take (Tryz.prog.cellsOf 24))=o[2]?:=u 2 _ rfl;have f3:DataW.trod enc Tryz.prog w base spare held m 44 (([c0,c1,c2,c3,c4,c5].drop 3).take (Tryz.prog.cellsOf 44))=o[3]?:=u 3 _ rfl;have f4:DataW.trod enc Tryz.prog w base spare held m 50 (([c0,c1,c2,c3,c4,c5].drop 4).take (Tryz.prog.cellsOf 50))=o[4]?:=u 4 _ rfl;have f5:DataW.trod enc Tryz.prog w base spare held m 51 (([c0,c1,c2,c3,c4,c5].drop 5).take (Tryz.prog.cellsOf 51))=o[5]?:=u 5 _ rfl;rw [show Tryz.prog.cellsOf 3=1 by kernel_rfl,List.getElem?_eq_getElem om]at f0 f1;rw [show Tryz.prog.cellsOf 24=1 by kernel_rfl,List.getElem?_eq_getElem om]at f2
  rw [show Tryz.prog.cellsOf 44=1 by kernel_rfl,List.getElem?_eq_getElem om]at f3;rw [show Tryz.prog.cellsOf 50=1 by kernel_rfl,List.getElem?_eq_getElem om]at f4;rw [show Tryz.prog.cellsOf 51=1 by kernel_rfl,List.getElem?_eq_getElem om]at f5;obtain ⟨n,e0,_,w0⟩:=DataW.trod_int Tryz.underlying3 f0;obtain ⟨f,e1,_,w1⟩:=DataW.trod_int Tryz.underlying3 f1;obtain ⟨A2,k2,ds,e2,g2⟩:=open_boolsE f2 (J 2 om);obtain ⟨⟨p3,pm⟩,e3,g3,A3,k3,G⟩:=open_intsE f3 (J 3 om);simp only at G g3 e3;subst G;obtain ⟨A4,k4,vs,e4,g4⟩:=open_intssE f4 (J 4 om);obtain ⟨A5,k5,O,e5,g5,C⟩:=open_rowssE f5 (J 5 om);simp at e0 e1 e2 e3 e4 e5;subst e0;subst e1;subst e2;subst e3;subst e4;subst e5;exact ⟨_,⟨n,f,ds,pm,vs,O⟩,rfl,⟨A2,k2,A3,k3,A4,k4,A5,k5,rfl,g2,g3,g4,g5,bounds_i64 w0,bounds_i64 w1⟩,C⟩
end
theorem gPow: Tryz.prog.globalNamed "internal/strconv.uint64pow10" = some 1:=kr
theorem gPowT: (Tryz.prog.globals[1]?).map (·.type)=some 315:=kr
theorem tb_of_laid{W:World}(h:laidMetH Tryz.prog Rows.walkPiecesUptoRow.laid W): TB W.heap.size W:=by
 refine ⟨Nat.le_refl _,Lib.tabBelow_of_tabIs ?_⟩;have o:=h.filter (λx=>x.1 == "internal/strconv.uint64pow10");exact Lib.tabIs_of_head (rest:=[]) gPow gPowT Tryz.underlying315 Tryz.underlying22 kr kr o
def layOn(d:DataW Unit): Obj->Obj
 | .cells _ t z=>.cells (match d with
  | .agg ps=>(ps.map fun
   | .lit (.int k z)=>Value.int k z
   | _=>Value.bool false).toArray
  | _=>#[]) t z
 | o=>o
open Go.RowKit Pl Go.Wk Go.ChangeShapes Go.WideShapes
section
variable {H:Type} {enc:TypeId×Value->H} {w:World} {base b0:Nat} {spare:Nat->Bool} {held:Bool}
theorem open_rowA{v:Value}{d:DataW H}{p:List MemPlace}(hv:Value.okWide Tryz.prog w .any b0 37 v)(h:DataW.Trod enc Tryz.prog w base spare held 37 v d p)(hb:Rows.uptoBulk d<=1048576): ∃ r,RowE w v r:=by
 obtain ⟨a,len,o,rfl⟩:=okWide_slice Tryz.underlying37 hv;obtain ⟨u,G⟩:=h;obtain ⟨q,e,C⟩:=open_rowE G hb;have J:Value.slice a len o=q.1:=by
  injection e
 exact ⟨q.2,J ▸ C⟩
end
open Go.RowKit Pl Go.Wk
variable {a b:Row}
section
variable {ds:List Bool} {L:List Row} {p:Row}
theorem cntP_row{f:Nat}(hl:∀ x∈L,x.length=f)(hp:p.length=f): Qy ds L p=(L.filter λx=>decide (Jw x p ds<0)).length:=by
 unfold Qy;congr 1
 refine List.filter_congr λx o=>?_;rw [hp,<-hl x o,List.take_length]
theorem between_eq(hab:Jw a b ds<0)(L:List Row): (L.filter λx=>decide (Jw x b ds<0)).length=(L.filter λx=>decide (Jw x a ds<0)).length+(L.filter λx=>decide (0<=Jw x a ds) && decide (Jw x b ds<0)).length:=by
 induction L with
 | nil=>rfl
 | cons x L ih=>
  simp only [List.filter_cons];by_cases h1:Jw x a ds<0
  .have o:Jw x b ds<0:=(Gz ds).lt_le h1 (Int.le_of_lt hab);simp only [h1,o,decide_true,if_true,List.length_cons,ih,show ¬ (0<=Jw x a ds) by omega,decide_false,Bool.false_and,Bool.false_eq_true,if_false];omega
  .by_cases o:Jw x b ds<0
   .simp only [h1,o,decide_true,if_true,List.length_cons,ih,show (0<=Jw x a ds) by omega,decide_false,Bool.true_and,Bool.false_eq_true,if_false];omega
   .simp only [h1,o,decide_false,ih,Bool.and_false,Bool.false_eq_true,if_false]
theorem between_none(hab:¬ Jw a b ds<0)(L:List Row): (L.filter λx=>decide (0<=Jw x a ds) && decide (Jw x b ds<0)).length=0:=by
 rw [List.filter_eq_nil_iff.2 λx _=>?_];rfl;simp only [Bool.and_eq_true,decide_eq_true_eq,not_and,Int.not_lt];intro G;have u:Jw a x ds<=0:=by have:=Jwk a x ds;omega
 have o:Jw b a ds<=0:=by have:=Jwk a b ds;omega
 have C:=Jbl b a x ds o u;have:=Jwk b x ds;omega
end
open Go.RowKit Pl Go.Wk
attribute [local irreducible] WC WL QX WD WDB WP WN WG WH WM
variable {B0 c1 c2:Nat}
section
variable {w:World} {x:Value} {f:Nat} {ds:List Bool} {kf:Nat->Nat} {pf:Nat->Int} {BB:Nat->List BkT} {tot:Nat} {L:List Row}
theorem ixDesc_any(h:IxV w x f ds kf pf BB tot): Ret Tryz.prog 74 [x] w λu w'=>BoolsV w' u ds/\Ext w w':=by
 obtain ⟨DA,dc,BA,cb,KA,ck,PA,cp,tv,a2,a1,rfl,a3,a4,hD,hB,hK,hP,O,hv⟩:=h.ex;obtain ⟨TA,tc,rfl,_⟩:=id O;have o:=h.dl;have Z:=h.f32;refine Jz Tryz.func74 Tryz.ntmps74 rfl kr rfl ?_;refine ρ ?_;refine bx ?_;intro w1 b C hb U;refine ρ ?_;refine ld (U.at (i:=0) rfl) ?_;refine ρ ?_;have G:=Rd.ext hD C;rw [o]at G;refine cl (Xjx G (λu hu=>?_) om) ?_
 .obtain ⟨b,_,rfl⟩:=List.mem_map.1 hu;rfl
 rintro u w2 ⟨⟨A',c',rfl,a5,hR⟩,J⟩;refine ρ ?_;refine Jq ⟨⟨A',c',by rw [o],om,om,?_⟩,C.trans J⟩;show Rd _ 1 A' ds.length _;rw [o];exact hR
theorem rkBetween_any(tb:TB B0 w)(h:IxA w x f ds kf pf BB tot L)(hl:∀ y∈L,y.length=f){A1 A2:Option Addr}{a b:Row}(ha:RowV w (.slice A1 a.length c1) a)(hb:RowV w (.slice A2 b.length c2) b):
  Ret Tryz.prog 44 [x,.slice A1 a.length c1,.slice A2 b.length c2] w λu w'=>Ext w w'/\(¬ (a.length=f/\b.length=f)->u=.tuple #[.slice none 0 0,.int .i64 6]) /\
   (a.length=f->b.length=f->∃ nv,u=.tuple #[nv,.int .i64 0]/\NatV w' nv (L.filter λy=>decide (0<=Jw y a ds) && decide (Jw y b ds<0)).length):=by
 obtain ⟨DA,dc,BA,cb,KA,ck,ax,cp,tv,ak,aj,rfl,ao,ap,hD,hB,hK,hP,ac,an⟩:=id h.ix.ex;obtain ⟨TA,tc,rfl,_⟩:=id ac;obtain ⟨_,_,ea,af,av,ag⟩:=id ha;injection ea with e1 _ e2
 subst e1;subst e2;obtain ⟨_,_,eb,ad,ar,ae⟩:=id hb;injection eb with e1 _ e2
 subst e1;subst e2;refine Jz Tryz.func44 Tryz.ntmps44 rfl kr rfl ?_;refine ρ ?_;refine bx ?_;intro w1 b3 a8 au a1;refine ρ ?_;refine ldW a1 ?_;refine ρ ?_;refine cl (Jyr (h.ix.ext a8)) ?_;rintro u w2 ⟨rfl,J⟩;have Z:=a8.trans J;refine ρ ?_;by_cases haf:a.length=f
 rotate_left
 .refine Go.Wk.kt 21 ?_ ?_
  .simp;omega
  refine ρ ?_;exact Yw ⟨Z,λ_=>rfl,λe=>absurd e haf⟩
 refine Go.Wk.kf 21 ?_ ?_
 .simp;omega
 refine ρ ?_;refine ldW (a1.ext J) ?_;refine ρ ?_;refine cl (Jyr (h.ix.ext Z)) ?_;rintro u w3 ⟨rfl,a2⟩;have U:=Z.trans a2;refine ρ ?_;refine ci (λhc=>?_) (λhc=>?_)
 .have G:¬ b.length=f:=λe=>by rw [e]at hc;simp at hc
  refine ρ ?_;exact Yw ⟨U,λ_=>rfl,λ_ e=>absurd e G⟩
 have G:b.length=f:=by simp at hc;omega
 clear hc;refine ρ ?_;refine ldW ((a1.ext J).ext a2) ?_;refine ρ ?_;refine cl (ixDesc_any (h.ix.ext U)) ?_;rintro dv w4 ⟨aa,a4⟩;have O:=U.trans a4;obtain ⟨EA,ec,rfl,_⟩:=id aa;refine ρ ?_;refine cl (Qpw (ha.ext O) (hb.ext O) aa) ?_;rintro _ w5 ⟨rfl,a3⟩;have o:=O.trans a3;have ea:=cntP_row (ds:=ds) hl haf;have eb:=cntP_row (ds:=ds) hl G;refine ρ ?_;refine ci (λhc=>?_) (λhc=>?_)
 .have a5:¬ Jw a b ds<0:=by have:=oT hc;omega
  refine ρ ?_;exact Yw ⟨o,λe=>absurd ⟨haf,G⟩ e,λ_ _=>⟨_,rfl,by rw [between_none a5];exact NatV.nil _⟩⟩
 have a5:Jw a b ds<0:=by have:=oF hc;omega
 clear hc;have aq:=between_eq a5 L;refine ρ ?_;refine ldW (((((a1.ext J).ext a2).ext a4).ext a3)) ?_;refine ρ ?_;refine cl (Jkb (tb.ext o) (h.ext o) (Rd.ext ag o) af) ?_;rintro u w6 ⟨a7,_,hu⟩;obtain ⟨kv,st,rfl,hk,_⟩:=hu haf;obtain ⟨UA,uc,rfl,_⟩:=id hk;have C:=o.trans a7;refine ρ ?_;refine ldW ((((((a1.ext J).ext a2).ext a4).ext a3).ext a7)) ?_;refine ρ ?_;refine cl (Jkb (tb.ext C) (h.ext C) (Rd.ext ae C) ad) ?_;rintro u w7 ⟨a6,_,hu⟩;obtain ⟨am,ai,rfl,a9,_⟩:=hu G;obtain ⟨aw,ah,rfl,_⟩:=id a9;refine ρ ?_;refine cl (Qhl a9 (hk.ext a6) (lim1 h.ip b)) ?_;rintro u w8 ⟨⟨y,rfl,hy⟩,ab⟩;obtain ⟨YA,yc,rfl,_⟩:=id hy;rw [ea,eb]at hy ⊢;rw [if_neg (show ¬ (L.filter λx=>decide (Jw x b ds<0)).length<(L.filter λx=>decide (Jw x a ds<0)).length by omega)];rw [show (L.filter λx=>decide (Jw x b ds<0)).length-(L.filter λx=>decide (Jw x a ds<0)).length=(L.filter λy=>decide (0<=Jw y a ds) && decide (Jw y b ds<0)).length by omega]at hy ⊢
 refine ρ ?_;exact Yw ⟨(C.trans a6).trans ab,λe=>absurd ⟨haf,G⟩ e,λ_ _=>⟨_,rfl,hy⟩⟩
end
open Go.RowKit Pl Go.Wk
theorem filter_sn8{α:Type}(F:α->Bool)(l:List α)(x:α): ((l++[x]).filter F).length=(l.filter F).length+if F x=true then 1 else 0:=by
 rw [List.filter_append,List.length_append];congr 1
 by_cases h:F x=true
 .rw [if_pos h,List.filter_cons,if_pos h];rfl
 .rw [if_neg h,List.filter_cons,if_neg h];rfl
end Go.Proofs.YtebcagekopgdhaaGreatDoor
