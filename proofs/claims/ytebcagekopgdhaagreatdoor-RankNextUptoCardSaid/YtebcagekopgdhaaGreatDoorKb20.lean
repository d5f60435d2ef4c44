/- Part 0. -/
import Derived.Test.YtebcagekopgdhaaGreatDoorG19
import Derived.ProofKit
import Derived.OpenShut
import Derived.ShutString
import Derived.ChangeOld
import Derived.Deep.Slices
import Derived.Deep.Fields
import Derived.Test.YtebcagekopgdhaaGreatDoorRows
import Derived.LaidSub
import Derived.Lib.LaidTab
set_option linter.unusedVariables false
set_option maxRecDepth 100000
set_option maxHeartbeats 40000000
namespace Go.Wk
open Go.RowKit
variable {p q:Bool}{x y:Operand}{k:TK}{t t2:TypeId}
section
variable {P:Program} {n:Nat} {al:AL} {w:World} {Q:Exit->Act->World->Prop} {ops:Array Oper} {rest:List Oper} {drest:List (Nat×Oper)}
variable {d ty:Nat} {op:Op} {pos:String} {aft:Array Edge} {tt:TT}
theorem run_neb(hT:TOk P tt)(ht:tk tt t=some k)(hk:k.desc=.bool){a:Act}(ha:Fr n al a)(hx:ev al x=some (.bool p))(hy:ev al y=some (.bool q))(dst:Option Nat)(w:World):
  (execOp a.eval ⟨dst,.binOp .neq t x y t2,ty,pos,aft,none⟩).run P w=.ok (.value (.bool (!(p == q)))) w:=by
 have o:=Vh hT ht hk rfl;have h:∀ d:Nat,(Op.equalIn (d+1) t (.bool p) (.bool q)).run P w=.ok (p == q) w:=λd=>by simp [Op.equalIn,run_underlying o]
 simp [execOp,ha.ev hx,ha.ev hy,eqGuard,binOp,Op.equal,Op.maxDepth,h 9999]
theorem neb[h:Tab P tt](kk:WL P n ops Q rest ((d,.bool (!(p == q)))::al) w)(ht:tk tt t=some k:=by rfl)(hk:k.desc=.bool:=by rfl)(hx:ev al x=some (.bool p):=by rfl)(hy:ev al y=some (.bool q):=by rfl)(hd:Nat.blt d n=true:=by rfl):
  WL P n ops Q (⟨some d,.binOp .neq t x y t2,ty,pos,aft,none⟩::rest) al w:=wop hd (λa o=>run_neb h.ok ht hk o hx hy (some d) w) kk
end
end Go.Wk
namespace Go.Proofs.YtebcagekopgdhaaGreatDoor
open Go.RowKit Pl Go.Wk
attribute [local irreducible] WC WL QX WD WDB WP WN WG WH WM
variable {L:List Row}{c i n:Nat}
theorem RowsV.one{w:World}{A:Option Addr}(h:RowsV w (.slice A n c) L)(hi:i<L.length): ∃ (v:Value) (cs:List Value),Rd w 1 A n cs/\n=L.length/\cs[i]?=some v/\RowV w v (L.getD i []):=by
 obtain ⟨O,J,e,_,_,cs,C,G⟩:=h.parts;injection e with e1 e2 e3
 subst e1;subst e2;obtain ⟨v,o,u⟩:=G i hi;exact ⟨v,cs,C,rfl,o,u⟩
theorem getD_some(h:i<L.length): L[i]?=some (L.getD i []):=by simp [List.getD,List.getElem?_eq_getElem h]
end Go.Proofs.YtebcagekopgdhaaGreatDoor
namespace Go.Wk
open Go.RowKit Go.ChangeShapes Go.WideShapes
section
variable {H:Type} {enc:TypeId×Value->H} {P:Program} {w:World} {base:Nat} {spare:Nat->Bool} {held:Bool}
theorem rd_of{A:Option Addr}{sz len:Nat}{cs:List Value}{ad:Addr}(hA:A=some ad)(hl:cs.length=len*sz)(hc:∀ j u,cs[j]?=some u->w.cell? (ad.add j)=some u): Rd w sz A len cs :=
 ⟨hl,λh0=>⟨ad,hA,by
  have o:=hc 0 cs[0] (List.getElem?_eq_getElem h0);rw [add_zero]at o;exact World.block_lt_of_cell? w ad o,hc⟩⟩
theorem flatMap_one{α:Type}(f:α->Value)(l:List α): l.flatMap (λz=>[f z])=l.map f:=by induction l<;>simp_all
end
end Go.Wk
namespace Go.Proofs.YtebcagekopgdhaaGreatDoor
open Go.RowKit Pl Go.Wk Go.ChangeShapes Go.WideShapes
variable {cs:List Value}{e fuel i n t:Nat}{H α β:Type}
theorem bulk_one(d:DataW H): 1<=Rows.uptoBulk d:=by
 cases d with
 | lit l=>cases l<;>simp [Rows.uptoBulk]
 | nil=>simp [Rows.uptoBulk]
 | ptr d=>simp [Rows.uptoBulk]
 | slice elems spare=>simp [Rows.uptoBulk]
 | agg parts=>simp [Rows.uptoBulk]
 | iface t d=>simp [Rows.uptoBulk]
 | map entries=>simp [Rows.uptoBulk]
 | held h=>simp [Rows.uptoBulk]
theorem bulk_part{d:DataW H}{l:List (DataW H)}(h:d∈l): Rows.uptoBulk d<=Rows.uptoBulkAll l:=by
 induction l with
 | nil=>cases h
 | cons x r ih=>
  simp only [Rows.uptoBulkAll];cases List.mem_cons.1 h with
  | inl e=>subst e;omega
  | inr e=>have:=ih e;omega
theorem bulk_len(l:List (DataW H)): l.length<=Rows.uptoBulkAll l:=by
 induction l with
 | nil=>simp [Rows.uptoBulkAll]
 | cons x r ih=>have:=bulk_one x;simp only [Rows.uptoBulkAll,List.length_cons];omega
section
variable {H:Type} {enc:TypeId×Value->H} {P:Program} {w:World} {base:Nat} {spare:Nat->Bool} {held:Bool} {B:Nat}
theorem open_elemsB{sz:Nat}{x:DataW H×List MemPlace}(X:α->List Value)(R:α->Prop)(ht:P.underlying t=some (.slice e))(hc:P.cellsOf e=sz)(hb:Rows.uptoBulk x.1<=B)(hX:∀ (n:Nat) (cs':List Value) (y:DataW H×List MemPlace),DataW.trod enc P w base spare held n e cs'=some y->Rows.uptoBulk y.1<=B->∃ z:α,cs'=X z/\R z)(h:DataW.trod enc P w base spare held fuel t cs=some x): ∃ (l:List α) (A:Option Addr) (cap:Nat),cs=[.slice A l.length cap]/\Rd w sz A l.length (l.flatMap X)/\(∀ z∈l,R z)/\l.length<=cap/\l.length<=B:=by
 rcases Go.Deep.open_slice ht h with ⟨G,_⟩|⟨a,len,cap,m,n,D,Pl,G,_,hl,hm,hmm,hx,hel⟩
 .exact ⟨[],none,0,G,Rd.nil,(λz J=>by cases J),Nat.le_refl _,Nat.zero_le _⟩
 .subst G;subst hx;have a6:len<=m:=by rw [hmm];split<;>omega
  have a3:Rows.uptoBulkAll ((List.range len).map D)<=B:=by
   simp only [Rows.uptoBulk]at hb;omega
  have a2:len<=B:=by
   have:=bulk_len ((List.range len).map D);simp at this;omega
  have key:∀ k,k<=len->∃ l:List α,l.length=k/\(l.flatMap X).length=k*sz/\(∀ j u,(l.flatMap X)[j]?=some u->w.cell? (a.add j)=some u)/\∀ z∈l,R z:=by
   intro k;induction k with
   | zero=>intro _;exact ⟨[],rfl,by simp,(λj u o=>by simp at o),(λz J=>by cases J)⟩
   | succ k ih=>
    intro hk;obtain ⟨l,h1,U,h3,h4⟩:=ih om;obtain ⟨cs',C,a1⟩:=hel k om;have a5:D k∈(List.range len).map D:=List.mem_map.2 ⟨k,List.mem_range.2 om,rfl⟩;obtain ⟨z,rfl,J⟩:=hX n cs' _ a1 (nL (bulk_part a5) a3);rw [hc]at C;obtain ⟨_,O,a4⟩:=World.cells?_some C;refine ⟨l++[z],by simp [h1],?_,?_,?_⟩
    .rw [List.flatMap_append,List.length_append,U];simp only [List.flatMap_cons,List.flatMap_nil,List.append_nil,O,Nat.add_mul,Nat.one_mul]
    .intro j u o;rw [List.flatMap_append]at o;simp only [List.flatMap_cons,List.flatMap_nil,List.append_nil]at o;rcases Nat.lt_or_ge j (k*sz) with hj|hj
     .rw [List.getElem?_append_left om]at o;exact h3 j u o
     .rw [List.getElem?_append_right om,U]at o;have hb:j-k*sz<sz:=by have:=(List.getElem?_eq_some_iff.1 o).1;omega
      have:=a4 (j-k*sz) hb;rw [add_add]at this;rw [show k*sz+(j-k*sz)=j by omega]at this;rw [this,o]
    .intro z' Z;rcases List.mem_append.1 Z with h'|h'
     .exact h4 z' h'
     .simp at h';subst h';exact J
  obtain ⟨l,h1,U,h3,h4⟩:=key len (Nat.le_refl _);subst h1;exact ⟨l,some a,cap,rfl,rd_of rfl U h3,h4,hl,a2⟩
end
section
variable {H:Type} {enc:TypeId×Value->H} {w:World} {base b0:Nat} {spare:Nat->Bool} {held:Bool}
theorem open_value{y:DataW H×List MemPlace}(h:DataW.trod enc Tryz.prog w base spare held n 47 cs=some y): ∃ v:V,cs=v.cells/\Vt v:=by
 obtain ⟨u,m,_,_,o,C,J⟩:=DataW.trod_struct Tryz.underlying47 h;have G:cs.length=3:=by rw [o];kernel_rfl
 have a1:u.length=3:=C;match cs,G with
 | [c0,c1,c2],_=>
  have U:DataW.trod enc Tryz.prog w base spare held m 3 (([c0,c1,c2].drop 0).take (Tryz.prog.cellsOf 3))=u[0]?:=J 0 _ rfl;have f1:DataW.trod enc Tryz.prog w base spare held m 2 (([c0,c1,c2].drop 1).take (Tryz.prog.cellsOf 2))=u[1]?:=J 1 _ rfl;have O:DataW.trod enc Tryz.prog w base spare held m 9 (([c0,c1,c2].drop 2).take (Tryz.prog.cellsOf 9))=u[2]?:=J 2 _ rfl;rw [show Tryz.prog.cellsOf 3=1 by kernel_rfl,List.getElem?_eq_getElem om]at U;rw [show Tryz.prog.cellsOf 2=1 by kernel_rfl,List.getElem?_eq_getElem om]at f1;rw [show Tryz.prog.cellsOf 9=1 by kernel_rfl,List.getElem?_eq_getElem om]at O;obtain ⟨k,e0,_,wk⟩:=DataW.trod_int Tryz.underlying3 U;obtain ⟨i,e1,_,wi⟩:=DataW.trod_int Tryz.underlying2 f1;obtain ⟨s,Z,_,_⟩:=DataW.trod_string Tryz.underlying9 O;simp at e0 e1 Z;subst e0;subst e1;subst Z;exact ⟨⟨k,i,s⟩,rfl,bounds_i64 wk,bounds_i64 wi⟩
def RowE(w:World)(v:Value)(r:Row): Prop:=RowV w v r/\∀ u∈r,Vt u
theorem open_rowE{y:DataW H×List MemPlace}(h:DataW.trod enc Tryz.prog w base spare held n 37 cs=some y)(hb:Rows.uptoBulk y.1<=1048576): ∃ p:Pr,cs=[p.1]/\RowE w p.1 p.2:=by
 obtain ⟨l,A,o,e,O,J,G,Z⟩:=open_elemsB (sz:=3) V.cells Vt Tryz.underlying37 kr hb (λn U y u _=>open_value u) h;have C:l.length<=1100000:=om
 exact ⟨(.slice A l.length o,l),e,⟨A,o,rfl,G,C,O⟩,J⟩
def RowsE(w:World)(v:Value)(ls:List Row): Prop:=RowsV w v ls/\∀ r∈ls,∀ u∈r,Vt u
theorem open_rowsE{y:DataW H×List MemPlace}(h:DataW.trod enc Tryz.prog w base spare held n 54 cs=some y)(hb:Rows.uptoBulk y.1<=1048576): ∃ p:Value×List Row,cs=[p.1]/\RowsE w p.1 p.2:=by
 obtain ⟨ps,A,o,e,J,G,h3,h4⟩:=open_elemsB (sz:=1) (λp:Pr=>[p.1]) (λp=>RowE w p.1 p.2) Tryz.underlying54 kr hb (λn a1 y O hb=>open_rowE O hb) h;rw [flatMap_one]at J;exact ⟨(.slice A ps.length o,ps.map (·.2)),e,⟨ps,A,o,rfl,rfl,h3,om,J,λp C=>(G p C).1⟩,λr Z u U=>by
  obtain ⟨p,C,rfl⟩:=List.mem_map.1 Z;exact (G p C).2 u U⟩
theorem getD_map(f:α->β)(l:List α)(a:α)(b:β)(h:i<l.length): (l.map f).getD i b=f (l.getD i a):=by simp [List.getD,List.getElem?_eq_getElem h]
theorem open_rowssE{y:DataW H×List MemPlace}(h:DataW.trod enc Tryz.prog w base spare held n 51 cs=some y)(hb:Rows.uptoBulk y.1<=1048576):
  ∃ (A:Option Addr) (c:Nat) (rss:List (List Row)),cs=[.slice A rss.length c]/\RowssV w (.slice A rss.length c) rss/\∀ i,i<rss.length->∀ r∈rss.getD i [],∀ u∈r,Vt u:=by
 obtain ⟨ps,A,C,e,U,O,h3,h4⟩:=open_elemsB (sz:=1) (λp:Value×List Row=>[p.1]) (λp=>RowsE w p.1 p.2) Tryz.underlying51 kr hb (λn a1 y Z hb=>open_rowsE Z hb) h;rw [flatMap_one]at U;have G:(ps.map (·.2)).length=ps.length:=List.length_map _
 have J:∀ i,i<ps.length->(ps.map (·.2)).getD i []=(ps.getD i (.bool false,[])).2:=λi hi=>getD_map (·.2) ps (.bool false,[]) [] hi
 refine ⟨A,C,ps.map (·.2),by rw [G];exact e,⟨A,C,ps.map (·.1),rfl,om,om,by rw [G];exact U,λi hi=>?_⟩,λi hi=>?_⟩
 .have o:i<ps.length:=om
  rw [J i o];exact ⟨(ps.getD i (.bool false,[])).1,by simp [List.getD,List.getElem?_eq_getElem o],(O _ (getD_mem' _ _ o)).1⟩
 .have o:i<ps.length:=om
  rw [J i o];exact (O _ (getD_mem' _ _ o)).2
theorem open_intsE{y:DataW H×List MemPlace}(h:DataW.trod enc Tryz.prog w base spare held n 44 cs=some y)(hb:Rows.uptoBulk y.1<=1048576): ∃ p:Value×List Int,cs=[p.1]/\IntsV w p.1 p.2/\∃ A c,p.1=.slice A p.2.length c:=by
 obtain ⟨l,A,o,e,u,Z,J,U⟩:=open_elemsB (sz:=1) (λz:Int=>[Value.int .i64 z]) (λ_=>True) Tryz.underlying44 kr hb (λn O y C _=>by obtain ⟨z,e,_,_⟩:=DataW.trod_int Tryz.underlying3 C;exact ⟨z,e,trivial⟩) h;rw [flatMap_one]at u;have G:l.length<=1100000:=om
 exact ⟨(.slice A l.length o,l),e,⟨A,o,rfl,J,G,u⟩,A,o,rfl⟩
theorem open_intssE{y:DataW H×List MemPlace}(h:DataW.trod enc Tryz.prog w base spare held n 50 cs=some y)(hb:Rows.uptoBulk y.1<=1048576):
  ∃ (A:Option Addr) (c:Nat) (zss:List (List Int)),cs=[.slice A zss.length c]/\IntssV w (.slice A zss.length c) zss:=by
 obtain ⟨ps,A,u,e,G,U,h3,h4⟩:=open_elemsB (sz:=1) (λp:Value×List Int=>[p.1]) (λp=>IntsV w p.1 p.2) Tryz.underlying50 kr hb (λn Z y J hb=>by obtain ⟨p,e,O,_⟩:=open_intsE J hb;exact ⟨p,e,O⟩) h;rw [flatMap_one]at G;have C:(ps.map (·.2)).length=ps.length:=List.length_map _
 refine ⟨A,u,ps.map (·.2),by rw [C];exact e,⟨A,u,ps.map (·.1),rfl,om,om,by rw [C];exact G,λi hi=>?_⟩⟩
 have o:i<ps.length:=om
 rw [getD_map (·.2) ps (.bool false,[]) [] o]
 exact ⟨(ps.getD i (.bool false,[])).1,by simp [List.getD,List.getElem?_eq_getElem o],U _ (getD_mem' _ _ o)⟩
theorem open_boolsE{y:DataW H×List MemPlace}(h:DataW.trod enc Tryz.prog w base spare held n 24 cs=some y)(hb:Rows.uptoBulk y.1<=1048576): ∃ (A:Option Addr) (c:Nat) (l:List Bool),cs=[.slice A l.length c]/\BoolsV w (.slice A l.length c) l:=by
 obtain ⟨l,A,o,e,u,U,G,O⟩:=open_elemsB (sz:=1) (λz:Bool=>[Value.bool z]) (λ_=>True) Tryz.underlying24 kr hb (λn J y C _=>by obtain ⟨z,e,_⟩:=DataW.trod_bool Tryz.underlying4 C;exact ⟨z,e,trivial⟩) h;rw [flatMap_one]at u;exact ⟨A,o,l,e,⟨A,o,rfl,G,om,u⟩⟩
def CaseE(w:World)(v:Value): Prop:=∃ (cs:List Value) (c:Cse),v=.agg cs.toArray/\CseV w cs c/\∀ i,i<c.rss.length->∀ r∈c.rss.getD i [],∀ u∈r,Vt u
theorem open_case{v:Value}{d:DataW H}{p:List MemPlace}(hv:Value.okWide Tryz.prog w .any b0 53 v)(h:DataW.Trod enc Tryz.prog w base spare held 53 v d p)(hb:Rows.uptoBulk d<=1048576): CaseE w v:=by
 simp only [Value.okWide,Tryz.underlying53]at hv;obtain ⟨cs,rfl,h2,_⟩:=hv;rw [show Tryz.prog.cellsOf 53=6 by kernel_rfl]at h2;obtain ⟨l⟩:=cs;obtain ⟨a2,h⟩:=h;match l,h2 with
 | [c0,c1,c2,c3,c4,c5],_=>
  obtain ⟨o,m,_,Z,a1,U,u⟩:=DataW.trod_struct Tryz.underlying53 h;have a3:o.length=6:=U;injection Z with Z _
  subst Z;have J:∀ i (hi:i<o.length),Rows.uptoBulk o[i].1<=1048576:=λi hi=>by
   have h1:o[i].1∈o.map (·.1):=List.mem_map.2 ⟨o[i],List.getElem_mem hi,rfl⟩
   have h2:=bulk_part h1;simp only [Rows.uptoBulk]at hb;omega
  have f0:DataW.trod enc Tryz.prog w base spare held m 3 (([c0,c1,c2,c3,c4,c5].drop 0).take (Tryz.prog.cellsOf 3))=o[0]?:=u 0 _ rfl;have f1:DataW.trod enc Tryz.prog w base spare held m 3 (([c0,c1,c2,c3,c4,c5].drop 1).take (Tryz.prog.cellsOf 3))=o[1]?:=u 1 _ rfl;have f2:DataW.trod enc Tryz.prog w base spare held m 24 (([c0,c1,c2,c3,c4,c5].drop 2).take (Tryz.prog.cellsOf 24))=o[2]?:=u 2 _ rfl;have f3:DataW.trod enc Tryz.prog w base spare held m 44 (([c0,c1,c2,c3,c4,c5].drop 3).take (Tryz.prog.cellsOf 44))=o[3]?:=u 3 _ rfl;have f4:DataW.trod enc Tryz.prog w base spare held m 50 (([c0,c1,c2,c3,c4,c5].drop 4).take (Tryz.prog.cellsOf 50))=o[4]?:=u 4 _ rfl;have f5:DataW.trod enc Tryz.prog w base spare held m 51 (([c0,c1,c2,c3,c4,c5].drop 5).take (Tryz.prog.cellsOf 51))=o[5]?:=u 5 _ rfl;rw [show Tryz.prog.cellsOf 3=1 by kernel_rfl,List.getElem?_eq_getElem om]at f0 f1;rw [show Tryz.prog.cellsOf 24=1 by kernel_rfl,List.getElem?_eq_getElem om]at f2
  rw [show Tryz.prog.cellsOf 44=1 by kernel_rfl,List.getElem?_eq_getElem om]at f3;rw [show Tryz.prog.cellsOf 50=1 by kernel_rfl,List.getElem?_eq_getElem om]at f4;rw [show Tryz.prog.cellsOf 51=1 by kernel_rfl,List.getElem?_eq_getElem om]at f5;obtain ⟨n,e0,_,w0⟩:=DataW.trod_int Tryz.underlying3 f0;obtain ⟨f,e1,_,w1⟩:=DataW.trod_int Tryz.underlying3 f1;obtain ⟨A2,k2,ds,e2,g2⟩:=open_boolsE f2 (J 2 om);obtain ⟨⟨p3,pm⟩,e3,g3,A3,k3,G⟩:=open_intsE f3 (J 3 om);simp only at G g3 e3;subst G;obtain ⟨A4,k4,vs,e4,g4⟩:=open_intssE f4 (J 4 om);obtain ⟨A5,k5,O,e5,g5,C⟩:=open_rowssE f5 (J 5 om);simp at e0 e1 e2 e3 e4 e5;subst e0;subst e1;subst e2;subst e3;subst e4;subst e5;exact ⟨_,⟨n,f,ds,pm,vs,O⟩,rfl,⟨A2,k2,A3,k3,A4,k4,A5,k5,rfl,g2,g3,g4,g5,bounds_i64 w0,bounds_i64 w1⟩,C⟩
end
theorem gPow: Tryz.prog.globalNamed "internal/strconv.uint64pow10" = some 1:=kr
theorem gPowT: (Tryz.prog.globals[1]?).map (·.type)=some 315:=kr
theorem tb_of_laid{W:World}(h:laidMetH Tryz.prog Rows.walkPiecesUptoRow.laid W): TB W.heap.size W:=by
 refine ⟨Nat.le_refl _,Lib.tabBelow_of_tabIs ?_⟩;have o:=h.filter (λx=>x.1 == "internal/strconv.uint64pow10");exact Lib.tabIs_of_head (rest:=[]) gPow gPowT Tryz.underlying315 Tryz.underlying22 kr kr o
def layOn(d:DataW Unit): Obj->Obj
 | .cells _ t z=>.cells (match d with
  | .agg ps=>(ps.map fun
   | .lit (.int k z)=>Value.int k z
   | _=>Value.bool false).toArray
  | _=>#[]) t z
 | o=>o
open Go.RowKit Pl Go.Wk Go.ChangeShapes Go.WideShapes
section
variable {H:Type} {enc:TypeId×Value->H} {w:World} {base b0:Nat} {spare:Nat->Bool} {held:Bool}
theorem open_rowA{v:Value}{d:DataW H}{p:List MemPlace}(hv:Value.okWide Tryz.prog w .any b0 37 v)(h:DataW.Trod enc Tryz.prog w base spare held 37 v d p)(hb:Rows.uptoBulk d<=1048576): ∃ r,RowE w v r:=by
 obtain ⟨a,len,o,rfl⟩:=okWide_slice Tryz.underlying37 hv;obtain ⟨u,G⟩:=h;obtain ⟨q,e,C⟩:=open_rowE G hb;have J:Value.slice a len o=q.1:=by
  injection e
 exact ⟨q.2,J ▸ C⟩
end
open Go.RowKit Pl Go.Wk
section
variable {ds:List Bool} {L:List Row} {p:Row}
theorem cntP_row{f:Nat}(hl:∀ x∈L,x.length=f)(hp:p.length=f): Qy ds L p=(L.filter λx=>decide (Jw x p ds<0)).length:=by
 unfold Qy;congr 1
 refine List.filter_congr λx o=>?_;rw [hp,<-hl x o,List.take_length]
end
open Go.RowKit Pl Go.Wk
attribute [local irreducible] WC WL QX WD WDB WP WN WG WH WM
section
variable {w:World} {x:Value} {f:Nat} {ds:List Bool} {kf:Nat->Nat} {pf:Nat->Int} {BB:Nat->List BkT} {tot:Nat} {L:List Row}
end
theorem ref42Before_any{w:World}{LA D1 A1:Option Addr}{lc dc c1:Nat}{L:List Row}{a:Row}{ds:List Bool}(hL:RowsV w (.slice LA L.length lc) L)(ha:RowV w (.slice A1 a.length c1) a)(hd:BoolsV w (.slice D1 ds.length dc) ds):
  Ret Tryz.prog 38 [.slice LA L.length lc,.slice A1 a.length c1,.slice D1 ds.length dc] w λu w'=>u=.tuple #[.int .i64 ((L.filter λy=>decide (Jw y a ds<0)).length:Nat),.bool (decide (a∈L))]/\Ext w w':=by
 obtain ⟨_,_,eA,_,a7,a6,G,a5⟩:=hL.parts;injection eA with e1 e2 e3
 subst e1;subst e3;refine Jz Tryz.func38 Tryz.ntmps38 rfl kr rfl ?_;refine ρ ?_;refine Je (fun (i:Nat) (t:Bool)=>[(0,.slice LA L.length lc),(1,.slice A1 a.length c1),(2,.slice D1 ds.length dc),(8,.int .i64 (((L.take i).filter λy=>decide (Jw y a ds<0)).length:Nat)),(9,.bool t),(10,.int .i64 (i:Int))])
  (λi t w'=>i<=L.length/\Ext w w'/\t=decide (a∈L.take i)) (λi _=>L.length-i) 0 false sB ⟨Nat.zero_le _,Ext.refl _,by simp⟩ ?_
 rintro i t w1 ⟨hi,C,ht⟩;have a8:((L.take i).filter λy=>decide (Jw y a ds<0)).length<=i:=nL (List.length_filter_le _ _) (by rw [List.length_take];omega);refine ρ ?_;refine ci (λJ=>?_) (λJ=>?_)
 .have Z:i<L.length:=by have:=oT J;omega
  clear J;obtain ⟨v,hv,hr⟩:=a5 i Z;obtain ⟨X1,x1,rfl,_⟩:=id hr;have O:L.take (i+1)=L.take i++[L.getD i []]:=Qb [] Z;refine ρ ?_;refine ix i (G.ext C) Z ?_;refine ρ ?_;refine ld ((G.ext C).cell hv) ?_;refine ρ ?_;refine cl (Jrs (hr.ext C) (ha.ext C) (hd.ext C)) ?_;rintro _ w2 ⟨⟨z,rfl,hz,_⟩,a3⟩;refine ρ ?_;have U:((L.take (i+1)).filter λy=>decide (Jw y a ds<0)).length=((L.take i).filter λy=>decide (Jw y a ds<0)).length+if Jw (L.getD i []) a ds<0 then 1 else 0:=by
   rw [O,List.filter_append,List.length_append];congr 1
   by_cases h:Jw (L.getD i []) a ds<0
   .rw [if_pos h,List.filter_cons,if_pos (decide_eq_true h)];rfl
   .rw [if_neg h,List.filter_cons,if_neg (by rw [decide_eq_false h];decide)];rfl
  refine Qvl [(0,.slice LA L.length lc),(1,.slice A1 a.length c1),(2,.slice D1 ds.length dc),(8,.int .i64 (((L.take (i+1)).filter λy=>decide (Jw y a ds<0)).length:Nat)),(9,.bool t),(10,.int .i64 (i:Int))] (λw'=>Ext w2 w') ?_ ?_
  .refine ci (λJ=>?_) (λJ=>?_)
   .rw [if_pos (hz.1 (oT J))]at U;refine ρ ?_;exact Jsc sO (Ext.refl _)
   .rw [if_neg (λe=>absurd (hz.2 e) (oF J))]at U;refine ρ ?_;exact Jsc sO (Ext.refl _)
  intro w3 a2;have o:=(C.trans a3).trans a2;have h9:decide (a∈L.take (i+1))=(t || decide (L.getD i []=a)):=by
   rw [ht,O];simp only [List.mem_append,List.mem_singleton,Bool.decide_or];congr 1
   exact decide_eq_decide.2 ⟨λe=>e.symm,λe=>e.symm⟩
  refine ρ ?_;refine ki 28 (λhm=>?_) (λhm=>?_)
  .refine ρ ?_;exact Jl (i+1) true sO ⟨om,o,by rw [h9,hm];rfl⟩ om
  .refine ρ ?_;refine ix i (G.ext o) Z ?_;refine ρ ?_;refine ld ((G.ext o).cell hv) ?_;refine ρ ?_;refine cl (Jvn (hr.ext o) (ha.ext o)) ?_;rintro _ w4 ⟨rfl,a1⟩;refine ρ ?_;exact Jl (i+1) (decide (L.getD i []=a)) sO ⟨om,o.trans a1,by rw [h9,hm];rfl⟩ om
 .have a4:i=L.length:=by have:=oF J;omega
  rw [a4,List.take_length]at ht ⊢;subst ht;refine ρ ?_;exact Yw ⟨rfl,C⟩
open Go.RowKit Pl Go.Wk
theorem wi_mem{L:List Row}{p:Row}{f:Nat}(hl:∀ y∈L,y.length=f)(hp:p.length=f): decide (0<(wiL L p).length)=decide (p∈L):=by
 refine decide_eq_decide.2 ⟨λh=>?_,λh=>?_⟩
 .obtain ⟨y,C⟩:=List.exists_mem_of_length_pos h;obtain ⟨u,G⟩:=List.mem_filter.1 C;have o:y.take p.length=p:=by simpa using G
  rw [hp,<-hl y u,List.take_length]at o;rw [<-o];exact u
 .refine List.length_pos_of_mem (a:=p) (List.mem_filter.2 ⟨h,?_⟩);simp
end Go.Proofs.YtebcagekopgdhaaGreatDoor
