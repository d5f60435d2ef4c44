/- Part 1. -/
import Derived.Test.YtebcagekopgdhaaGreatDoorKwx45
import Derived.ProofKit
import Derived.OpenShut
import Derived.ShutString
import Derived.ChangeOld
import Derived.Deep.Slices
import Derived.Deep.Fields
import Derived.Test.YtebcagekopgdhaaGreatDoorRows
import Derived.LaidSub
import Derived.Lib.LaidTab
set_option linter.unusedVariables false
set_option maxRecDepth 100000
set_option maxHeartbeats 40000000
namespace Go.Proofs.YtebcagekopgdhaaGreatDoor
open Go.RowKit Pl Go.Wk
attribute [local irreducible] WC WL QX WD WDB WP WN WG WH WM
theorem bldNum(n:Int)(w:World): (Instr.build 47 #[(0,.int .i64 1),(1,.int .i64 n)]).run Tryz.prog w=.ok (nV n).val w:=kr
theorem bs2V(a b:V)(w:World): (Instr.buildSlice 37 2 #[(0,a.val),(1,b.val)]).run Tryz.prog w=.ok (.slice (some ⟨w.heap.size,0,none⟩) 2 2) (w.alloc (.cells (Jl [a,b]).toArray 47)):=kr
theorem bs3R(A1 A2 A3:Option Addr)(n1 n2 n3 c1 c2 c3:Nat)(w:World): (Instr.buildSlice 54 3 #[(0,.slice A1 n1 c1),(1,.slice A2 n2 c2),(2,.slice A3 n3 c3)]).run Tryz.prog w=.ok (.slice (some ⟨w.heap.size,0,none⟩) 3 3) (w.alloc (.cells [.slice A1 n1 c1,.slice A2 n2 c2,.slice A3 n3 c3].toArray 37)):=kr
theorem bs1RR(A1:Option Addr)(n1 c1:Nat)(w:World): (Instr.buildSlice 51 1 #[(0,.slice A1 n1 c1)]).run Tryz.prog w=.ok (.slice (some ⟨w.heap.size,0,none⟩) 1 1) (w.alloc (.cells [.slice A1 n1 c1].toArray 54)):=kr
theorem bs1II(A1:Option Addr)(n1 c1:Nat)(w:World): (Instr.buildSlice 50 1 #[(0,.slice A1 n1 c1)]).run Tryz.prog w=.ok (.slice (some ⟨w.heap.size,0,none⟩) 1 1) (w.alloc (.cells [.slice A1 n1 c1].toArray 44)):=kr
theorem bs2I(a b:Int)(w:World): (Instr.buildSlice 44 2 #[(0,.int .i64 a),(1,.int .i64 b)]).run Tryz.prog w=.ok (.slice (some ⟨w.heap.size,0,none⟩) 2 2) (w.alloc (.cells [Value.int .i64 a,.int .i64 b].toArray 3)):=kr
theorem bldCase(A B C:Option Addr)(a b c a' b' c':Nat)(w:World): (Instr.build 53 #[(0,.int .i64 2),(1,.int .i64 2),(2,.slice A a a'),(4,.slice B b b'),(5,.slice C c c')]).run Tryz.prog w=.ok (.agg #[.int .i64 2,.int .i64 2,.slice A a a',.slice none 0 0,.slice B b b',.slice C c c']) w:=kr
theorem litRow{w:World}{b:Nat}{r:Row}(h:Blk w b 47 (Jl r))(hl:r.length<=1100000): RowV w (.slice (some ⟨b,0,none⟩) r.length r.length) r:=⟨some ⟨b,0,none⟩,r.length,rfl,Nat.le_refl _,hl,h.rd (Jnd r)⟩
theorem litRows{w:World}{b:Nat}(ps:List Pr)(h:Blk w b 37 (ps.map (·.1)))(hr:∀ p∈ps,RowV w p.1 p.2)(hl:ps.length<=1100000): RowsV w (.slice (some ⟨b,0,none⟩) ps.length ps.length) (ps.map (·.2)):=⟨ps,some ⟨b,0,none⟩,ps.length,rfl,rfl,Nat.le_refl _,hl,h.rd (by simp),hr⟩
open Go.RowKit Pl Go.Wk
theorem natOf_wrap{i:Nat}(h:i<18446744073709551616)(w:World): Ret Tryz.prog 16 [.int .u64 (IntKind.u64.wrap (i:Int))] w λv w'=>NatV w' v i/\Ext w w':=by
 rw [Gz (z:=(i:Int)) om];exact (Jcq i h w).mono λv w' h=>⟨h.1,h.2.2⟩
theorem getD_some{L:List Row}{i:Nat}(h:i<L.length): L[i]?=some (L.getD i []):=by simp [List.getD,List.getElem?_eq_getElem h]
end Go.Proofs.YtebcagekopgdhaaGreatDoor
namespace Go.Wk
open Go.RowKit Go.ChangeShapes Go.WideShapes
section
variable {H:Type} {enc:TypeId×Value->H} {P:Program} {w:World} {base:Nat} {spare:Nat->Bool} {held:Bool}
theorem rd_of{A:Option Addr}{sz len:Nat}{cs:List Value}{ad:Addr}(hA:A=some ad)(hl:cs.length=len*sz)(hc:∀ j u,cs[j]?=some u->w.cell? (ad.add j)=some u): Rd w sz A len cs :=
 ⟨hl,λh0=>⟨ad,hA,by
  have o:=hc 0 cs[0] (List.getElem?_eq_getElem h0);rw [add_zero]at o;exact World.block_lt_of_cell? w ad o,hc⟩⟩
theorem flatMap_one{α:Type}(f:α->Value)(l:List α): l.flatMap (λz=>[f z])=l.map f:=by induction l<;>simp_all
end
end Go.Wk
namespace Go.Proofs.YtebcagekopgdhaaGreatDoor
open Go.RowKit Pl Go.Wk Go.ChangeShapes Go.WideShapes
theorem bulk_one{H:Type}(d:DataW H): 1<=Rows.uptoBulk d:=by
 cases d with
 | lit l=>cases l<;>simp [Rows.uptoBulk]
 | nil=>simp [Rows.uptoBulk]
 | ptr d=>simp [Rows.uptoBulk]
 | slice elems spare=>simp [Rows.uptoBulk]
 | agg parts=>simp [Rows.uptoBulk]
 | iface t d=>simp [Rows.uptoBulk]
 | map entries=>simp [Rows.uptoBulk]
 | held h=>simp [Rows.uptoBulk]
theorem bulk_part{H:Type}{d:DataW H}{l:List (DataW H)}(h:d∈l): Rows.uptoBulk d<=Rows.uptoBulkAll l:=by
 induction l with
 | nil=>cases h
 | cons x r ih=>
  simp only [Rows.uptoBulkAll];cases List.mem_cons.1 h with
  | inl e=>subst e;omega
  | inr e=>have:=ih e;omega
theorem bulk_len{H:Type}(l:List (DataW H)): l.length<=Rows.uptoBulkAll l:=by
 induction l with
 | nil=>simp [Rows.uptoBulkAll]
 | cons x r ih=>have:=bulk_one x;simp only [Rows.uptoBulkAll,List.length_cons];omega
section
variable {H:Type} {enc:TypeId×Value->H} {P:Program} {w:World} {base:Nat} {spare:Nat->Bool} {held:Bool} {B:Nat}
theorem open_elemsB{α:Type}{t e sz:Nat}{fuel:Nat}{cs:List Value}{x:DataW H×List MemPlace}(X:α->List Value)(R:α->Prop)(ht:P.underlying t=some (.slice e))(hc:P.cellsOf e=sz)(hb:Rows.uptoBulk x.1<=B)(hX:∀ (n:Nat) (cs':List Value) (y:DataW H×List MemPlace),DataW.trod enc P w base spare held n e cs'=some y->Rows.uptoBulk y.1<=B->∃ z:α,cs'=X z/\R z)(h:DataW.trod enc P w base spare held fuel t cs=some x): ∃ (l:List α) (A:Option Addr) (cap:Nat),cs=[.slice A l.length cap]/\Rd w sz A l.length (l.flatMap X)/\(∀ z∈l,R z)/\l.length<=cap/\l.length<=B:=by
 rcases Go.Deep.open_slice ht h with ⟨G,_⟩|⟨a,len,cap,m,n,D,Pl,G,_,hl,hm,hmm,hx,hel⟩
 .exact ⟨[],none,0,G,Rd.nil,(λz J=>by cases J),Nat.le_refl _,Nat.zero_le _⟩
 .subst G;subst hx;have a6:len<=m:=by rw [hmm];split<;>omega
  have a3:Rows.uptoBulkAll ((List.range len).map D)<=B:=by
   simp only [Rows.uptoBulk]at hb;omega
  have a2:len<=B:=by
   have:=bulk_len ((List.range len).map D);simp at this;omega
  have key:∀ k,k<=len->∃ l:List α,l.length=k/\(l.flatMap X).length=k*sz/\(∀ j u,(l.flatMap X)[j]?=some u->w.cell? (a.add j)=some u)/\∀ z∈l,R z:=by
   intro k;induction k with
   | zero=>intro _;exact ⟨[],rfl,by simp,(λj u o=>by simp at o),(λz J=>by cases J)⟩
   | succ k ih=>
    intro hk;obtain ⟨l,h1,U,h3,h4⟩:=ih om;obtain ⟨cs',C,a1⟩:=hel k om;have a5:D k∈(List.range len).map D:=List.mem_map.2 ⟨k,List.mem_range.2 om,rfl⟩;obtain ⟨z,rfl,J⟩:=hX n cs' _ a1 (nL (bulk_part a5) a3);rw [hc]at C;obtain ⟨_,O,a4⟩:=World.cells?_some C;refine ⟨l++[z],by simp [h1],?_,?_,?_⟩
    .rw [List.flatMap_append,List.length_append,U];simp only [List.flatMap_cons,List.flatMap_nil,List.append_nil,O,Nat.add_mul,Nat.one_mul]
    .intro j u o;rw [List.flatMap_append]at o;simp only [List.flatMap_cons,List.flatMap_nil,List.append_nil]at o;rcases Nat.lt_or_ge j (k*sz) with hj|hj
     .rw [List.getElem?_append_left om]at o;exact h3 j u o
     .rw [List.getElem?_append_right om,U]at o;have hb:j-k*sz<sz:=by have:=(List.getElem?_eq_some_iff.1 o).1;omega
      have:=a4 (j-k*sz) hb;rw [add_add]at this;rw [show k*sz+(j-k*sz)=j by omega]at this;rw [this,o]
    .intro z' Z;rcases List.mem_append.1 Z with h'|h'
     .exact h4 z' h'
     .simp at h';subst h';exact J
  obtain ⟨l,h1,U,h3,h4⟩:=key len (Nat.le_refl _);subst h1;exact ⟨l,some a,cap,rfl,rd_of rfl U h3,h4,hl,a2⟩
end
section
variable {H:Type} {enc:TypeId×Value->H} {w:World} {base b0:Nat} {spare:Nat->Bool} {held:Bool}
theorem open_value{n:Nat}{cs:List Value}{y:DataW H×List MemPlace}(h:DataW.trod enc Tryz.prog w base spare held n 47 cs=some y): ∃ v:V,cs=v.cells/\Va v:=by
 obtain ⟨u,m,_,_,o,C,J⟩:=DataW.trod_struct Tryz.underlying47 h;have G:cs.length=3:=by rw [o];kernel_rfl
 have a1:u.length=3:=C;match cs,G with
 | [c0,c1,c2],_=>
  have U:DataW.trod enc Tryz.prog w base spare held m 3 (([c0,c1,c2].drop 0).take (Tryz.prog.cellsOf 3))=u[0]?:=J 0 _ rfl;have f1:DataW.trod enc Tryz.prog w base spare held m 2 (([c0,c1,c2].drop 1).take (Tryz.prog.cellsOf 2))=u[1]?:=J 1 _ rfl;have O:DataW.trod enc Tryz.prog w base spare held m 9 (([c0,c1,c2].drop 2).take (Tryz.prog.cellsOf 9))=u[2]?:=J 2 _ rfl;rw [show Tryz.prog.cellsOf 3=1 by kernel_rfl,List.getElem?_eq_getElem om]at U;rw [show Tryz.prog.cellsOf 2=1 by kernel_rfl,List.getElem?_eq_getElem om]at f1;rw [show Tryz.prog.cellsOf 9=1 by kernel_rfl,List.getElem?_eq_getElem om]at O;obtain ⟨k,e0,_,wk⟩:=DataW.trod_int Tryz.underlying3 U;obtain ⟨i,e1,_,wi⟩:=DataW.trod_int Tryz.underlying2 f1;obtain ⟨s,Z,_,_⟩:=DataW.trod_string Tryz.underlying9 O;simp at e0 e1 Z;subst e0;subst e1;subst Z;exact ⟨⟨k,i,s⟩,rfl,bounds_i64 wk,bounds_i64 wi⟩
def RowE(w:World)(v:Value)(r:Row): Prop:=RowV w v r/\∀ u∈r,Va u
theorem open_rowE{n:Nat}{cs:List Value}{y:DataW H×List MemPlace}(h:DataW.trod enc Tryz.prog w base spare held n 37 cs=some y)(hb:Rows.uptoBulk y.1<=1048576): ∃ p:Pr,cs=[p.1]/\RowE w p.1 p.2:=by
 obtain ⟨l,A,o,e,O,J,G,Z⟩:=open_elemsB (sz:=3) V.cells Va Tryz.underlying37 kr hb (λn U y u _=>open_value u) h;have C:l.length<=1100000:=om
 exact ⟨(.slice A l.length o,l),e,⟨A,o,rfl,G,C,O⟩,J⟩
def RowsE(w:World)(v:Value)(ls:List Row): Prop:=RowsV w v ls/\∀ r∈ls,∀ u∈r,Va u
theorem open_rowsE{n:Nat}{cs:List Value}{y:DataW H×List MemPlace}(h:DataW.trod enc Tryz.prog w base spare held n 54 cs=some y)(hb:Rows.uptoBulk y.1<=1048576): ∃ p:Value×List Row,cs=[p.1]/\RowsE w p.1 p.2:=by
 obtain ⟨ps,A,o,e,J,G,h3,h4⟩:=open_elemsB (sz:=1) (λp:Pr=>[p.1]) (λp=>RowE w p.1 p.2) Tryz.underlying54 kr hb (λn a1 y O hb=>open_rowE O hb) h;rw [flatMap_one]at J;exact ⟨(.slice A ps.length o,ps.map (·.2)),e,⟨ps,A,o,rfl,rfl,h3,om,J,λp C=>(G p C).1⟩,λr Z u U=>by
  obtain ⟨p,C,rfl⟩:=List.mem_map.1 Z;exact (G p C).2 u U⟩
theorem getD_map{α β:Type}(f:α->β)(l:List α)(a:α)(b:β){i:Nat}(h:i<l.length): (l.map f).getD i b=f (l.getD i a):=by simp [List.getD,List.getElem?_eq_getElem h]
theorem open_rowssE{n:Nat}{cs:List Value}{y:DataW H×List MemPlace}(h:DataW.trod enc Tryz.prog w base spare held n 51 cs=some y)(hb:Rows.uptoBulk y.1<=1048576):
  ∃ (A:Option Addr) (c:Nat) (rss:List (List Row)),cs=[.slice A rss.length c]/\RowssV w (.slice A rss.length c) rss/\∀ i,i<rss.length->∀ r∈rss.getD i [],∀ u∈r,Va u:=by
 obtain ⟨ps,A,C,e,U,O,h3,h4⟩:=open_elemsB (sz:=1) (λp:Value×List Row=>[p.1]) (λp=>RowsE w p.1 p.2) Tryz.underlying51 kr hb (λn a1 y Z hb=>open_rowsE Z hb) h;rw [flatMap_one]at U;have G:(ps.map (·.2)).length=ps.length:=List.length_map _
 have J:∀ i,i<ps.length->(ps.map (·.2)).getD i []=(ps.getD i (.bool false,[])).2:=λi hi=>getD_map (·.2) ps (.bool false,[]) [] hi
 refine ⟨A,C,ps.map (·.2),by rw [G];exact e,⟨A,C,ps.map (·.1),rfl,om,om,by rw [G];exact U,λi hi=>?_⟩,λi hi=>?_⟩
 .have o:i<ps.length:=om
  rw [J i o];exact ⟨(ps.getD i (.bool false,[])).1,by simp [List.getD,List.getElem?_eq_getElem o],(O _ (getD_mem' _ _ o)).1⟩
 .have o:i<ps.length:=om
  rw [J i o];exact (O _ (getD_mem' _ _ o)).2
theorem open_intsE{n:Nat}{cs:List Value}{y:DataW H×List MemPlace}(h:DataW.trod enc Tryz.prog w base spare held n 44 cs=some y)(hb:Rows.uptoBulk y.1<=1048576): ∃ p:Value×List Int,cs=[p.1]/\IntsV w p.1 p.2/\∃ A c,p.1=.slice A p.2.length c:=by
 obtain ⟨l,A,o,e,u,Z,J,U⟩:=open_elemsB (sz:=1) (λz:Int=>[Value.int .i64 z]) (λ_=>True) Tryz.underlying44 kr hb (λn O y C _=>by obtain ⟨z,e,_,_⟩:=DataW.trod_int Tryz.underlying3 C;exact ⟨z,e,trivial⟩) h;rw [flatMap_one]at u;have G:l.length<=1100000:=om
 exact ⟨(.slice A l.length o,l),e,⟨A,o,rfl,J,G,u⟩,A,o,rfl⟩
theorem open_intssE{n:Nat}{cs:List Value}{y:DataW H×List MemPlace}(h:DataW.trod enc Tryz.prog w base spare held n 50 cs=some y)(hb:Rows.uptoBulk y.1<=1048576):
  ∃ (A:Option Addr) (c:Nat) (zss:List (List Int)),cs=[.slice A zss.length c]/\IntssV w (.slice A zss.length c) zss:=by
 obtain ⟨ps,A,u,e,G,U,h3,h4⟩:=open_elemsB (sz:=1) (λp:Value×List Int=>[p.1]) (λp=>IntsV w p.1 p.2) Tryz.underlying50 kr hb (λn Z y J hb=>by obtain ⟨p,e,O,_⟩:=open_intsE J hb;exact ⟨p,e,O⟩) h;rw [flatMap_one]at G;have C:(ps.map (·.2)).length=ps.length:=List.length_map _
 refine ⟨A,u,ps.map (·.2),by rw [C];exact e,⟨A,u,ps.map (·.1),rfl,om,om,by rw [C];exact G,λi hi=>?_⟩⟩
 have o:i<ps.length:=om
 rw [getD_map (·.2) ps (.bool false,[]) [] o]
 exact ⟨(ps.getD i (.bool false,[])).1,by simp [List.getD,List.getElem?_eq_getElem o],U _ (getD_mem' _ _ o)⟩
theorem open_boolsE{n:Nat}{cs:List Value}{y:DataW H×List MemPlace}(h:DataW.trod enc Tryz.prog w base spare held n 24 cs=some y)(hb:Rows.uptoBulk y.1<=1048576): ∃ (A:Option Addr) (c:Nat) (l:List Bool),cs=[.slice A l.length c]/\BoolsV w (.slice A l.length c) l:=by
 obtain ⟨l,A,o,e,u,U,G,O⟩:=open_elemsB (sz:=1) (λz:Bool=>[Value.bool z]) (λ_=>True) Tryz.underlying24 kr hb (λn J y C _=>by obtain ⟨z,e,_⟩:=DataW.trod_bool Tryz.underlying4 C;exact ⟨z,e,trivial⟩) h;rw [flatMap_one]at u;exact ⟨A,o,l,e,⟨A,o,rfl,G,om,u⟩⟩
def CaseE(w:World)(v:Value): Prop:=∃ (cs:List Value) (c:Cse),v=.agg cs.toArray/\CseV w cs c/\∀ i,i<c.rss.length->∀ r∈c.rss.getD i [],∀ u∈r,Va u
theorem open_case{v:Value}{d:DataW H}{p:List MemPlace}(hv:Value.okWide Tryz.prog w .any b0 53 v)(h:DataW.Trod enc Tryz.prog w base spare held 53 v d p)(hb:Rows.uptoBulk d<=1048576): CaseE w v:=by
 simp only [Value.okWide,Tryz.underlying53]at hv;obtain ⟨cs,rfl,h2,_⟩:=hv;rw [show Tryz.prog.cellsOf 53=6 by kernel_rfl]at h2;obtain ⟨l⟩:=cs;obtain ⟨a2,h⟩:=h;match l,h2 with
 | [c0,c1,c2,c3,c4,c5],_=>
  obtain ⟨o,m,_,Z,a1,U,u⟩:=DataW.trod_struct Tryz.underlying53 h;have a3:o.length=6:=U;injection Z with Z _
  subst Z;have J:∀ i (hi:i<o.length),Rows.uptoBulk o[i].1<=1048576:=λi hi=>by
   have h1:o[i].1∈o.map (·.1):=List.mem_map.2 ⟨o[i],List.getElem_mem hi,rfl⟩
   have h2:=bulk_part h1;simp only [Rows.uptoBulk]at hb;omega
  have f0:DataW.trod enc Tryz.prog w base spare held m 3 (([c0,c1,c2,c3,c4,c5].drop 0).take (Tryz.prog.cellsOf 3))=o[0]?:=u 0 _ rfl;have f1:DataW.trod enc Tryz.prog w base spare held m 3 (([c0,c1,c2,c3,c4,c5].drop 1).take (Tryz.prog.cellsOf 3))=o[1]?:=u 1 _ rfl;have f2:DataW.trod enc Tryz.prog w base spare held m 24 (([c0,c1,c2,c3,c4,c5].drop 2).take (Tryz.prog.cellsOf 24))=o[2]?:=u 2 _ rfl;have f3:DataW.trod enc Tryz.prog w base spare held m 44 (([c0,c1,c2,c3,c4,c5].drop 3).take (Tryz.prog.cellsOf 44))=o[3]?:=u 3 _ rfl;have f4:DataW.trod enc Tryz.prog w base spare held m 50 (([c0,c1,c2,c3,c4,c5].drop 4).take (Tryz.prog.cellsOf 50))=o[4]?:=u 4 _ rfl;have f5:DataW.trod enc Tryz.prog w base spare held m 51 (([c0,c1,c2,c3,c4,c5].drop 5).take (Tryz.prog.cellsOf 51))=o[5]?:=u 5 _ rfl;rw [show Tryz.prog.cellsOf 3=1 by kernel_rfl,List.getElem?_eq_getElem om]at f0 f1;rw [show Tryz.prog.cellsOf 24=1 by kernel_rfl,List.getElem?_eq_getElem om]at f2
  rw [show Tryz.prog.cellsOf 44=1 by kernel_rfl,List.getElem?_eq_getElem om]at f3;rw [show Tryz.prog.cellsOf 50=1 by kernel_rfl,List.getElem?_eq_getElem om]at f4;rw [show Tryz.prog.cellsOf 51=1 by kernel_rfl,List.getElem?_eq_getElem om]at f5;obtain ⟨n,e0,_,w0⟩:=DataW.trod_int Tryz.underlying3 f0;obtain ⟨f,e1,_,w1⟩:=DataW.trod_int Tryz.underlying3 f1;obtain ⟨A2,k2,ds,e2,g2⟩:=open_boolsE f2 (J 2 om);obtain ⟨⟨p3,pm⟩,e3,g3,A3,k3,G⟩:=open_intsE f3 (J 3 om);simp only at G g3 e3;subst G;obtain ⟨A4,k4,vs,e4,g4⟩:=open_intssE f4 (J 4 om);obtain ⟨A5,k5,O,e5,g5,C⟩:=open_rowssE f5 (J 5 om);simp at e0 e1 e2 e3 e4 e5;subst e0;subst e1;subst e2;subst e3;subst e4;subst e5;exact ⟨_,⟨n,f,ds,pm,vs,O⟩,rfl,⟨A2,k2,A3,k3,A4,k4,A5,k5,rfl,g2,g3,g4,g5,bounds_i64 w0,bounds_i64 w1⟩,C⟩
end
theorem gPow: Tryz.prog.globalNamed "internal/strconv.uint64pow10" = some 1:=kr
theorem gPowT: (Tryz.prog.globals[1]?).map (·.type)=some 315:=kr
theorem tb_of_laid{W:World}(h:laidMetH Tryz.prog Rows.walkPiecesUptoRow.laid W): TB W.heap.size W:=by
 refine ⟨Nat.le_refl _,Lib.tabBelow_of_tabIs ?_⟩;have o:=h.filter (λx=>x.1 == "internal/strconv.uint64pow10");exact Lib.tabIs_of_head (rest:=[]) gPow gPowT Tryz.underlying315 Tryz.underlying22 kr kr o
def layOn(d:DataW Unit): Obj->Obj
 | .cells _ t z=>.cells (match d with
  | .agg ps=>(ps.map fun
   | .lit (.int k z)=>Value.int k z
   | _=>Value.bool false).toArray
  | _=>#[]) t z
 | o=>o
open Go.RowKit Pl Go.Wk
attribute [local irreducible] WC WL QX WD WDB WP WN WG WH WM
theorem wiL_take(L:List Row)(y:Row){i:Nat}(h:i<L.length): wiL (L.take (i+1)) y=wiL (L.take i) y++(if (L.getD i []).take y.length=y then [L.getD i []] else []):=by
 unfold wiL;rw [Qy [] h,List.filter_append];congr 1
 simp only [List.filter_cons,List.filter_nil];by_cases e:(L.getD i []).take y.length=y
 .rw [if_pos e,if_pos (by simpa using e)]
 .rw [if_neg e,if_neg (by simpa using e)]
end Go.Proofs.YtebcagekopgdhaaGreatDoor
namespace Go.Wk
end Go.Wk
namespace Go.Proofs.YtebcagekopgdhaaGreatDoor
open Go.RowKit Pl Go.Wk
attribute [local irreducible] WC WL QX WD WDB WP WN WG WH WM
theorem cmpR_takeD: ∀ (a b:Row) (ds:List Bool) (l:Nat),Jw a b ds<=0->Jw (a.take l) (b.take l) ds<=0
 | _,_,_,0,_=>by simp [Jw]
 | [],[],_,_+1,_=>by simp [Jw]
 | [],_::_,_,_+1,_=>by simp [Jw]
 | _::_,[],_,_+1,h=>by simp [Jw]at h
 | x::a,y::b,ds,l+1,h=>by
  simp only [List.take_succ_cons,Jw]at h ⊢;by_cases e:cmpV x y=0
  .rw [if_pos e]at h ⊢;exact cmpR_takeD a b _ l h
  .rw [if_neg e]at h ⊢;exact h
theorem lt_getD{ds:List Bool}{L:List Row}(h:Lt ds L){i j:Nat}(hij:i<j)(hj:j<L.length): Jw (L.getD i []) (L.getD j []) ds<0:=by
 have hi:i<L.length:=om
 have:=List.pairwise_iff_getElem.1 h i j hi hj hij;rwa [Jp [] _ hi,Jp [] _ hj]at *
theorem take_rowV{w:World}{A:Option Addr}{c:Nat}{r:Row}(h:RowV w (.slice A r.length c) r){m:Nat}(hm:m<=r.length): RowV w (.slice A m c) (r.take m)/\(r.take m).length=m/\m<=c:=by
 obtain ⟨J,G,e,C,u,o⟩:=h;injection e with e1 e2 e3
 subst e1;subst e3;have e:(r.take m).length=m:=by rw [List.length_take];omega
 refine ⟨⟨A,c,by rw [e],om,om,?_⟩,e,om⟩;have:=Rd.take o (m:=m) hm;rw [Jnc r hm]at this;unfold RdR;rw [e];exact this
end Go.Proofs.YtebcagekopgdhaaGreatDoor
namespace Go.Proofs.YtebcagekopgdhaaGreatDoor
open Go.RowKit Pl Go.Wk Go.ChangeShapes Go.WideShapes
section
variable {H:Type} {enc:TypeId×Value->H} {w:World} {base b0:Nat} {spare:Nat->Bool} {held:Bool}
theorem open_rowA{v:Value}{d:DataW H}{p:List MemPlace}(hv:Value.okWide Tryz.prog w .any b0 37 v)(h:DataW.Trod enc Tryz.prog w base spare held 37 v d p)(hb:Rows.uptoBulk d<=1048576): ∃ r,RowE w v r:=by
 obtain ⟨a,len,o,rfl⟩:=okWide_slice Tryz.underlying37 hv;obtain ⟨u,G⟩:=h;obtain ⟨q,e,C⟩:=open_rowE G hb;have J:Value.slice a len o=q.1:=by
  injection e
 exact ⟨q.2,J ▸ C⟩
end
open Go.RowKit Pl Go.Wk
attribute [local irreducible] WC WL QX WD WDB WP WN WG WH WM
def CuV(w:World)(x cu:Value)(p st:Nat): Prop:=∃ (A1 A2 A3 A4 A5:Option Addr) (n1 n2 n3 n4 n5 c1 c2 c3 c4 c5:Nat) (pv:Value),x=.agg #[.slice A1 n1 c1,.slice A2 n2 c2,.slice A3 n3 c3,.slice A4 n4 c4,.slice A5 n5 c5]/\cu=.agg #[.slice A1 n1 c1,.slice A2 n2 c2,.slice A3 n3 c3,.slice A4 n4 c4,.slice A5 n5 c5,pv,.int .i64 (st:Int)]/\NatV w pv p
theorem CuV.ext{w w':World}{x cu:Value}{p st:Nat}(h:CuV w x cu p st)(hx:Ext w w'): CuV w' x cu p st:=by
 obtain ⟨A1,A2,A3,A4,A5,J,G,C,u,o,c1,c2,c3,c4,c5,pv,Z,U,O⟩:=h;exact ⟨A1,A2,A3,A4,A5,J,G,C,u,o,c1,c2,c3,c4,c5,pv,Z,U,O.ext hx⟩
def CuF(w:World)(cu:Value): Prop:=∀ a1 a2 a3 a4 a5 pv z,cu=.agg #[a1,a2,a3,a4,a5,pv,z]->Fresh w pv
theorem zCur: Qt Tryz.prog 61=some (.agg #[.slice none 0 0,.slice none 0 0,.slice none 0 0,.slice none 0 0,.slice none 0 0,.slice none 0 0,.int .i64 0]):=kr
theorem bldCur1(A1 A2 A3 A4 A5:Option Addr)(n1 n2 n3 n4 n5 c1 c2 c3 c4 c5:Nat)(w:World): (Instr.build 61 #[(0,.agg #[.slice A1 n1 c1,.slice A2 n2 c2,.slice A3 n3 c3,.slice A4 n4 c4,.slice A5 n5 c5])]).run Tryz.prog w=.ok (.agg #[.slice A1 n1 c1,.slice A2 n2 c2,.slice A3 n3 c3,.slice A4 n4 c4,.slice A5 n5 c5,.slice none 0 0,.int .i64 0]) w:=kr
theorem bldCur2(A1 A2 A3 A4 A5 A6:Option Addr)(n1 n2 n3 n4 n5 n6 c1 c2 c3 c4 c5 c6:Nat)(w:World): (Instr.build 61 #[(0,.agg #[.slice A1 n1 c1,.slice A2 n2 c2,.slice A3 n3 c3,.slice A4 n4 c4,.slice A5 n5 c5]),(1,.slice A6 n6 c6)]).run Tryz.prog w=.ok (.agg #[.slice A1 n1 c1,.slice A2 n2 c2,.slice A3 n3 c3,.slice A4 n4 c4,.slice A5 n5 c5,.slice A6 n6 c6,.int .i64 0]) w:=kr
theorem bldCur3(A1 A2 A3 A4 A5 A6:Option Addr)(n1 n2 n3 n4 n5 n6 c1 c2 c3 c4 c5 c6:Nat)(z:Int)(w:World): (Instr.build 61 #[(0,.agg #[.slice A1 n1 c1,.slice A2 n2 c2,.slice A3 n3 c3,.slice A4 n4 c4,.slice A5 n5 c5]),(1,.slice A6 n6 c6),(2,.int .i64 z)]).run Tryz.prog w=.ok (.agg #[.slice A1 n1 c1,.slice A2 n2 c2,.slice A3 n3 c3,.slice A4 n4 c4,.slice A5 n5 c5,.slice A6 n6 c6,.int .i64 z]) w:=kr
theorem one_7{A B C D E F:Option Addr}{a b c d e f a' b' c' d' e' f':Nat}{z:Int}: ∀ u∈[Value.slice A a a',.slice B b b',.slice C c c',.slice D d d',.slice E e e',.slice F f f',.int .i64 z],u.oneCell'=true:=λu o=>by
 simp only [List.mem_cons,List.not_mem_nil,or_false]at o;rcases o with rfl|rfl|rfl|rfl|rfl|rfl|rfl<;>rfl
theorem pre_get{l m:List Value}{j:Nat}{u:Value}(h:l[j]?=some u): (l++m)[j]?=some u:=by
 rw [List.getElem?_append_left (List.getElem?_eq_some_iff.1 h).1];exact h
theorem rowOff{w:World}{A:Option Addr}{r:Row}{b t:Nat}{cs:List Value}(hR:RdR w A r)(hB:Blk w b t cs)(hs:∀ u∈cs,∀ s,u≠.string s): Off (λk=>k=b) w λu=>RdR u A r:=Jnm hR λh0 C e (e2:C.block=b)=>by
 obtain ⟨a1,G,Z,o⟩:=hR.2 h0;rw [e]at G;injection G with G
 subst G;cases r with
 | nil=>simp [Jl]at h0
 | cons v r=>
  have J:w.cell? (C.add 2)=some (.string v.str):=o 2 _ rfl;have U:=World.cell?_spot J;have O:(C.add 2).block=b:=by rw [Uf];exact e2
  have h5:C.add 2=⟨b,(C.add 2).off,none⟩:=by
   generalize hq:C.add 2=q at *
   obtain ⟨qb,qo,qs⟩:=q;simp only at U O;subst U;subst O;rfl
  rw [h5,hB.cell]at J;exact hs _ (List.mem_of_getElem? J) _ rfl
theorem no_str{A B C D E F:Option Addr}{a b c d e f a' b' c' d' e' f':Nat}{z:Int}: ∀ u∈[Value.slice A a a',.slice B b b',.slice C c c',.slice D d d',.slice E e e',.slice F f f',.int .i64 z],∀ s,u≠.string s:=λu o s=>by
 simp only [List.mem_cons,List.not_mem_nil,or_false]at o;rcases o with rfl|rfl|rfl|rfl|rfl|rfl|rfl<;>simp
theorem start_any{w:World}{A1 A2 A3 A4 A5:Option Addr}{n1 n2 n3 n4 n5 c1 c2 c3 c4 c5:Nat}: Ret Tryz.prog 63 [.agg #[.slice A1 n1 c1,.slice A2 n2 c2,.slice A3 n3 c3,.slice A4 n4 c4,.slice A5 n5 c5]] w λu w'=>CuV w' (.agg #[.slice A1 n1 c1,.slice A2 n2 c2,.slice A3 n3 c3,.slice A4 n4 c4,.slice A5 n5 c5]) u 0 0/\Ext w w':=by
 refine Jz Tryz.func63 Tryz.ntmps63 rfl kr rfl ?_;refine ρ ?_;refine bx ?_;intro w1 b C hb hB;refine ρ ?_;refine alc zCur ?_;intro w2 b2 o J U;refine ρ ?_;refine ldW (hB.ext o) ?_;refine ρ ?_;refine bld (bldCur1 _ _ _ _ _ _ _ _ _ _ _ _ _ _ _ _) ?_;refine ρ ?_;refine stW U ?_;intro w3 O Z G;refine ρ ?_;exact Jqv O ⟨⟨A1,A2,A3,A4,A5,n1,n2,n3,n4,n5,c1,c2,c3,c4,c5,_,rfl,rfl,NatV.nil _⟩,G w (C.trans o) (nL C.size J)⟩
section
variable {w:World} {x cu:Value} {f:Nat} {ds:List Bool} {kf:Nat->Nat} {pf:Nat->Int} {BB:Nat->List BkT} {tot:Nat} {L:List Row} {p st:Nat}
theorem nextF_any(h:IxA w x f ds kf pf BB tot L)(hc:CuV w x cu p st)(hp:(Jq p).length<=100):
  Ret Tryz.prog 32 [cu] w λu w'=>Ext w w'/\match L[p]? with
   | some r=>∃ cu' A c,∃ st':Nat,u=.tuple #[cu',.slice A r.length c,.bool true]/\CuV w' x cu' (p+1) st'/\RdR w' A r/\r.length<=c/\r.length=f/\(st'<=Qs f λv=>hmB (BB v))/\CuF w cu'/\(r≠[]->∀ ad,A=some ad->w.heap.size<=ad.block)
   | none=>∃ cu',u=.tuple #[cu',.slice none 0 0,.bool false]/\CuV w' x cu' p 0:=by
 obtain ⟨A1,A2,A3,A4,A5,n1,n2,n3,n4,n5,c1,c2,c3,c4,c5,pv,rfl,rfl,a8⟩:=hc;obtain ⟨QA,qc,rfl,_⟩:=id a8;refine Jz Tryz.func32 Tryz.ntmps32 rfl kr rfl ?_;refine ρ ?_;refine bx ?_;intro w1 b ab hb hB;refine ρ ?_;refine alc zCur ?_;intro w2 b2 af ak a9;have a6:=hB.ext af;have J:=ab.trans af;refine ρ ?_;refine lds (cs:=[.slice A1 n1 c1,.slice A2 n2 c2,.slice A3 n3 c3,.slice A4 n4 c4,.slice A5 n5 c5]) (λj u hu=>a6.at (pre_get (m:=[.slice QA _ qc,.int .i64 (st:Int)]) hu)) ?_;refine ρ ?_;refine ld (a6.at (i:=5) rfl) ?_;refine ρ ?_;refine cl (Qpp (h.ext J) (a8.ext J)) ?_;rintro u w3 ⟨C,h3⟩;have Z:=J.trans C;unfold AtRF at h3;cases hr:L[p]? with
 | none=>
  rw [hr]at h3;simp only at h3;subst h3;refine ρ ?_;refine lds (cs:=[.slice A1 n1 c1,.slice A2 n2 c2,.slice A3 n3 c3,.slice A4 n4 c4,.slice A5 n5 c5]) (λj u hu=>(a6.ext C).at (pre_get (m:=[.slice QA _ qc,.int .i64 (st:Int)]) hu)) ?_;refine ρ ?_;refine ld ((a6.ext C).at (i:=5) rfl) ?_;refine ρ ?_;refine bld (bldCur2 _ _ _ _ _ _ _ _ _ _ _ _ _ _ _ _ _ _ _) ?_;refine ρ ?_;refine stW (a9.ext C) ?_;intro w4 ar au O;have a7:Ext w w4:=O w Z (nL ab.size ak);refine ρ ?_;exact Jtb ar ⟨a7,_,rfl,A1,A2,A3,A4,A5,n1,n2,n3,n4,n5,c1,c2,c3,c4,c5,_,rfl,rfl,a8.ext a7⟩
 | some r=>
  rw [hr]at h3;simp only at h3;obtain ⟨A,c,st',rfl,e1,e2,e3,e4,e5⟩:=h3;have am:=a6.ext C;have U:Ext w3 w3.drew:=(Ext.refl w3).drew;have av:=a9.lt;have ac:¬ b=b2:=λe=>by have:=hB.lt;omega
  refine ρ ?_;refine drN (λk=>k=b2) 13 [(0,0),(0,1),(0,2),(0,3),(0,6),(0,8),(1,4),(1,5),(0,7),(1,9),(0,10),(0,11)] kr ?_;refine ρn ?_;refine Xd (cs:=[.slice A1 n1 c1,.slice A2 n2 c2,.slice A3 n3 c3,.slice A4 n4 c4,.slice A5 n5 c5]) (λw' hg j u hu=>(Jd (am.ext U) hg ac).at (pre_get (m:=[.slice QA _ qc,.int .i64 (st:Int)]) hu)) ?_;refine ρn ?_;refine nld (Jm ((am.ext U).at (i:=5) rfl) ac) ?_;refine ρn ?_;refine nop ?_;refine cl (Jcq 1 (by decide) _) ?_;rintro o w4 ⟨ho,_,O⟩;refine ρ ?_;refine Je (GrN.ext O) ?_;refine ρn ?_;refine nop ?_;have aa:=(Z.trans U).trans O;have ap:(Jq 1).length<=1000:=by rw [Qfj (by decide) (by decide)];decide
  refine cl (Jqj (a8.ext aa) ho om ap) ?_;rintro sv w5 ⟨hs,ag,ae⟩;obtain ⟨SA,sc,rfl,_⟩:=id hs;refine ρ ?_;refine Je (GrN.ext ae) ?_;refine ρn ?_;refine Idq (bldCur3 _ _ _ _ _ _ _ _ _ _ _ _ _ _ _ _ _ _ _) ?_;refine ρn ?_;refine nop ?_;have G:=(U.trans O).trans ae;refine stW ((a9.ext C).ext G) ?_;intro w6 aq aj an;have a7:Ext w w6:=an w (Z.trans G) (nL ab.size ak);have ai:GrN (λk=>k=b2) w5 w6:=GrN.by aj λk hk=>by injection hk with hk;exact hk.symm
  refine Jh (Je ai ?_);refine ρn ?_;refine ρ ?_;have ah:RdR w6 A r:=(rowOff (Rd.ext e1 G) ((a9.ext C).ext G) no_str) w6 ai;have ao:NatV w6 (.slice SA (Jq (p+1)).length sc) (p+1):=hs.grown aj λad m c e=>by
   have h1:=ag ad m c e;have h2:=((C.trans U).trans O).size;intro e2;injection e2 with e2
   omega
  exact Jtb aq ⟨a7,_,A,c,st',rfl,⟨A1,A2,A3,A4,A5,n1,n2,n3,n4,n5,c1,c2,c3,c4,c5,_,rfl,rfl,ao⟩,ah,e2,e3,e4,λa1 a2 a3 a4 a5 pv z e ad m c e2=>by
   injection e with e
   injection e with e
   injection e with _ e
   injection e with _ e
   injection e with _ e
   injection e with _ e
   injection e with _ e
   injection e with e _
   subst e;have h1:=ag ad m c e2;have h2:=aa.size;omega,λh0 ad e=>nL J.size (e5 h0 ad e)⟩
theorem next_any(h:IxA w x f ds kf pf BB tot L)(hc:CuV w x cu p st)(hp:(Jq p).length<=100):
  Ret Tryz.prog 32 [cu] w λu w'=>Ext w w'/\match L[p]? with
   | some r=>∃ cu' A c,∃ st':Nat,u=.tuple #[cu',.slice A r.length c,.bool true]/\CuV w' x cu' (p+1) st'/\RdR w' A r/\r.length<=c/\r.length=f/\st'<=Qs f λv=>hmB (BB v)
   | none=>∃ cu',u=.tuple #[cu',.slice none 0 0,.bool false]/\CuV w' x cu' p 0:=(nextF_any h hc hp).mono λu w' ⟨o,h⟩=>⟨o,by
 cases hr:L[p]? with
 | none=>rw [hr]at h;exact h
 | some r=>rw [hr]at h;obtain ⟨cu',A,c,st',e,U,O,J,G,C,_⟩:=h;exact ⟨cu',A,c,st',e,U,O,J,G,C⟩⟩
theorem prev_any(h:IxA w x f ds kf pf BB tot L)(hc:CuV w x cu p st)(hp:(Jq p).length<=100):
  Ret Tryz.prog 28 [cu] w λu w'=>Ext w w'/\match (if p=0 then none else L[p-1]?) with
   | some r=>∃ cu' A c,∃ st':Nat,u=.tuple #[cu',.slice A r.length c,.bool true]/\CuV w' x cu' (p-1) st'/\RdR w' A r/\r.length<=c/\r.length=f/\st'<=Qs f λv=>hmB (BB v)
   | none=>∃ cu',u=.tuple #[cu',.slice none 0 0,.bool false]/\CuV w' x cu' p 0:=by
 obtain ⟨A1,A2,A3,A4,A5,n1,n2,n3,n4,n5,c1,c2,c3,c4,c5,pv,rfl,rfl,a3⟩:=hc;obtain ⟨QA,qc,rfl,_⟩:=id a3;refine Jz Tryz.func28 Tryz.ntmps28 rfl kr rfl ?_;refine ρ ?_;refine bx ?_;intro w1 b a2 hb hB;refine ρ ?_;refine alc zCur ?_;intro w2 b2 ab a5 a1;have U:=hB.ext ab;have J:=a2.trans ab;have a7:Ext w2 w2.drew:=(Ext.refl w2).drew;refine ρ ?_;refine drN (λ_=>False) 10 [(0,0),(0,1),(1,2),(1,3),(0,4),(0,5),(0,6),(0,7),(0,8)] kr ?_;refine ρn ?_;refine nld (Jm ((U.ext a7).at (i:=5) rfl) (λe=>e)) ?_;refine ρn ?_;refine nop ?_;refine cl (Jcq 1 (by decide) _) ?_;rintro o w3 ⟨ho,_,aa⟩;refine ρ ?_;refine Je (GrN.ext aa) ?_;refine ρn ?_;refine nop ?_;have Z:=a7.trans aa;refine cl (Qdk (a3.ext (J.trans Z)) ho om) ?_;rintro u w4 ⟨⟨sv,rfl,hs,ah⟩,a9⟩;obtain ⟨SA,sc,rfl,_⟩:=id hs;have G:=Z.trans a9;refine ρ ?_;refine Je (GrN.ext a9) ?_;refine ρn ?_
 refine ρ ?_;by_cases h0:p=0
 .subst h0;simp only [if_pos];refine ci (λh=>?_) (λh=>?_);rotate_left
  .exfalso
   have:=Gg h;rw [if_pos (by decide)]at this;cases this
  clear h;refine ρ ?_;refine lds (cs:=[.slice A1 n1 c1,.slice A2 n2 c2,.slice A3 n3 c3,.slice A4 n4 c4,.slice A5 n5 c5]) (λj u hu=>(U.ext G).at (pre_get (m:=[.slice QA _ qc,.int .i64 (st:Int)]) hu)) ?_;refine ρ ?_;refine ld ((U.ext G).at (i:=5) rfl) ?_;refine ρ ?_;refine bld (bldCur2 _ _ _ _ _ _ _ _ _ _ _ _ _ _ _ _ _ _ _) ?_;refine ρ ?_;refine stW (a1.ext G) ?_;intro w9 a6 aj a4;have O:Ext w w9:=a4 w (J.trans G) (nL a2.size a5);refine ρ ?_;exact Jtb a6 ⟨O,_,rfl,A1,A2,A3,A4,A5,n1,n2,n3,n4,n5,c1,c2,c3,c4,c5,_,rfl,rfl,a3.ext O⟩
 refine ci (λh=>?_) (λh=>?_)
 .exfalso
  have:=Gf h;rw [if_neg om]at this;exact this rfl
 clear h;simp only [if_neg h0];refine ρ ?_;refine lds (cs:=[.slice A1 n1 c1,.slice A2 n2 c2,.slice A3 n3 c3,.slice A4 n4 c4,.slice A5 n5 c5]) (λj u hu=>(U.ext G).at (pre_get (m:=[.slice QA _ qc,.int .i64 (st:Int)]) hu)) ?_;refine ρ ?_;refine cl (at_any (h.ext (J.trans G)) hs) ?_;rintro u w5 ⟨a8,h5⟩;have C:=G.trans a8;unfold AtR at h5;cases hr:L[p-1]? with
 | none=>
  rw [hr]at h5;simp only at h5;subst h5;refine ρ ?_;refine lds (cs:=[.slice A1 n1 c1,.slice A2 n2 c2,.slice A3 n3 c3,.slice A4 n4 c4,.slice A5 n5 c5]) (λj u hu=>(U.ext C).at (pre_get (m:=[.slice QA _ qc,.int .i64 (st:Int)]) hu)) ?_;refine ρ ?_;refine ld ((U.ext C).at (i:=5) rfl) ?_;refine ρ ?_;refine bld (bldCur2 _ _ _ _ _ _ _ _ _ _ _ _ _ _ _ _ _ _ _) ?_;refine ρ ?_;refine stW (a1.ext C) ?_;intro w9 a6 aj a4;have O:Ext w w9:=a4 w (J.trans C) (nL a2.size a5);refine ρ ?_;exact Jtb a6 ⟨O,_,rfl,A1,A2,A3,A4,A5,n1,n2,n3,n4,n5,c1,c2,c3,c4,c5,_,rfl,rfl,a3.ext O⟩
 | some r=>
  rw [hr]at h5;simp only at h5;obtain ⟨A,c,st',rfl,e1,e2,e3,e4⟩:=h5;refine ρ ?_;refine lds (cs:=[.slice A1 n1 c1,.slice A2 n2 c2,.slice A3 n3 c3,.slice A4 n4 c4,.slice A5 n5 c5]) (λj u hu=>(U.ext C).at (pre_get (m:=[.slice QA _ qc,.int .i64 (st:Int)]) hu)) ?_;refine ρ ?_;refine bld (bldCur3 _ _ _ _ _ _ _ _ _ _ _ _ _ _ _ _ _ _ _ _) ?_;refine ρ ?_;refine stW (a1.ext C) ?_;intro w6 ak ae af;have O:Ext w w6:=af w (J.trans C) (nL a2.size a5);have ai:GrN (λk=>k=b2) w5 w6:=GrN.by ae λk hk=>by injection hk with hk;exact hk.symm
  have am:=a1.lt;have ac:RdR w6 A r:=(rowOff e1 (a1.ext C) no_str) w6 ai;have ag:NatV w6 (.slice SA (Jq (p-1)).length sc) (p-1):=(hs.ext a8).grown ae λad m c e=>by
   have h1:=ah ad m c e;have h2:=Z.size;intro e2;injection e2 with e2
   omega
  refine ρ ?_;exact Jtb ak ⟨O,_,A,c,st',rfl,⟨A1,A2,A3,A4,A5,n1,n2,n3,n4,n5,c1,c2,c3,c4,c5,_,rfl,rfl,ag⟩,ac,e2,e3,e4⟩
theorem pos_any(hc:CuV w x cu p st)(hp:(Jq p).length<=100): Ret Tryz.prog 33 [cu] w λu w'=>NatV w' u p/\Ext w w':=by
 obtain ⟨A1,A2,A3,A4,A5,n1,n2,n3,n4,n5,c1,c2,c3,c4,c5,pv,rfl,rfl,C⟩:=hc;obtain ⟨QA,qc,rfl,_⟩:=id C;refine Jz Tryz.func33 Tryz.ntmps33 rfl kr rfl ?_;refine ρ ?_;refine bx ?_;intro Z b o hb O;refine ρ ?_;refine ld (O.at (i:=5) rfl) ?_;refine ρ ?_;refine cl (Jcr (C.ext o) om) ?_;rintro u U ⟨J,_,G⟩;obtain ⟨UA,uc,rfl,_⟩:=id J;refine ρ ?_;exact Jj ⟨J,o.trans G⟩
end
open Go.RowKit Pl Go.Wk
theorem num44_any(n:Int)(w:World): Ret Tryz.prog 64 [.int .i64 n] w λx w'=>x=(nV n).val/\Ext w w':=by
 refine Jz Tryz.func64 Tryz.ntmps64 rfl kr rfl ?_;refine ρ ?_;refine alc Gq ?_;intro Z b u J G;refine ρ ?_;refine bld (bldNum n _) ?_;refine ρ ?_;refine stb G (cs':=(nV n).cells) ?_ (V.one _);intro U C O o;refine ρ ?_;exact Jqv C ⟨rfl,o w u J⟩
theorem of44_any{n:Nat}(hn:n<18446744073709551616)(w:World): Ret Tryz.prog 26 [.int .i64 (n:Int)] w λu w'=>NatV w' u n/\Ext w w':=by
 refine Jz Tryz.func26 Tryz.ntmps26 rfl kr rfl ?_;refine ρ ?_;refine cl (natOf_wrap hn w) ?_;rintro u G ⟨C,o⟩;obtain ⟨O,J,rfl,_⟩:=id C;refine ρ ?_;exact Jj ⟨C,o⟩
theorem cmpN_zero{n m:Nat}: Yl n m=0↔n=m:=by
 unfold Yl;split
 .constructor
  .intro h;omega
  .intro h;omega
 .split
  .constructor
   .intro h;omega
   .intro h;omega
  .constructor
   .intro _;omega
   .intro _;rfl
theorem is44_any{v:Value}{p n:Nat}{w:World}(hv:NatV w v p)(hn:n<18446744073709551616): Ret Tryz.prog 65 [v,.int .i64 (n:Int)] w λu w'=>u=.bool (decide (p=n))/\Ext w w':=by
 obtain ⟨VA,vc,rfl,_⟩:=id hv;refine Jz Tryz.func65 Tryz.ntmps65 rfl kr rfl ?_;refine ρ ?_;refine cl (of44_any hn w) ?_;rintro u O ⟨G,o⟩;refine ρ ?_;refine cl (Jqh (hv.ext o) G) ?_;rintro _ J ⟨rfl,C⟩;refine ρ ?_;refine Jj ⟨?_,o.trans C⟩;congr 1
 rw [Bool.eq_iff_iff,beq_iff_eq,decide_eq_true_eq,cmpN_zero]
end Go.Proofs.YtebcagekopgdhaaGreatDoor
