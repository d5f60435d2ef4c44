/- Part 9. -/
import Derived.Test.YtebiphhfkdbpfaaGreatDoorC08
import Derived.ProofKit
import Derived.OpenShut
import Derived.ShutString
import Derived.ChangeOld
import Derived.Deep.Slices
import Derived.Deep.Fields
import Derived.Test.YtebiphhfkdbpfaaGreatDoorRows
import Derived.LaidSub
import Derived.Lib.LaidTab
set_option linter.unusedVariables false
set_option maxRecDepth 100000
set_option maxHeartbeats 40000000
namespace Go.Wk
open Go.RowKit Go.ChangeShapes Go.WideShapes
variable {cap e fuel len t:Nat}{A:Option Addr}{α:Type}
section
variable {H:Type} {enc:TypeId×Value->H} {P:Program} {w:World} {base:Nat} {spare:Nat->Bool} {held:Bool}
theorem rd_of{sz:Nat}{cs:List Value}{ad:Addr}(hA:A=some ad)(hl:cs.length=len*sz)(hc:∀ j u,cs[j]?=some u->w.cell? (ad.add j)=some u): Rd w sz A len cs :=
 ⟨hl,λh0=>⟨ad,hA,by
  have i:=hc 0 cs[0] (gE h0);rw[add_zero]at i;exact World.block_lt_of_cell? w ad i,hc⟩⟩
theorem Qmn{sz:Nat}{x:DataW H×List MemPlace}(X:α->List Value)(R:α->Prop)(ht:P.underlying t=some (.slice e))(hc:P.cellsOf e=sz)(hX:∀(n:Nat) (cs':List Value) (y:DataW H×List MemPlace),DataW.trod enc P w base spare held n e cs'=some y->∃ z:α,cs'=X z/\R z)(h:DataW.trod enc P w base spare held fuel t [.slice A len cap]=some x): ∃ l:List α,l.length=len/\Rd w sz A len (l.flatMap X)/\(∀ z∈l,R z)/\len<=cap/\cap<=maxLen:=by
 rcases Go.Deep.open_slice ht h with⟨i,_⟩|⟨a,len',cap',m,n,D,Pl,i,_,hl,hm,hmm,_,hel⟩
 .simp only[List.cons.injEq,Value.slice.injEq,and_true]at i;obtain⟨rfl,rfl,rfl⟩:=i;exact⟨[],rfl,Rd.nil,(λz J=>by cases J),Nat.le_refl _,Nat.zero_le _⟩
 simp only[List.cons.injEq,Value.slice.injEq,and_true]at i;obtain⟨rfl,rfl,rfl⟩:=i;have a1:len<=m:=by grind
 have key:∀ k,k<=len->∃ l:List α,l.length=k/\(l.flatMap X).length=k*sz/\(∀ j u,(l.flatMap X)[j]?=some u->w.cell? (a.add j)=some u)/\∀ z∈l,R z:=by
  intro k;induction k with
  | zero=>intro _;exact⟨[],rfl,by simp,(λj u G=>by simp at G),(λz J=>by cases J)⟩
  | succ k ih=>
   intro hk;obtain⟨l,h1,h2,h3,h4⟩:=ih om;obtain⟨cs',B,O⟩:=hel k om;obtain⟨z,rfl,J⟩:=hX n cs' _ O;rw[hc]at B;obtain⟨_,Z,U⟩:=World.cells?_some B;refine⟨l++[z],by simp[h1],?_,?_,?_⟩
   .grind
   .intro j u G;rw[List.flatMap_append]at G;simp only[List.flatMap_cons,List.flatMap_nil,List.append_nil]at G;rcases Nat.lt_or_ge j (k*sz) with hj|hj
    .grind
    rw[List.getElem?_append_right om,h2]at G;have hb:j-k*sz<sz:=by grind
    have:=U (j-k*sz) hb;rw[Jvf]at this;grind
   repeat grind
 obtain⟨l,h1,h2,h3,h4⟩:=key len (Nat.le_refl _);grind [rd_of]
theorem Jwm(f:α->Value)(l:List α): l.flatMap (λz=>[f z])=l.map f:=by induction l<;>simp_all
end
end Go.Wk
namespace Go.Proofs.YtebiphhfkdbpfaaGreatDoor
open Go.RowKit Pl Go.Wk Go.ChangeShapes Go.WideShapes
section
variable {H:Type} {enc:TypeId×Value->H} {P:Program} {w:World} {base:Nat} {spare:Nat->Bool} {held:Bool}
theorem Jxk{α:Type}{t e sz:Nat}{fuel:Nat}{cs:List Value}{x:DataW H×List MemPlace}(X:α->List Value)(R:α->Prop)(ht:P.underlying t=some (.slice e))(hc:P.cellsOf e=sz)(hX:∀(n:Nat) (cs':List Value) (y:DataW H×List MemPlace),DataW.trod enc P w base spare held n e cs'=some y->∃ z:α,cs'=X z/\R z)(h:DataW.trod enc P w base spare held fuel t cs=some x): ∃(l:List α) (A:Option Addr) (cap:Nat),cs=[.slice A l.length cap]/\Rd w sz A l.length (l.flatMap X)/\(∀ z∈l,R z)/\l.length<=cap:=by
 have key:∀(A:Option Addr) (len cap:Nat),cs=[.slice A len cap]->∃(l:List α) (A:Option Addr) (cap:Nat),cs=[.slice A l.length cap]/\Rd w sz A l.length (l.flatMap X)/\(∀ z∈l,R z)/\l.length<=cap:=λA len cap e=>by
  subst e;obtain⟨l,G,B,u,j,_⟩:=Qmn X R ht hc hX h;subst G;exact⟨l,A,cap,rfl,B,u,j⟩
 rcases Go.Deep.open_slice ht h with⟨i,_⟩|⟨a,len,cap,m,n,D,Pl,i,_⟩
 .exact key _ _ _ i
 exact key _ _ _ i
end
section
variable {H:Type} {enc:TypeId×Value->H} {w:World} {base b0:Nat} {spare:Nat->Bool} {held:Bool}
end
theorem gFibT: (Tryz.prog.globals[0]?).map (·.type)=some 105:=kr
theorem fb_of{W:World}(h:laidMetH Tryz.prog [("ordinal/cost.fibonacci",Rows.laid_ordinal_cost_fibonacci)] W): FB W.heap.size W:=by
 refine⟨Nat.le_refl _,Lib.tabBelow_of_tabIs ?_⟩;have i:=h.filter (λx=>x.1 == "ordinal/cost.fibonacci");exact Lib.tabIs_of_head (rest:=[]) gFib gFibT Tryz.underlying105 Tryz.underlying3 kr kr i
def layOn(d:DataW Unit): Obj->Obj
 | .cells _ t z=>.cells (match d with
  | .agg ps=>(ps.map fun
   | .lit (.int k z)=>Value.int k z
   | _=>Value.bool false).toArray
  | _=>#[]) t z
 | o=>o
open Go.RowKit Pl Go.Wk Go.ChangeShapes Go.WideShapes
variable {cs:List Value}{n:Nat}
def Jqb(v:V): Prop:=(-9223372036854775808<=v.kind/\v.kind<=9223372036854775807)/\(-9223372036854775808<=v.num/\v.num<=9223372036854775807)
section
variable {H:Type} {enc:TypeId×Value->H} {w:World} {base b0:Nat} {spare:Nat->Bool} {held:Bool}
theorem Qmh{y:DataW H×List MemPlace}(h:DataW.trod enc Tryz.prog w base spare held n 102 cs=some y): ∃ v:V,cs=v.cells/\Jqb v:=by
 obtain⟨u,m,_,_,j,B,G⟩:=DataW.trod_struct Tryz.underlying102 h;have D:cs.length=3:=by rw[j];kernel_rfl
 have a1:u.length=3:=B;match cs,D with
 | [c0,c1,c2],_=>
  have O:DataW.trod enc Tryz.prog w base spare held m 3 (([c0,c1,c2].drop 0).take (Tryz.prog.cellsOf 3))=u[0]?:=G 0 _ rfl;have f1:DataW.trod enc Tryz.prog w base spare held m 2 (([c0,c1,c2].drop 1).take (Tryz.prog.cellsOf 2))=u[1]?:=G 1 _ rfl;have J:DataW.trod enc Tryz.prog w base spare held m 9 (([c0,c1,c2].drop 2).take (Tryz.prog.cellsOf 9))=u[2]?:=G 2 _ rfl;rw[show Tryz.prog.cellsOf 3=1 by kernel_rfl,List.getElem?_eq_getElem om]at O;rw[show Tryz.prog.cellsOf 2=1 by kernel_rfl,List.getElem?_eq_getElem om]at f1;rw[show Tryz.prog.cellsOf 9=1 by kernel_rfl,List.getElem?_eq_getElem om]at J;obtain⟨k,e0,_,wk⟩:=DataW.trod_int Tryz.underlying3 O;obtain⟨i,Z,_,wi⟩:=DataW.trod_int Tryz.underlying2 f1;obtain⟨s,U,_,_⟩:=DataW.trod_string Tryz.underlying9 J;simp at e0 Z U;subst e0;subst Z;subst U;exact⟨⟨k,i,s⟩,rfl,bounds_i64 wk,bounds_i64 wi⟩
def RowE(w:World)(v:Value)(r:Row): Prop:=RowM w v r/\∀ u∈r,Jqb u
theorem Qml{y:DataW H×List MemPlace}(h:DataW.trod enc Tryz.prog w base spare held n 85 cs=some y): ∃ p:Pr,cs=[p.1]/\RowE w p.1 p.2:=by
 obtain⟨l,A,i,e,D,B,u⟩:=Jxk (sz:=3) V.cells Jqb Tryz.underlying85 kr (λn G y j=>Qmh j) h;exact⟨(.slice A l.length i,l),e,⟨A,i,rfl,u,D⟩,B⟩
def Qyb(w:World)(v:Value)(ls:List Row): Prop:=RowsM w v ls/\∀ r∈ls,∀ u∈r,Jqb u
theorem Qmk{y:DataW H×List MemPlace}(h:DataW.trod enc Tryz.prog w base spare held n 78 cs=some y): ∃ p:Value×List Row,cs=[p.1]/\Qyb w p.1 p.2:=by
 obtain⟨ps,A,i,e,D,B,U⟩:=Jxk (sz:=1) (λp:Pr=>[p.1]) (λp=>RowE w p.1 p.2) Tryz.underlying78 kr (λn Z y G=>Qml G) h;rw[Jwm]at D;exact⟨(.slice A ps.length i,ps.map (·.2)),e,⟨ps,A,i,rfl,rfl,U,D,λp j=>(B p j).1⟩,λr O u J=>by
  obtain⟨p,j,rfl⟩:=List.mem_map.1 O;exact(B p j).2 u J⟩
theorem Qmj{y:DataW H×List MemPlace}(h:DataW.trod enc Tryz.prog w base spare held n 29 cs=some y):
  ∃(A:Option Addr) (c:Nat) (rss:List (List Row)),cs=[.slice A rss.length c]/\RowssV w (.slice A rss.length c) rss/\∀ i,i<rss.length->∀ r∈rss.getD i [],∀ u∈r,Jqb u:=by
 obtain⟨ps,A,B,e,O,J,h3⟩:=Jxk (sz:=1) (λp:Value×List Row=>[p.1]) (λp=>Qyb w p.1 p.2) Tryz.underlying29 kr (λn Z y U=>Qmk U) h;rw[Jwm]at O;have D:(ps.map (·.2)).length=ps.length:=List.length_map _
 have G:∀ i,i<ps.length->(ps.map (·.2)).getD i []=(ps.getD i (.bool false,[])).2:=by grind
 refine⟨A,B,ps.map (·.2),by rw[D];exact e,⟨A,B,ps.map (·.1),rfl,om,by rw[D];exact O,λi hi=>?_⟩,λi hi=>?_⟩
 .have j:i<ps.length:=om
  rw[G i j];exact⟨(ps.getD i (.bool false,[])).1,by grind,(J _ (getD_mem' _ _ j)).1⟩
 have j:i<ps.length:=om
 rw[G i j];exact(J _ (getD_mem' _ _ j)).2
theorem Jtt{y:DataW H×List MemPlace}(h:DataW.trod enc Tryz.prog w base spare held n 22 cs=some y): ∃ p:Value×List Int,cs=[p.1]/\IntsM w p.1 p.2/\∃ A c,p.1=.slice A p.2.length c:=by
 obtain⟨l,A,i,e,j,G,B⟩:=Jxk (sz:=1) (λz:Int=>[Value.int .i64 z]) (λ_=>True) Tryz.underlying22 kr (λn D y u=>by obtain⟨z,e,_,_⟩:=DataW.trod_int Tryz.underlying3 u;exact⟨z,e,trivial⟩) h;rw[Jwm]at j;exact⟨(.slice A l.length i,l),e,⟨A,i,rfl,B,j⟩,A,i,rfl⟩
theorem Qmm{y:DataW H×List MemPlace}(h:DataW.trod enc Tryz.prog w base spare held n 28 cs=some y):
  ∃(A:Option Addr) (c:Nat) (zss:List (List Int)),cs=[.slice A zss.length c]/\IntssV w (.slice A zss.length c) zss:=by
 obtain⟨ps,A,j,e,B,U,O⟩:=Jxk (sz:=1) (λp:Value×List Int=>[p.1]) (λp=>IntsM w p.1 p.2) Tryz.underlying28 kr (λn J y D=>by obtain⟨p,e,G,_⟩:=Jtt D;exact⟨p,e,G⟩) h;rw[Jwm]at B;have u:(ps.map (·.2)).length=ps.length:=List.length_map _
 refine⟨A,j,ps.map (·.2),by rw[u];exact e,⟨A,j,ps.map (·.1),rfl,om,by rw[u];exact B,λi hi=>?_⟩⟩
 grind
theorem Qmr{y:DataW H×List MemPlace}(h:DataW.trod enc Tryz.prog w base spare held n 27 cs=some y): ∃(A:Option Addr) (c:Nat) (l:List Bool),cs=[.slice A l.length c]/\BoolsM w (.slice A l.length c) l:=by
 obtain⟨l,A,i,e,j,G,B⟩:=Jxk (sz:=1) (λz:Bool=>[Value.bool z]) (λ_=>True) Tryz.underlying27 kr (λn D y u=>by obtain⟨z,e,_⟩:=DataW.trod_bool Tryz.underlying4 u;exact⟨z,e,trivial⟩) h;rw[Jwm]at j;exact⟨A,i,l,e,⟨A,i,rfl,B,j⟩⟩
def Qyg(w:World)(v:Value): Prop:=∃(cs:List Value) (c:Cse),v=.agg cs.toArray/\CseV w cs c/\∀ i,i<c.rss.length->∀ r∈c.rss.getD i [],∀ u∈r,Jqb u
set_option linter.constructorNameAsVariable false in
theorem Qmp{y:DataW H×List MemPlace}(h:DataW.trod enc Tryz.prog w base spare held n 31 cs=some y): ∃ c:Cse,CseV w cs c/\∀ i,i<c.rss.length->∀ r∈c.rss.getD i [],∀ u∈r,Jqb u:=by
 obtain⟨j,m,_,hx,D,O,B⟩:=DataW.trod_struct Tryz.underlying31 h;have U:cs.length=6:=by rw[D];kernel_rfl
 match cs,U with
 | [c0,c1,c2,c3,c4,c5],_=>
  have a1:j.length=6:=O;subst hx;have f0:DataW.trod enc Tryz.prog w base spare held m 3 (([c0,c1,c2,c3,c4,c5].drop 0).take (Tryz.prog.cellsOf 3))=j[0]?:=B 0 _ rfl;have f1:DataW.trod enc Tryz.prog w base spare held m 3 (([c0,c1,c2,c3,c4,c5].drop 1).take (Tryz.prog.cellsOf 3))=j[1]?:=B 1 _ rfl;have f2:DataW.trod enc Tryz.prog w base spare held m 27 (([c0,c1,c2,c3,c4,c5].drop 2).take (Tryz.prog.cellsOf 27))=j[2]?:=B 2 _ rfl;have f3:DataW.trod enc Tryz.prog w base spare held m 22 (([c0,c1,c2,c3,c4,c5].drop 3).take (Tryz.prog.cellsOf 22))=j[3]?:=B 3 _ rfl;have f4:DataW.trod enc Tryz.prog w base spare held m 28 (([c0,c1,c2,c3,c4,c5].drop 4).take (Tryz.prog.cellsOf 28))=j[4]?:=B 4 _ rfl;have f5:DataW.trod enc Tryz.prog w base spare held m 29 (([c0,c1,c2,c3,c4,c5].drop 5).take (Tryz.prog.cellsOf 29))=j[5]?:=B 5 _ rfl;rw[show Tryz.prog.cellsOf 3=1 by kernel_rfl,List.getElem?_eq_getElem om]at f0 f1
  rw[show Tryz.prog.cellsOf 27=1 by kernel_rfl,List.getElem?_eq_getElem om]at f2;rw[show Tryz.prog.cellsOf 22=1 by kernel_rfl,List.getElem?_eq_getElem om]at f3;rw[show Tryz.prog.cellsOf 28=1 by kernel_rfl,List.getElem?_eq_getElem om]at f4;rw[show Tryz.prog.cellsOf 29=1 by kernel_rfl,List.getElem?_eq_getElem om]at f5;obtain⟨n,e0,_,w0⟩:=DataW.trod_int Tryz.underlying3 f0;obtain⟨f,e1,_,w1⟩:=DataW.trod_int Tryz.underlying3 f1;obtain⟨A2,k2,ds,e2,g2⟩:=Qmr f2;obtain⟨⟨p3,pm⟩,Z,g3,A3,k3,J⟩:=Jtt f3;simp only at J g3 Z;subst J;obtain⟨A4,k4,vs,e4,g4⟩:=Qmm f4;obtain⟨A5,k5,rss,e5,g5,G⟩:=Qmj f5;simp at e0 e1 e2 Z e4 e5;subst e0;subst e1;subst e2;subst Z;subst e4;subst e5;exact⟨⟨n,f,ds,pm,vs,rss⟩,⟨A2,k2,A3,k3,A4,k4,A5,k5,rfl,g2,g3,g4,g5,bounds_i64 w0,bounds_i64 w1⟩,G⟩
theorem Qmq{v:Value}{d:DataW H}{p:List MemPlace}(hv:Value.okWide Tryz.prog w .any b0 31 v)(h:DataW.Trod enc Tryz.prog w base spare held 31 v d p): Qyg w v:=by
 simp only[Value.okWide,Tryz.underlying31]at hv;obtain⟨⟨l⟩,rfl,_,_⟩:=hv;obtain⟨i,h⟩:=h;obtain⟨c,u,j⟩:=Qmp h;exact⟨l,c,rfl,u,j⟩
end
open Go.RowKit Pl Go.Wk
theorem Xxd{B0:Nat}{w:World}{v:Value}(hT:FB B0 w)(hc:Qyg w v): Ret Tryz.prog 8 [v] w λu w'=>u=.bool true/\Ext w w':=by
 obtain⟨cs,c,rfl,i,_⟩:=hc;exact Xxf hT i
end Go.Proofs.YtebiphhfkdbpfaaGreatDoor
