/- Part 0. -/
import Derived.Test.YtebcagekopgdhaaGreatDoorG19
import Derived.Laws.Cover3
import Derived.Lib.Bytealg
import Derived.ProofKit
import Derived.OpenShut
import Derived.ShutString
import Derived.ChangeOld
import Derived.Deep.Slices
import Derived.Deep.Fields
import Derived.Test.YtebcagekopgdhaaGreatDoorRows
import Derived.LaidSub
import Derived.Lib.LaidTab
set_option linter.unusedVariables false
set_option maxRecDepth 100000
set_option maxHeartbeats 40000000
namespace Go.Wk
open Go.RowKit
section
variable {P:Program} {n:Nat} {al:AL} {w:World} {Q:Exit->Act->World->Prop} {ops:Array Oper} {rest:List Oper}
variable {d ty:Nat} {op:Op} {pos:String} {aft:Array Edge} {tt:TT}
end
end Go.Wk
namespace Go.Proofs.YtebcagekopgdhaaGreatDoor
open Go.RowKit Pl Go.Wk
attribute [local irreducible] WC WL QX WD WDB
open Go.RowKit Pl Go.Wk
variable {a n:Nat}
theorem small_len(h:n<18446744073709551616): (Jj n).length<=2:=by
 rcases Nat.lt_or_ge 2 (Jj n).length with h1|h1
 .have hn:n≠0:=λe=>by subst e;rw [limbs_0]at h1;simp at h1
  have u:=Qjd hn;have o:4294967296^2<=4294967296^((Jj n).length-1):=Nat.pow_le_pow_right om om;omega
 .exact h1
theorem or_limb(k:Nat)(hk:k<2)(h:a<4294967296^k)(c:UInt32): bits .or .u64 (a:Int) (IntKind.u64.wrap (IntKind.u64.wrap (c.toNat:Int)*2^min (32*(k:Int)).toNat IntKind.u64.bits))=((a+4294967296^k*c.toNat:Nat):Int):=by
 have O:c.toNat<4294967296:=c.toNat_lt;have u:IntKind.u64.wrap (c.toNat:Int)=(c.toNat:Int):=by rw [IntKind.wrap_u64];omega
 rw [u];match k,hk with
 | 0,_=>
  have C:a=0:=by simpa using h
  subst C;have o:(2:Int)^min (32*((0:Nat):Int)).toNat IntKind.u64.bits=1:=by decide
  rw [o,Int.mul_one,u];have:=u64_or_nat 0 c.toNat om om;rw [Nat.zero_or]at this;simpa using this
 | 1,_=>
  have o:(2:Int)^min (32*((1:Nat):Int)).toNat IntKind.u64.bits=4294967296:=by decide
  have J:IntKind.u64.wrap ((c.toNat:Int)*4294967296)=((c.toNat*4294967296:Nat):Int):=by rw [IntKind.wrap_u64];omega
  have G:a<4294967296:=by simpa using h
  rw [o,J,u64_or_nat _ _ om om];have:=nat_join 32 (c.toNat*4294967296) a (by simp) G;rw [Nat.or_comm,this];omega
theorem natUint64_any{v:Value}{w:World}(hv:NatV w v n)(h:n<18446744073709551616): Ret Tryz.prog 42 [v] w λr w'=>r=.tuple #[.int .u64 (n:Int),.bool true]/\w'=w:=by
 have hl:=small_len h;refine Jz Tryz.func42 Tryz.ntmps42 rfl kr rfl ?_;refine ρ ?_;refine cl (Uz hv) ?_;rintro Z w' ⟨⟨A,rfl,U⟩,rfl⟩;refine ρ ?_;refine Qvt rfl (dF om) ?_;refine ρ ?_;refine Qh (λk=>[(4,.int .u64 ((val ((Jj n).take k):Nat):Int)),(0,.slice A (Jj n).length (Jj n).length),(12,.int .i64 ((Jj n).length:Int)),(13,.int .i64 ((k:Nat):Int))]) (λk O=>O=w'/\k<=(Jj n).length) (λk=>(Jj n).length-k) 0 sB ⟨rfl,Nat.zero_le _⟩ ?_;rintro k O ⟨rfl,hk⟩;refine ρ ?_;refine ci (λh=>?_) (λh=>?_)
 .have o:k<(Jj n).length:=by have:=oT h;omega
  refine ρ ?_;refine ix k U o ?_;refine ρ ?_;refine ld (U.cell (Zf o)) ?_;refine ρ ?_;refine wshl rfl rfl om rfl ?_;refine ρ ?_;have u:=Jcn ((Jj n).take k);have C:((Jj n).take k).length=k:=by rw [List.length_take];omega
  rw [C]at u;have G:(Jj n).take (k+1)=(Jj n).take k++[(Jj n).getD k 0]:=by
   rw [List.take_succ_eq_append_getElem o];simp [List.getD,List.getElem?_eq_getElem o]
  refine Qv (k+1) (Sub.cons (congrArg (λz=>some (Value.int .u64 z)) ?_) sB) ⟨rfl,om⟩ om;rw [or_limb k om u,G,Ic,C];simp [val]
 .have J:k=(Jj n).length:=by have:=oF h;omega
  subst J;refine ρ ?_;refine Yw ⟨?_,rfl⟩;rw [List.take_length,Zg]
open Go.RowKit Pl Go.Wk
open Go.RowKit Pl Go.Wk
end Go.Proofs.YtebcagekopgdhaaGreatDoor
namespace Go.Proofs.YtebcagekopgdhaaGreatDoor
namespace Pl
end Pl
open Go.RowKit Pl Go.Wk
attribute [local irreducible] WC WL QX WD WDB
open Go.RowKit Pl Go.Wk
attribute [local irreducible] WP WN WG
theorem treeHeight_any{N:Nat->Prop}{w:World}{d:Bool}{p:Value}{t:Tr}(h:TrV N w t p): Ret Tryz.prog 73 [.agg #[.bool d,p]] w λu w'=>u=.int .i64 (t.ht:Int)/\Ext w w':=by
 obtain ⟨q,rfl⟩:=h.ptr;refine Jz Tryz.func73 Tryz.ntmps73 rfl kr rfl ?_;refine ρ ?_;refine bx ?_;intro J b o O C;refine ρ ?_;refine ld (C.at (i:=1) rfl) ?_;refine ρ ?_;refine cl (Kt (h.ext o)) ?_;rintro u G ⟨rfl,rfl⟩;refine ρ ?_;exact Jq ⟨rfl,o⟩
open Go.RowKit Pl Go.Wk
attribute [local irreducible] WH WM
variable {c i n:Nat}
theorem RowsV.one{w:World}{A:Option Addr}{L:List Row}(h:RowsV w (.slice A n c) L)(hi:i<L.length): ∃ (v:Value) (cs:List Value),Rd w 1 A n cs/\n=L.length/\cs[i]?=some v/\RowV w v (L.getD i []):=by
 obtain ⟨O,J,e,_,_,cs,C,G⟩:=h.parts;injection e with e1 e2 e3
 subst e1;subst e2;obtain ⟨v,o,u⟩:=G i hi;exact ⟨v,cs,C,rfl,o,u⟩
end Go.Proofs.YtebcagekopgdhaaGreatDoor
namespace Go.Wk
open Go.RowKit Go.ChangeShapes Go.WideShapes
section
variable {H:Type} {enc:TypeId×Value->H} {P:Program} {w:World} {base:Nat} {spare:Nat->Bool} {held:Bool}
theorem rd_of{A:Option Addr}{sz len:Nat}{cs:List Value}{ad:Addr}(hA:A=some ad)(hl:cs.length=len*sz)(hc:∀ j u,cs[j]?=some u->w.cell? (ad.add j)=some u): Rd w sz A len cs :=
 ⟨hl,λh0=>⟨ad,hA,by
  have o:=hc 0 cs[0] (List.getElem?_eq_getElem h0);rw [add_zero]at o;exact World.block_lt_of_cell? w ad o,hc⟩⟩
theorem flatMap_one{α:Type}(f:α->Value)(l:List α): l.flatMap (λz=>[f z])=l.map f:=by induction l<;>simp_all
end
end Go.Wk
namespace Go.Proofs.YtebcagekopgdhaaGreatDoor
open Go.RowKit Pl Go.Wk Go.ChangeShapes Go.WideShapes
variable {cs:List Value}{e fuel i n t:Nat}{H α β:Type}
theorem bulk_one(d:DataW H): 1<=Rows.uptoBulk d:=by
 cases d with
 | lit l=>cases l<;>simp [Rows.uptoBulk]
 | nil=>simp [Rows.uptoBulk]
 | ptr d=>simp [Rows.uptoBulk]
 | slice elems spare=>simp [Rows.uptoBulk]
 | agg parts=>simp [Rows.uptoBulk]
 | iface t d=>simp [Rows.uptoBulk]
 | map entries=>simp [Rows.uptoBulk]
 | held h=>simp [Rows.uptoBulk]
theorem bulk_part{d:DataW H}{l:List (DataW H)}(h:d∈l): Rows.uptoBulk d<=Rows.uptoBulkAll l:=by
 induction l with
 | nil=>cases h
 | cons x r ih=>
  simp only [Rows.uptoBulkAll];cases List.mem_cons.1 h with
  | inl e=>subst e;omega
  | inr e=>have:=ih e;omega
theorem bulk_len(l:List (DataW H)): l.length<=Rows.uptoBulkAll l:=by
 induction l with
 | nil=>simp [Rows.uptoBulkAll]
 | cons x r ih=>have:=bulk_one x;simp only [Rows.uptoBulkAll,List.length_cons];omega
section
variable {H:Type} {enc:TypeId×Value->H} {P:Program} {w:World} {base:Nat} {spare:Nat->Bool} {held:Bool} {B:Nat}
theorem open_elemsB{sz:Nat}{x:DataW H×List MemPlace}(X:α->List Value)(R:α->Prop)(ht:P.underlying t=some (.slice e))(hc:P.cellsOf e=sz)(hb:Rows.uptoBulk x.1<=B)(hX:∀ (n:Nat) (cs':List Value) (y:DataW H×List MemPlace),DataW.trod enc P w base spare held n e cs'=some y->Rows.uptoBulk y.1<=B->∃ z:α,cs'=X z/\R z)(h:DataW.trod enc P w base spare held fuel t cs=some x): ∃ (l:List α) (A:Option Addr) (cap:Nat),cs=[.slice A l.length cap]/\Rd w sz A l.length (l.flatMap X)/\(∀ z∈l,R z)/\l.length<=cap/\l.length<=B:=by
 rcases Go.Deep.open_slice ht h with ⟨G,_⟩|⟨a,len,cap,m,n,D,Pl,G,_,hl,hm,hmm,hx,hel⟩
 .exact ⟨[],none,0,G,Rd.nil,(λz J=>by cases J),Nat.le_refl _,Nat.zero_le _⟩
 .subst G;subst hx;have a6:len<=m:=by rw [hmm];split<;>omega
  have a3:Rows.uptoBulkAll ((List.range len).map D)<=B:=by
   simp only [Rows.uptoBulk]at hb;omega
  have a2:len<=B:=by
   have:=bulk_len ((List.range len).map D);simp at this;omega
  have key:∀ k,k<=len->∃ l:List α,l.length=k/\(l.flatMap X).length=k*sz/\(∀ j u,(l.flatMap X)[j]?=some u->w.cell? (a.add j)=some u)/\∀ z∈l,R z:=by
   intro k;induction k with
   | zero=>intro _;exact ⟨[],rfl,by simp,(λj u o=>by simp at o),(λz J=>by cases J)⟩
   | succ k ih=>
    intro hk;obtain ⟨l,h1,U,h3,h4⟩:=ih om;obtain ⟨cs',C,a1⟩:=hel k om;have a5:D k∈(List.range len).map D:=List.mem_map.2 ⟨k,List.mem_range.2 om,rfl⟩;obtain ⟨z,rfl,J⟩:=hX n cs' _ a1 (nL (bulk_part a5) a3);rw [hc]at C;obtain ⟨_,O,a4⟩:=World.cells?_some C;refine ⟨l++[z],by simp [h1],?_,?_,?_⟩
    .rw [List.flatMap_append,List.length_append,U];simp only [List.flatMap_cons,List.flatMap_nil,List.append_nil,O,Nat.add_mul,Nat.one_mul]
    .intro j u o;rw [List.flatMap_append]at o;simp only [List.flatMap_cons,List.flatMap_nil,List.append_nil]at o;rcases Nat.lt_or_ge j (k*sz) with hj|hj
     .rw [List.getElem?_append_left om]at o;exact h3 j u o
     .rw [List.getElem?_append_right om,U]at o;have hb:j-k*sz<sz:=by have:=(List.getElem?_eq_some_iff.1 o).1;omega
      have:=a4 (j-k*sz) hb;rw [add_add]at this;rw [show k*sz+(j-k*sz)=j by omega]at this;rw [this,o]
    .intro z' Z;rcases List.mem_append.1 Z with h'|h'
     .exact h4 z' h'
     .simp at h';subst h';exact J
  obtain ⟨l,h1,U,h3,h4⟩:=key len (Nat.le_refl _);subst h1;exact ⟨l,some a,cap,rfl,rd_of rfl U h3,h4,hl,a2⟩
end
section
variable {H:Type} {enc:TypeId×Value->H} {w:World} {base b0:Nat} {spare:Nat->Bool} {held:Bool}
theorem open_value{y:DataW H×List MemPlace}(h:DataW.trod enc Tryz.prog w base spare held n 47 cs=some y): ∃ v:V,cs=v.cells/\Vt v:=by
 obtain ⟨u,m,_,_,o,C,J⟩:=DataW.trod_struct Tryz.underlying47 h;have G:cs.length=3:=by rw [o];kernel_rfl
 have a1:u.length=3:=C;match cs,G with
 | [c0,c1,c2],_=>
  have U:DataW.trod enc Tryz.prog w base spare held m 3 (([c0,c1,c2].drop 0).take (Tryz.prog.cellsOf 3))=u[0]?:=J 0 _ rfl;have f1:DataW.trod enc Tryz.prog w base spare held m 2 (([c0,c1,c2].drop 1).take (Tryz.prog.cellsOf 2))=u[1]?:=J 1 _ rfl;have O:DataW.trod enc Tryz.prog w base spare held m 9 (([c0,c1,c2].drop 2).take (Tryz.prog.cellsOf 9))=u[2]?:=J 2 _ rfl;rw [show Tryz.prog.cellsOf 3=1 by kernel_rfl,List.getElem?_eq_getElem om]at U;rw [show Tryz.prog.cellsOf 2=1 by kernel_rfl,List.getElem?_eq_getElem om]at f1;rw [show Tryz.prog.cellsOf 9=1 by kernel_rfl,List.getElem?_eq_getElem om]at O;obtain ⟨k,e0,_,wk⟩:=DataW.trod_int Tryz.underlying3 U;obtain ⟨i,e1,_,wi⟩:=DataW.trod_int Tryz.underlying2 f1;obtain ⟨s,Z,_,_⟩:=DataW.trod_string Tryz.underlying9 O;simp at e0 e1 Z;subst e0;subst e1;subst Z;exact ⟨⟨k,i,s⟩,rfl,bounds_i64 wk,bounds_i64 wi⟩
def RowE(w:World)(v:Value)(r:Row): Prop:=RowV w v r/\∀ u∈r,Vt u
theorem open_rowE{y:DataW H×List MemPlace}(h:DataW.trod enc Tryz.prog w base spare held n 37 cs=some y)(hb:Rows.uptoBulk y.1<=1048576): ∃ p:Pr,cs=[p.1]/\RowE w p.1 p.2:=by
 obtain ⟨l,A,o,e,O,J,G,Z⟩:=open_elemsB (sz:=3) V.cells Vt Tryz.underlying37 kr hb (λn U y u _=>open_value u) h;have C:l.length<=1100000:=om
 exact ⟨(.slice A l.length o,l),e,⟨A,o,rfl,G,C,O⟩,J⟩
def RowsE(w:World)(v:Value)(ls:List Row): Prop:=RowsV w v ls/\∀ r∈ls,∀ u∈r,Vt u
theorem open_rowsE{y:DataW H×List MemPlace}(h:DataW.trod enc Tryz.prog w base spare held n 54 cs=some y)(hb:Rows.uptoBulk y.1<=1048576): ∃ p:Value×List Row,cs=[p.1]/\RowsE w p.1 p.2:=by
 obtain ⟨ps,A,o,e,J,G,h3,h4⟩:=open_elemsB (sz:=1) (λp:Pr=>[p.1]) (λp=>RowE w p.1 p.2) Tryz.underlying54 kr hb (λn a1 y O hb=>open_rowE O hb) h;rw [flatMap_one]at J;exact ⟨(.slice A ps.length o,ps.map (·.2)),e,⟨ps,A,o,rfl,rfl,h3,om,J,λp C=>(G p C).1⟩,λr Z u U=>by
  obtain ⟨p,C,rfl⟩:=List.mem_map.1 Z;exact (G p C).2 u U⟩
theorem getD_map(f:α->β)(l:List α)(a:α)(b:β)(h:i<l.length): (l.map f).getD i b=f (l.getD i a):=by simp [List.getD,List.getElem?_eq_getElem h]
theorem open_rowssE{y:DataW H×List MemPlace}(h:DataW.trod enc Tryz.prog w base spare held n 51 cs=some y)(hb:Rows.uptoBulk y.1<=1048576):
  ∃ (A:Option Addr) (c:Nat) (rss:List (List Row)),cs=[.slice A rss.length c]/\RowssV w (.slice A rss.length c) rss/\∀ i,i<rss.length->∀ r∈rss.getD i [],∀ u∈r,Vt u:=by
 obtain ⟨ps,A,C,e,U,O,h3,h4⟩:=open_elemsB (sz:=1) (λp:Value×List Row=>[p.1]) (λp=>RowsE w p.1 p.2) Tryz.underlying51 kr hb (λn a1 y Z hb=>open_rowsE Z hb) h;rw [flatMap_one]at U;have G:(ps.map (·.2)).length=ps.length:=List.length_map _
 have J:∀ i,i<ps.length->(ps.map (·.2)).getD i []=(ps.getD i (.bool false,[])).2:=λi hi=>getD_map (·.2) ps (.bool false,[]) [] hi
 refine ⟨A,C,ps.map (·.2),by rw [G];exact e,⟨A,C,ps.map (·.1),rfl,om,om,by rw [G];exact U,λi hi=>?_⟩,λi hi=>?_⟩
 .have o:i<ps.length:=om
  rw [J i o];exact ⟨(ps.getD i (.bool false,[])).1,by simp [List.getD,List.getElem?_eq_getElem o],(O _ (getD_mem' _ _ o)).1⟩
 .have o:i<ps.length:=om
  rw [J i o];exact (O _ (getD_mem' _ _ o)).2
theorem open_intsE{y:DataW H×List MemPlace}(h:DataW.trod enc Tryz.prog w base spare held n 44 cs=some y)(hb:Rows.uptoBulk y.1<=1048576): ∃ p:Value×List Int,cs=[p.1]/\IntsV w p.1 p.2/\∃ A c,p.1=.slice A p.2.length c:=by
 obtain ⟨l,A,o,e,u,Z,J,U⟩:=open_elemsB (sz:=1) (λz:Int=>[Value.int .i64 z]) (λ_=>True) Tryz.underlying44 kr hb (λn O y C _=>by obtain ⟨z,e,_,_⟩:=DataW.trod_int Tryz.underlying3 C;exact ⟨z,e,trivial⟩) h;rw [flatMap_one]at u;have G:l.length<=1100000:=om
 exact ⟨(.slice A l.length o,l),e,⟨A,o,rfl,J,G,u⟩,A,o,rfl⟩
theorem open_intssE{y:DataW H×List MemPlace}(h:DataW.trod enc Tryz.prog w base spare held n 50 cs=some y)(hb:Rows.uptoBulk y.1<=1048576):
  ∃ (A:Option Addr) (c:Nat) (zss:List (List Int)),cs=[.slice A zss.length c]/\IntssV w (.slice A zss.length c) zss:=by
 obtain ⟨ps,A,u,e,G,U,h3,h4⟩:=open_elemsB (sz:=1) (λp:Value×List Int=>[p.1]) (λp=>IntsV w p.1 p.2) Tryz.underlying50 kr hb (λn Z y J hb=>by obtain ⟨p,e,O,_⟩:=open_intsE J hb;exact ⟨p,e,O⟩) h;rw [flatMap_one]at G;have C:(ps.map (·.2)).length=ps.length:=List.length_map _
 refine ⟨A,u,ps.map (·.2),by rw [C];exact e,⟨A,u,ps.map (·.1),rfl,om,om,by rw [C];exact G,λi hi=>?_⟩⟩
 have o:i<ps.length:=om
 rw [getD_map (·.2) ps (.bool false,[]) [] o]
 exact ⟨(ps.getD i (.bool false,[])).1,by simp [List.getD,List.getElem?_eq_getElem o],U _ (getD_mem' _ _ o)⟩
theorem open_boolsE{y:DataW H×List MemPlace}(h:DataW.trod enc Tryz.prog w base spare held n 24 cs=some y)(hb:Rows.uptoBulk y.1<=1048576): ∃ (A:Option Addr) (c:Nat) (l:List Bool),cs=[.slice A l.length c]/\BoolsV w (.slice A l.length c) l:=by
 obtain ⟨l,A,o,e,u,U,G,O⟩:=open_elemsB (sz:=1) (λz:Bool=>[Value.bool z]) (λ_=>True) Tryz.underlying24 kr hb (λn J y C _=>by obtain ⟨z,e,_⟩:=DataW.trod_bool Tryz.underlying4 C;exact ⟨z,e,trivial⟩) h;rw [flatMap_one]at u;exact ⟨A,o,l,e,⟨A,o,rfl,G,om,u⟩⟩
def CaseE(w:World)(v:Value): Prop:=∃ (cs:List Value) (c:Cse),v=.agg cs.toArray/\CseV w cs c/\∀ i,i<c.rss.length->∀ r∈c.rss.getD i [],∀ u∈r,Vt u
theorem open_case{v:Value}{d:DataW H}{p:List MemPlace}(hv:Value.okWide Tryz.prog w .any b0 53 v)(h:DataW.Trod enc Tryz.prog w base spare held 53 v d p)(hb:Rows.uptoBulk d<=1048576): CaseE w v:=by
 simp only [Value.okWide,Tryz.underlying53]at hv;obtain ⟨cs,rfl,h2,_⟩:=hv;rw [show Tryz.prog.cellsOf 53=6 by kernel_rfl]at h2;obtain ⟨l⟩:=cs;obtain ⟨a2,h⟩:=h;match l,h2 with
 | [c0,c1,c2,c3,c4,c5],_=>
  obtain ⟨o,m,_,Z,a1,U,u⟩:=DataW.trod_struct Tryz.underlying53 h;have a3:o.length=6:=U;injection Z with Z _
  subst Z;have J:∀ i (hi:i<o.length),Rows.uptoBulk o[i].1<=1048576:=λi hi=>by
   have h1:o[i].1∈o.map (·.1):=List.mem_map.2 ⟨o[i],List.getElem_mem hi,rfl⟩
   have h2:=bulk_part h1;simp only [Rows.uptoBulk]at hb;omega
  have f0:DataW.trod enc Tryz.prog w base spare held m 3 (([c0,c1,c2,c3,c4,c5].drop 0).take (Tryz.prog.cellsOf 3))=o[0]?:=u 0 _ rfl;have f1:DataW.trod enc Tryz.prog w base spare held m 3 (([c0,c1,c2,c3,c4,c5].drop 1).take (Tryz.prog.cellsOf 3))=o[1]?:=u 1 _ rfl;have f2:DataW.trod enc Tryz.prog w base spare held m 24 (([c0,c1,c2,c3,c4,c5].drop 2).take (Tryz.prog.cellsOf 24))=o[2]?:=u 2 _ rfl;have f3:DataW.trod enc Tryz.prog w base spare held m 44 (([c0,c1,c2,c3,c4,c5].drop 3).take (Tryz.prog.cellsOf 44))=o[3]?:=u 3 _ rfl;have f4:DataW.trod enc Tryz.prog w base spare held m 50 (([c0,c1,c2,c3,c4,c5].drop 4).take (Tryz.prog.cellsOf 50))=o[4]?:=u 4 _ rfl;have f5:DataW.trod enc Tryz.prog w base spare held m 51 (([c0,c1,c2,c3,c4,c5].drop 5).take (Tryz.prog.cellsOf 51))=o[5]?:=u 5 _ rfl;rw [show Tryz.prog.cellsOf 3=1 by kernel_rfl,List.getElem?_eq_getElem om]at f0 f1;rw [show Tryz.prog.cellsOf 24=1 by kernel_rfl,List.getElem?_eq_getElem om]at f2
  rw [show Tryz.prog.cellsOf 44=1 by kernel_rfl,List.getElem?_eq_getElem om]at f3;rw [show Tryz.prog.cellsOf 50=1 by kernel_rfl,List.getElem?_eq_getElem om]at f4;rw [show Tryz.prog.cellsOf 51=1 by kernel_rfl,List.getElem?_eq_getElem om]at f5;obtain ⟨n,e0,_,w0⟩:=DataW.trod_int Tryz.underlying3 f0;obtain ⟨f,e1,_,w1⟩:=DataW.trod_int Tryz.underlying3 f1;obtain ⟨A2,k2,ds,e2,g2⟩:=open_boolsE f2 (J 2 om);obtain ⟨⟨p3,pm⟩,e3,g3,A3,k3,G⟩:=open_intsE f3 (J 3 om);simp only at G g3 e3;subst G;obtain ⟨A4,k4,vs,e4,g4⟩:=open_intssE f4 (J 4 om);obtain ⟨A5,k5,O,e5,g5,C⟩:=open_rowssE f5 (J 5 om);simp at e0 e1 e2 e3 e4 e5;subst e0;subst e1;subst e2;subst e3;subst e4;subst e5;exact ⟨_,⟨n,f,ds,pm,vs,O⟩,rfl,⟨A2,k2,A3,k3,A4,k4,A5,k5,rfl,g2,g3,g4,g5,bounds_i64 w0,bounds_i64 w1⟩,C⟩
end
theorem gPow: Tryz.prog.globalNamed "internal/strconv.uint64pow10" = some 1:=kr
theorem gPowT: (Tryz.prog.globals[1]?).map (·.type)=some 315:=kr
theorem tb_of_laid{W:World}(h:laidMetH Tryz.prog Rows.walkPiecesUptoRow.laid W): TB W.heap.size W:=by
 refine ⟨Nat.le_refl _,Lib.tabBelow_of_tabIs ?_⟩;have o:=h.filter (λx=>x.1 == "internal/strconv.uint64pow10");exact Lib.tabIs_of_head (rest:=[]) gPow gPowT Tryz.underlying315 Tryz.underlying22 kr kr o
def layOn(d:DataW Unit): Obj->Obj
 | .cells _ t z=>.cells (match d with
  | .agg ps=>(ps.map fun
   | .lit (.int k z)=>Value.int k z
   | _=>Value.bool false).toArray
  | _=>#[]) t z
 | o=>o
end Go.Proofs.YtebcagekopgdhaaGreatDoor
namespace Go.Wk
end Go.Wk
namespace Go.Proofs.YtebcagekopgdhaaGreatDoor
open Go.RowKit Pl Go.Wk
attribute [local irreducible] WC WL QX WD WDB WP WN WG WH WM
variable {c i j m:Nat}
theorem cmpR_takeD: ∀ (a b:Row) (ds:List Bool) (l:Nat),Jw a b ds<=0->Jw (a.take l) (b.take l) ds<=0
 | _,_,_,0,_=>by simp [Jw]
 | [],[],_,_+1,_=>by simp [Jw]
 | [],_::_,_,_+1,_=>by simp [Jw]
 | _::_,[],_,_+1,h=>by simp [Jw]at h
 | x::a,y::b,ds,l+1,h=>by
  simp only [List.take_succ_cons,Jw]at h ⊢;by_cases e:cmpV x y=0
  .rw [if_pos e]at h ⊢;exact cmpR_takeD a b _ l h
  .rw [if_neg e]at h ⊢;exact h
theorem lt_getD{ds:List Bool}{L:List Row}(h:Lt ds L)(hij:i<j)(hj:j<L.length): Jw (L.getD i []) (L.getD j []) ds<0:=by
 have hi:i<L.length:=om
 have:=List.pairwise_iff_getElem.1 h i j hi hj hij;rwa [Jr [] _ hi,Jr [] _ hj]at *
theorem take_rowV{w:World}{A:Option Addr}{r:Row}(h:RowV w (.slice A r.length c) r)(hm:m<=r.length): RowV w (.slice A m c) (r.take m)/\(r.take m).length=m/\m<=c:=by
 obtain ⟨J,G,e,C,u,o⟩:=h;injection e with e1 e2 e3
 subst e1;subst e3;have e:(r.take m).length=m:=by rw [List.length_take];omega
 refine ⟨⟨A,c,by rw [e],om,om,?_⟩,e,om⟩;have:=Rd.take o (m:=m) hm;rw [Jds r hm]at this;unfold RdR;rw [e];exact this
open Go.RowKit Pl Go.Wk
variable {B f i n v:Nat}
theorem ixBuckets_any{w:World}{x:Value}{ds:List Bool}{kf:Nat->Nat}{pf:Nat->Int}{BB:Nat->List BkT}{tot:Nat}(h:IxV w x f ds kf pf BB tot)(hv:v<f):
  Ret Tryz.prog 72 [x,.int .i64 (v:Int)] w λu w'=>DnB (λ_=>False) (ds.getD v false) w' u (BB v)/\Ext w w':=by
 obtain ⟨DA,dc,BA,cb,KA,ck,PA,cp,tv,G,a5,rfl,a8,a9,hD,hB,hK,hP,a4,a3⟩:=id h.ex;obtain ⟨TA,tc,rfl,_⟩:=id a4;refine Jz Tryz.func72 Tryz.ntmps72 rfl kr rfl ?_;refine ρ ?_;refine bx ?_;intro w1 b C hb Z;refine ρ ?_;refine ldW Z ?_;refine ρ ?_;refine cl (Qjl (h.ext C) hv) ?_;rintro _ w2 ⟨rfl,o⟩;refine ρ ?_;refine ld ((Z.ext o).at (i:=2) rfl) ?_;refine ρ ?_;have U:=(hK.ext C).ext o;have O:G[v]?=some (G.getD v (.slice none 0 0)):=by
  have:=hK.1;simp [List.getD,List.getElem?_eq_getElem (show v<G.length by omega)]
 have J:=((a3 v hv).bks.ext C).ext o;refine ix v U hv ?_;obtain ⟨_,KQ,a7,_,a1,_⟩:=id J;refine ρ ?_;refine ld (by rw [a1]at O;exact U.cell O) ?_;refine ρ ?_;rw [a1]at J;refine cl (Qpp J λk hk=>hk.elim) ?_;rintro u w3 ⟨hu,a2⟩;obtain ⟨_,KR,a6,_,rfl,_⟩:=id hu;refine ρ ?_;exact Jq ⟨hu,(C.trans o).trans a2⟩
theorem hmB_take(bs:List BkT)(h:i<bs.length): hmB (bs.take (i+1))=max (hmB (bs.take i)) bs[i].2.ht:=by
 unfold hmB;rw [List.take_succ_eq_append_getElem h,List.foldl_append];rfl
theorem hmB_le{bs:List BkT}(h:∀ b∈bs,b.2.ht<=B): hmB bs<=B:=by
 have key:∀ (l:List BkT) (m:Nat),m<=B->(∀ b∈l,b.2.ht<=B)->l.foldl (λm b=>max m b.2.ht) m<=B:=by
  intro l;induction l with
  | nil=>intro m o _;exact o
  | cons b l ih=>intro m o u;exact ih _ (Nat.max_le.2 ⟨o,u b mC⟩) λc C=>u c (List.mem_cons_of_mem _ C)
 exact key bs 0 (Nat.zero_le _) h
theorem sumR_bd{g:Nat->Nat}(h:∀ c,c<n->g c<=B): Qc n g<=n*B:=by
 induction n with
 | zero=>simp [Qc]
 | succ n ih=>rw [Qc,Nat.succ_mul];have:=ih λc o=>h c om;have:=h n om;omega
end Go.Proofs.YtebcagekopgdhaaGreatDoor
namespace Go.Wk
open Go.RowKit
section
variable {P:Program} {n:Nat} {al:AL} {w:World} {Q:Exit->Act->World->Prop} {ops:Array Oper} {rest:List Oper} {d ty:Nat} {pos:String} {aft:Array Edge}
end
end Go.Wk
namespace Go.Proofs.YtebcagekopgdhaaGreatDoor
open Go.RowKit Pl Go.Wk
attribute [local irreducible] WC WL QX WD WDB WP WN WG WH WM
def SF.rw(y:V): SF:=⟨λv W=>∃ b:Nat,v=.slice (some ⟨b,0,none⟩) 1 1/\Blk W b 47 (Jm [y]),λ⟨b,e,h⟩ hx=>⟨b,e,h.ext hx⟩⟩
def SF.zs: SF:=⟨λv _=>∃ b:Nat,v=.slice (some ⟨b,0,none⟩) 0 0,λh _=>h⟩
end Go.Proofs.YtebcagekopgdhaaGreatDoor
namespace Go.Proofs.YtebcagekopgdhaaGreatDoor
open Go.RowKit Pl Go.Wk Go.ChangeShapes Go.WideShapes
section
variable {H:Type} {enc:TypeId×Value->H} {w:World} {base b0:Nat} {spare:Nat->Bool} {held:Bool}
theorem open_rowA{v:Value}{d:DataW H}{p:List MemPlace}(hv:Value.okWide Tryz.prog w .any b0 37 v)(h:DataW.Trod enc Tryz.prog w base spare held 37 v d p)(hb:Rows.uptoBulk d<=1048576): ∃ r,RowE w v r:=by
 obtain ⟨a,len,o,rfl⟩:=okWide_slice Tryz.underlying37 hv;obtain ⟨u,G⟩:=h;obtain ⟨q,e,C⟩:=open_rowE G hb;have J:Value.slice a len o=q.1:=by
  injection e
 exact ⟨q.2,J ▸ C⟩
end
open Go.RowKit Pl Go.Wk
section
variable {ds:List Bool} {L:List Row} {p:Row}
theorem hi_eq(ds:List Bool)(L:List Row)(p:Row): (L.filter λx=>decide (Jw (x.take p.length) p ds<=0)).length=Qy ds L p+(wiL L p).length:=by
 unfold Qy wiL;induction L with
 | nil=>rfl
 | cons x L ih=>
  simp only [List.filter_cons];by_cases h0:x.take p.length=p
  .have e:Jw (x.take p.length) p ds=0:=by rw [h0];exact Va p ds
   rw [if_pos (show decide (Jw (x.take p.length) p ds<=0)=true by rw [e];rfl),if_neg (show ¬ decide (Jw (x.take p.length) p ds<0)=true by rw [e];decide),if_pos (by simpa using h0),List.length_cons,List.length_cons,ih];omega
  .have o:Jw (x.take p.length) p ds≠0:=λe=>h0 (Jzd _ _ ds e);rw [if_neg (show ¬ decide (x.take p.length=p)=true by simpa using h0)];by_cases h1:Jw (x.take p.length) p ds<0
   .rw [if_pos (by simpa using Int.le_of_lt h1),if_pos (by simpa using h1),List.length_cons,List.length_cons,ih];omega
   .rw [if_neg (by simp;omega),if_neg (by simpa using h1),ih]
theorem rk_pre(h:Lt ds L){i:Nat}(hi:i<L.length)(he:(L.getD i []).take p.length=p): i=Qy ds L p+(wiL (L.take i) p).length:=by
 have e:Qy ds L p=Qy ds (L.take i) p+Qy ds (L.drop i) p:=by rw [<-Qrg,List.take_append_drop]
 have U:Qy ds (L.drop i) p=0:=Qxs λx u=>by
  obtain ⟨j,o,rfl⟩:=List.getElem_of_mem u;rw [List.getElem_drop];have G:Jw (L.getD i []) (L[i+j]'(by rw [List.length_drop]at o;omega)) ds<=0:=by
   rcases Nat.eq_zero_or_pos j with rfl|h'
   .simp only [Nat.add_zero,Jr [] _ hi];rw [Va];exact Int.le_refl _
   .have:=lt_getD h (i:=i) (j:=i+j) om (by rw [List.length_drop]at o;omega);rw [<-Jr [] _ (show i+j<L.length by rw [List.length_drop]at o;omega)];exact Int.le_of_lt this
  have k:=cmpR_takeD _ _ ds p.length G;rw [he]at k;have:=Jwk p ((L[i+j]'(by rw [List.length_drop]at o;omega)).take p.length) ds;omega
 have C:∀ x∈L.take i,Jw (x.take p.length) p ds<=0:=λx u=>by
  obtain ⟨j,o,rfl⟩:=List.getElem_of_mem u;rw [List.length_take]at o;rw [List.getElem_take];have:=lt_getD h (i:=j) (j:=i) om hi;rw [Jr [] _ (show j<L.length by omega)]at this;have k:=cmpR_takeD _ _ ds p.length (Int.le_of_lt this);rwa [he]at k
 have O:(L.take i).filter (λx=>decide (Jw (x.take p.length) p ds<=0))=L.take i:=List.filter_eq_self.2 λx u=>by simpa using C x u
 have J:=hi_eq ds (L.take i) p;rw [O,List.length_take,Nat.min_eq_left om]at J;omega
end
open Go.RowKit Pl Go.Wk
attribute [local irreducible] WC WL QX WD WDB WP WN WG WH WM
theorem filter_sn8{α:Type}(F:α->Bool)(l:List α)(x:α): ((l++[x]).filter F).length=(l.filter F).length+if F x=true then 1 else 0:=by
 rw [List.filter_append,List.length_append];congr 1
 by_cases h:F x=true
 .rw [if_pos h,List.filter_cons,if_pos h];rfl
 .rw [if_neg h,List.filter_cons,if_neg h];rfl
theorem ref42Prefix_any{w:World}{LA D1 A1:Option Addr}{lc dc c1:Nat}{L:List Row}{p:Row}{ds:List Bool}(hL:RowsV w (.slice LA L.length lc) L)(hp:RowV w (.slice A1 p.length c1) p)(hd:BoolsV w (.slice D1 ds.length dc) ds)(hpl:∀ y∈L,p.length<=y.length):
  Ret Tryz.prog 43 [.slice LA L.length lc,.slice A1 p.length c1,.slice D1 ds.length dc] w λu w'=>u=.tuple #[.int .i64 (Qy ds L p:Int),.int .i64 ((Qy ds L p+(wiL L p).length:Nat):Int)]/\Ext w w':=by
 obtain ⟨_,_,eA,_,ag,ae,a4,ac⟩:=hL.parts;injection eA with e1 e2 e3
 subst e1;subst e3;obtain ⟨G,hG⟩:∃ G:Row->Bool,G=λy=>decide (Jw (y.take p.length) p ds<0):=⟨_,rfl⟩;obtain ⟨H,hH⟩:∃ H:Row->Bool,H=λy=>decide (Jw (y.take p.length) p ds<=0):=⟨_,rfl⟩;refine Jz Tryz.func43 Tryz.ntmps43 rfl kr rfl ?_;refine ρ ?_;refine Qh (fun (i:Nat)=>[(0,.slice LA L.length lc),(1,.slice A1 p.length c1),(2,.slice D1 ds.length dc),(8,.int .i64 (((L.take i).filter G).length:Nat)),(9,.int .i64 (((L.take i).filter H).length:Nat)),(10,.int .i64 (i:Int))])
  (λi w'=>i<=L.length/\Ext w w') (λi=>L.length-i) 0 sB ⟨Nat.zero_le _,Ext.refl _⟩ ?_
 rintro i w1 ⟨hi,o⟩;have ah:((L.take i).filter G).length<=i:=nL (List.length_filter_le _ _) (by rw [List.length_take];omega);have ad:((L.take i).filter H).length<=i:=nL (List.length_filter_le _ _) (by rw [List.length_take];omega);refine ρ ?_;refine ci (λC=>?_) (λC=>?_)
 .have li:i<L.length:=by have:=oT C;omega
  clear C;obtain ⟨v,hv,hr⟩:=ac i li;obtain ⟨X1,x1,rfl,_⟩:=id hr;have a9:L.take (i+1)=L.take i++[L.getD i []]:=Qb [] li;have a3:=hpl _ (getD_mem' [] _ li);obtain ⟨aa,a1,af⟩:=take_rowV (hr.ext o) a3;have a2:RowV w1 (.slice X1 ((L.getD i []).take p.length).length x1) ((L.getD i []).take p.length):=by rw [a1];exact aa
  rw [a1]at a2;have U:=filter_sn8 G (L.take i) (L.getD i []);have O:=filter_sn8 H (L.take i) (L.getD i []);rw [<-a9]at U O;refine ρ ?_;refine ix i (a4.ext o) li ?_;refine ρ ?_;refine ld ((a4.ext o).cell hv) ?_;refine ρ ?_;refine slh p.length ?_;refine ρ ?_;refine cl (Jrs a2 (hp.ext o) (hd.ext o)) ?_;rintro _ w2 ⟨⟨z,rfl,hz,Z⟩,a8⟩;have a6:G (L.getD i [])=true↔z<0:=by rw [hG];simp only [decide_eq_true_eq];exact hz.symm
  have a5:H (L.getD i [])=true↔z<=0:=by
   rw [hH];simp only [decide_eq_true_eq];constructor
   .intro h;by_cases e:Jw ((L.getD i []).take p.length) p ds=0
    .have:=Z.2 (Jzd _ _ ds e);omega
    .have:=hz.2 om;omega
   .intro h;by_cases e:z=0
    .rw [Z.1 e,Va];exact Int.le_refl _
    .have:=hz.1 om;omega
  refine ρ ?_;refine Qvl [(0,.slice LA L.length lc),(1,.slice A1 p.length c1),(2,.slice D1 ds.length dc),(8,.int .i64 (((L.take (i+1)).filter G).length:Nat)),(9,.int .i64 (((L.take i).filter H).length:Nat)),(10,.int .i64 (i:Int)),(11,.int .i64 z)] (λw'=>Ext w2 w') ?_ ?_
  .refine ci (λC=>?_) (λC=>?_)
   .rw [if_pos (a6.2 (oT C))]at U;refine ρ ?_;exact Jsc sO (Ext.refl _)
   .rw [if_neg (λe=>absurd (a6.1 e) (oF C))]at U;refine ρ ?_;exact Jsc sO (Ext.refl _)
  intro w3 a7;refine ρ ?_;have J:=(o.trans a8).trans a7;refine ci (λC=>?_) (λC=>?_)
  .rw [if_pos (a5.2 (oT C))]at O;refine ρ ?_;exact Qv (i+1) sO ⟨om,J⟩ om
  .rw [if_neg (λe=>absurd (a5.1 e) (oF C))]at O;refine ρ ?_;exact Qv (i+1) sO ⟨om,J⟩ om
 .have ab:i=L.length:=by have:=oF C;omega
  rw [ab,List.take_length];have e2:=hi_eq ds L p;rw [<-hH]at e2;have e1:(L.filter G).length=Qy ds L p:=by rw [hG];rfl
  rw [e1,e2];refine ρ ?_;exact Yw ⟨rfl,o⟩
open Go.RowKit Pl Go.Wk
theorem heights42_any{w:World}{x:Value}{f:Nat}{ds:List Bool}{kf:Nat->Nat}{pf:Nat->Int}{BB:Nat->List BkT}{tot:Nat}(h:IxV w x f ds kf pf BB tot)(hf32:f<=32)(hb:∀ v b,b∈BB v->b.2.ht<=65536):
  Ret Tryz.prog 41 [x] w λu w'=>u=.int .i64 (Qc f λv=>hmB (BB v):Nat)/\Ext w w':=by
 obtain ⟨DA,dc,BA,cb,KA,ck,PA,cp,tv,ay,ax,rfl,b7,b8,hD,hB,hK,hP,ai,b2⟩:=id h.ex;obtain ⟨TA,tc,rfl,_⟩:=id ai;refine Jz Tryz.func41 Tryz.ntmps41 rfl kr rfl ?_;refine ρ ?_;refine bx ?_;intro w1 b Z b9 a8;have a6:∀ v,hmB (BB v)<=65536:=λv=>hmB_le λb ap=>hb v b ap;have ak:∀ v,v<=f->Qc v (λv=>hmB (BB v))<=2097152:=λv hv=>by
  have:=sumR_bd (n:=v) (g:=λv=>hmB (BB v)) (B:=65536) λc _=>a6 c;have:v*65536<=32*65536:=nO _ om;omega
 refine ρ ?_;refine ldW a8 ?_;refine ρ ?_;refine cl (Jyr (h.ext Z)) ?_;rintro _ w2 ⟨rfl,U⟩;refine ρ ?_;refine Je (fun (v:Nat) (s:Nat)=>[(1,.pointer (some ⟨b,0,none⟩)),(3,.int .i64 (s:Int)),(9,.int .i64 (f:Int)),(10,.int .i64 (v:Int))])
  (λv s w'=>v<=f/\Ext w2 w'/\s=Qc v λv=>hmB (BB v)) (λv _=>f-v) 0 0 sB ⟨Nat.zero_le _,Ext.refl _,rfl⟩ ?_
 rintro v s w3 ⟨hv,G,hs⟩;have ar:=(a8.ext U).ext G;have b3:=ak v hv;refine ρ ?_;refine ci (λhc=>?_) (λhc=>?_)
 .have lv:v<f:=by have:=oT hc;omega
  clear hc;refine ρ ?_;refine ldW ar ?_;refine ρ ?_;refine cl (ixBuckets_any (h.ext ((Z.trans U).trans G)) lv) ?_;rintro u w4 ⟨⟨ps,A,c,a1,rfl,hc,hl,hR,_,a7⟩,ag⟩;refine ρ ?_;refine Je (fun (i:Nat) (m:Nat)=>[(1,.pointer (some ⟨b,0,none⟩)),(3,.int .i64 (s:Int)),(9,.int .i64 (f:Int)),(10,.int .i64 (v:Int)),(5,.int .i64 (m:Int)),(15,.slice A ps.length c),(16,.int .i64 (ps.length:Int)),(17,.int .i64 (i:Int))])
   (λi m w'=>i<=ps.length/\Ext w4 w'/\m=hmB ((BB v).take i)) (λi _=>ps.length-i) 0 0 sB ⟨Nat.zero_le _,Ext.refl _,rfl⟩ ?_
  rintro i m w5 ⟨hi,o,hm⟩;refine ρ ?_;refine ci (λh=>?_) (λh=>?_)
  .have li:i<ps.length:=by have:=oT h;omega
   clear h;have an:i<(BB v).length:=by rw [a1,List.length_map];exact li
   obtain ⟨z,hz⟩:∃ z,z=ps[i]:=⟨_,rfl⟩;have a5:(BB v)[i]=z.2:=by simp only [a1,List.getElem_map,hz]
   have ac:z∈ps:=by rw [hz];exact List.getElem_mem li
   obtain ⟨b1,a4⟩:=a7 z ac;have C:∀ j u,z.1[j]?=some u->w5.cell? ((adr A (i*3)).add j)=some u:=λj u hu=>by
    have hj:j<3:=by have:=(List.getElem?_eq_some_iff.1 hu).1;omega
    rw [Xh];refine (hR.ext o).cell ?_;rw [Ku (p:=z) (λp hp=>(a7 p hp).1) (by rw [hz];exact List.getElem?_eq_getElem li) hj];exact hu
   obtain ⟨kv,zq,aa,a3,O⟩:=id a4;obtain ⟨zp,rfl⟩:=O.ptr;obtain ⟨zc,zk,zt⟩:=z;simp only at aa a3 O C a4 a5;subst aa;obtain ⟨ab,a2,rfl,av,au,aw,_⟩:=id a3;refine ρ ?_;refine ixq 3 i (hR.ext o) li ?_;refine ρ ?_;refine lds (cs:=[.slice ab zk.length a2,.bool (ds.getD v false),.pointer zp]) C ?_;refine ρ ?_;refine alc Jcd ?_;intro w6 bb af ao aq;refine ρ ?_;refine stb (cs':=[.slice ab zk.length a2,.bool (ds.getD v false),.pointer zp]) aq ?_ (Jyc rfl);intro w7 a9 b6 ae;have J:Ext w5 w7:=ae w5 af ao;refine ρ ?_;refine lds (cs:=[.bool (ds.getD v false),.pointer zp]) (λj u hu=>(a9.sub (i:=1) (j:=j) (by rw [Nat.add_comm];exact hu))) ?_;refine ρ ?_;refine cl (treeHeight_any (TrV.ext O (o.trans J))) ?_;rintro _ w8 ⟨rfl,ad⟩;refine ρ ?_;have am:(if (m:Int)<(zt.ht:Int) then (zt.ht:Int) else (m:Int))=((max m zt.ht:Nat):Int):=by split<;>omega
   rw [am];refine Jl (i+1) (max m zt.ht) sO ⟨om,(o.trans J).trans ad,?_⟩ om;rw [hmB_take _ an,hm,a5]
  .have b5:i=ps.length:=by have:=oF h;omega
   have e:(BB v).take i=BB v:=by rw [List.take_of_length_le];rw [a1,List.length_map];omega
   rw [e]at hm;have b4:=a6 v;have aj:Qc (v+1) (λv=>hmB (BB v))=Qc v (λv=>hmB (BB v))+hmB (BB v):=rfl;refine ρ ?_;exact Jl (v+1) (s+m) sO ⟨om,(G.trans ag).trans o,by rw [aj,hs,hm]⟩ om
 .have ah:v=f:=by have:=oF hc;omega
  subst ah;subst hs;refine ρ ?_;exact Jq ⟨rfl,(Z.trans U).trans G⟩
end Go.Proofs.YtebcagekopgdhaaGreatDoor
