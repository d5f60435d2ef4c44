/- Part 0. -/
import Derived.Test.YtebcagekopgdhaaGreatDoorB44
import Derived.Tactics
import Derived.Orders
import Derived.Below
import Derived.Laws.Entries
import Derived.Laws.Cells
import Derived.Laws.Slices
import Derived.Deep.Draws
import Derived.Deep.LoopGhost
import Derived.WalkKit
import Derived.Maps.AppendAt
import Derived.ArgAppend
import Derived.Laws.OwnMore
import Derived.Laws.BytesArg
import Derived.OwnWalk
import Derived.Deep.AppendLies
import Derived.Deep.Onto
import Derived.OrdersHeld
import Derived.Laws.Cover3
import Derived.Lib.Bytealg
set_option linter.unusedVariables false
set_option maxRecDepth 100000
set_option maxHeartbeats 40000000
namespace Go.Wk
open Go.RowKit
section
variable {n:Nat} {al al':AL} {a:Act}
end
section
variable {P:Program} {n:Nat} {al al':AL} {w:World} {Q Q':Exit->Act->World->Prop} {ops:Array Oper} {rest:List Oper}
end
section
variable {P:Program} {n:Nat} {al:AL} {w:World}
theorem qdone4{fn:Func}{R:Ending->World->Prop}{t u s r:Nat}{x y z q:Value}(hr:fn.results = #[.tmp t,.tmp u,.tmp s,.tmp r])(ht:lk al t=some x)(hu:lk al u=some y)(hs:lk al s=some z)(hq:lk al r=some q)(h:R (.returned (.tuple #[x,y,z,q])) w): QX n (bodyPost P fn R) .ret al w:=λa o=>
 bodyPost_ret (v:=.tuple #[x,y,z,q]) (by simp [results,hr];exact ⟨by simpa using o.has t x ht,by simpa using o.has u y hu,by simpa using o.has s z hs,by simpa using o.has r q hq⟩) o.defers h
end
section
variable {P:Program} (w:World)
end
section
variable {P:Program} {n:Nat} {al:AL} {w:World} {Q:Exit->Act->World->Prop} {ops:Array Oper} {rest:List Oper}
variable {d ty:Nat} {op:Op} {pos:String} {aft:Array Edge}
end
end Go.Wk
namespace Go.Wk
open Go.RowKit
section
variable {w w':World} {sz n:Nat} {A:Option Addr} {cs:List Value}
end
section
variable {w w':World} {g:Nat} {t:TypeId} {cs:List Value}
end
section
variable {P:Program} {n:Nat} {al:AL} {w:World}
theorem done4{fn:Func}{Φ:Value->World->Prop}{t u s r:Nat}{x y z q:Value}(hr:fn.results = #[.tmp t,.tmp u,.tmp s,.tmp r])(ht:lk al t=some x)(hu:lk al u=some y)(hs:lk al s=some z)(hq:lk al r=some q)(h:Φ (.tuple #[x,y,z,q]) w): QX n (Vh P fn Φ) .ret al w:=qdone4 hr ht hu hs hq ⟨_,rfl,h⟩
end
section
variable {P:Program} {n:Nat} {al:AL} {w:World} {Q:Exit->Act->World->Prop} {ops:Array Oper} {rest:List Oper}
variable {d ty:Nat} {op:Op} {pos:String} {aft:Array Edge} {tt:TT}
end
end Go.Wk
namespace Go.Wk
open Go.RowKit
section
variable {P:Program} {ops:Array Oper} {Q:Exit->Act->World->Prop} {T:Nat->Bool}
end
section
variable {P:Program} {n:Nat} {al al':AL} {w:World} {Q:Exit->Act->World->Prop} {ops:Array Oper} {rest:List (Nat×Oper)}
variable {d ty:Nat} {op:Op} {pos:String} {aft:Array Edge}
variable {tt:TT}
end
end Go.Wk
namespace Go.Wk
open Go.RowKit
section
variable {P:Program} {n:Nat} {al:AL} {w:World} {Q Q':Exit->Act->World->Prop} {ops:Array Oper} {rest:List Oper} {drest:List (Nat×Oper)}
variable {d ty:Nat} {op:Op} {pos:String} {aft:Array Edge} {tt:TT}
theorem fin4{fn:Func}{Φ:Value->World->Prop}{t u s r:Nat}{x y z q:Value}(h:Φ (.tuple #[x,y,z,q]) w)(hr:fn.results = #[.tmp t,.tmp u,.tmp s,.tmp r]:=by rfl)(ht:lk al t=some x:=by rfl)(hu:lk al u=some y:=by rfl)(hs:lk al s=some z:=by rfl)(hq:lk al r=some q:=by rfl): QX n (Vh P fn Φ) .ret al w:=done4 hr ht hu hs hq h
end
end Go.Wk
namespace Go.Wk
open Go.RowKit
section
variable {P:Program} {n:Nat} {al:AL} {w:World} {Q Q' Q2:Exit->Act->World->Prop} {ops:Array Oper}
end
section
variable {P:Program} {n:Nat} {al:AL} {w:World} {Q Q':Exit->Act->World->Prop} {ops:Array Oper} {rest:List Oper} {drest:List (Nat×Oper)}
variable {d ty:Nat} {op:Op} {pos:String} {aft:Array Edge} {tt:TT}
end
end Go.Wk
namespace Go.Wk
open Go.RowKit
section
variable {P:Program} {n:Nat} {al:AL} {w:World} {Q:Exit->Act->World->Prop} {ops:Array Oper} {rest:List Oper}
variable {d ty:Nat} {op:Op} {pos:String} {aft:Array Edge} {tt:TT}
end
end Go.Wk
namespace Go.Proofs.YtebcagekopgdhaaGreatDoor
open Go.RowKit Pl Go.Wk
attribute [local irreducible] WC WL QX WD WDB
open Go.RowKit Pl Go.Wk
open Go.RowKit Pl Go.Wk
theorem natAdd_any{v u:Value}{n m:Nat}{w:World}(hv:NatV w v n)(hu:NatV w u m)(hln:(Jq n).length<=1000)(hlm:(Jq m).length<=1000): Ret Tryz.prog 14 [v,u] w λr w'=>NatV w' r (n+m)/\Ext w w' :=
 (Jqj hv hu hln hlm).mono λ_ _ h=>⟨h.1,h.2.2⟩
open Go.RowKit Pl Go.Wk
end Go.Proofs.YtebcagekopgdhaaGreatDoor
namespace Go.Proofs.YtebcagekopgdhaaGreatDoor
namespace Pl
end Pl
open Go.RowKit Pl Go.Wk
attribute [local irreducible] WC WL QX WD WDB
end Go.Proofs.YtebcagekopgdhaaGreatDoor
namespace Go.Proofs.YtebcagekopgdhaaGreatDoor
namespace Pl
def cntP(ds:List Bool)(l:List Row)(q:Row): Nat:=(l.filter λx=>decide (Jw (x.take q.length) q ds<0)).length
theorem cntP_app(ds:List Bool)(l m:List Row)(q:Row): cntP ds (l++m) q=cntP ds l q+cntP ds m q:=by simp [cntP]
theorem cntP_all{ds:List Bool}{l:List Row}{q:Row}(h:∀ x∈l,Jw (x.take q.length) q ds<0): cntP ds l q=l.length:=by
 unfold cntP;rw [List.filter_eq_self.2 λx o=>by simpa using h x o]
theorem cntP_none{ds:List Bool}{l:List Row}{q:Row}(h:∀ x∈l,¬ Jw (x.take q.length) q ds<0): cntP ds l q=0:=by
 unfold cntP;rw [List.filter_eq_nil_iff.2 λx o=>by simpa using h x o];rfl
theorem cmpR_col'{ds:List Bool}{m:Nat}{x q:Row}(h:x.take m=q.take m)(h1:q.length<=x.length)(h2:m<q.length)(h3:cmpV (x.getD m V0) (q.getD m V0)≠0): Jw (x.take q.length) q ds=neg (ds.getD m false) (cmpV (x.getD m V0) (q.getD m V0)):=by
 have e:(x.take q.length).getD m V0=x.getD m V0:=by simp [List.getD,h2]
 rw [Qjj (m:=m) (by rw [List.take_take,Nat.min_eq_left om];exact h) (by rw [List.length_take];omega) h2 (by rw [e];exact h3),e]
theorem AX.Srt.cnt_step{X:IX}{ds:List Bool}(h:X.Srt ds)(hok:X.Ok){n:Nat}{y q:Row}(e:y.length+(n+1)=X.F)(hq:q.length<=X.F)(hm:y.length<q.length)(hy:q.take y.length=y):
  cntP ds (X.ext (n+1) y) q=bef (ds.getD y.length false) (q.getD y.length V0) (X.E y.length (X.key y.length y))*X.others y.length y +
   (if q.getD y.length V0∈(X.E y.length (X.key y.length y)).map (·.1) then cntP ds (X.ext n (y++[q.getD y.length V0])) q else 0):=by
 have hF:y.length<X.F:=om
 have hb:∀ p∈X.E y.length (X.key y.length y),(X.ext n (y++[p.1])).length=p.2*X.others y.length y:=λp Z=>by
  rw [hok.ext_len n (y++[p.1]) (by simp;omega),List.length_append,List.length_singleton,hok.pend_next hF Z]
 have hs:=h.srt y.length hF (X.key y.length y);rw [AX.ext];generalize X.others y.length y=O at *
 generalize X.E y.length (X.key y.length y)=l at *
 have one:∀ p:V×Nat,(X.ext n (y++[p.1])).length=p.2*O->p.1≠q.getD y.length V0->cntP ds (X.ext n (y++[p.1])) q=(if neg (ds.getD y.length false) (cmpV p.1 (q.getD y.length V0))<0 then p.2 else 0)*O:=by
  intro p hl a1;have hc:∀ x∈X.ext n (y++[p.1]),Jw (x.take q.length) q ds=neg (ds.getD y.length false) (cmpV p.1 (q.getD y.length V0)):=λx o=>by
   obtain ⟨h1,h2,h3⟩:=AX.ext_at_col o;rw [cmpR_col' (m:=y.length) (by rw [h2,hy]) om hm (by rw [h3];intro e;exact a1 (cmp_V.zero _ _ e)),h3]
  by_cases e:neg (ds.getD y.length false) (cmpV p.1 (q.getD y.length V0))<0
  .rw [if_pos e,cntP_all (λx o=>by rw [hc x o];exact e),hl]
  .rw [if_neg e,cntP_none (λx o=>by rw [hc x o];exact e),Nat.zero_mul]
 induction l with
 | nil=>simp [bef,cntP]
 | cons p l ih=>
  obtain ⟨J,G⟩:=List.pairwise_cons.1 hs;have C:=ih G (λr U=>hb r (List.mem_cons_of_mem _ U));have Z:=hb p (mC ..);rw [List.flatMap_cons,cntP_app,C,bef,Nat.add_mul];by_cases e:p.1=q.getD y.length V0
  .have h0:neg (ds.getD y.length false) (cmpV p.1 (q.getD y.length V0))=0:=by rw [e,Zv];unfold neg;split<;>rfl
   have hn:¬ q.getD y.length V0∈l.map (·.1):=by
    intro u;obtain ⟨r,U,er⟩:=List.mem_map.1 u;have:=J r U;rw [er,<-e,Zv]at this;unfold neg at this;split at this<;>omega
   rw [if_neg hn,if_pos (show q.getD y.length V0∈(p::l).map (·.1) from by rw [<-e];exact List.mem_map_of_mem (mC ..)),if_neg (show ¬ neg (ds.getD y.length false) (cmpV p.1 (q.getD y.length V0))<0 by rw [h0];omega),e]
   omega
  .rw [one p Z e];have:(q.getD y.length V0∈(p::l).map (·.1))↔q.getD y.length V0∈l.map (·.1):=by
    rw [List.map_cons,List.mem_cons];exact ⟨λh'=>h'.resolve_left λe'=>e e'.symm,.inr⟩
   by_cases e2:q.getD y.length V0∈l.map (·.1)
   .rw [if_pos e2,if_pos (this.2 e2)];omega
   .rw [if_neg e2,if_neg (λh'=>e2 (this.1 h'))];omega
theorem AX.cnt_end{X:IX}{ds:List Bool}{n:Nat}{q:Row}: cntP ds (X.ext n q) q=0:=cntP_none λx o=>by
 rw [((AX.ext_mem n q x).1 o).2.1,Vo];omega
end Pl
end Go.Proofs.YtebcagekopgdhaaGreatDoor
namespace Go.Wk
open Go.RowKit
open Go.Maps (Keyed)
section
variable {P:Program} {n:Nat} {al:AL} {w:World} {Q:Exit->Act->World->Prop} {ops:Array Oper} {rest:List Oper} {d ty:Nat} {op:Op} {pos:String} {aft:Array Edge} {tt:TT}
end
end Go.Wk
namespace Go.Proofs.YtebcagekopgdhaaGreatDoor
open Go.RowKit Pl Go.Wk
attribute [local irreducible] WC WL QX WD WDB WP WN WG
theorem zTreeV: Qt Tryz.prog 138=some (.agg #[.bool false,.pointer none]):=Yj
section
variable {K:SeK} {w w':World} {y:Row} {S:Nat->Bool} {st M m B:Nat} {yv:Value} {fm:Lit->Option Value}
end
end Go.Proofs.YtebcagekopgdhaaGreatDoor
namespace Go.Proofs.YtebcagekopgdhaaGreatDoor
open Pl Go.Wk
section
variable {c:Cse} {ats:List Atm}
theorem CseOk.arow(h:CseOk c ats){y:Row}(hy:y∈c.ans): y.length=c.F:=by
 obtain ⟨z,o,e⟩:=(h.ans.2 y).1 hy;rw [<-e,List.length_take,o.1];have:=h.fF.2;omega
end
end Go.Proofs.YtebcagekopgdhaaGreatDoor
