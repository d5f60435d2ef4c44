/- Part 0. -/
import Derived.Test.YtebcagekopgdhaaGreatDoorB44
set_option linter.unusedVariables false
set_option maxRecDepth 100000
set_option maxHeartbeats 40000000
namespace Go.Wk
open Go.RowKit
section
variable {N:Nat->Prop} {P:Program} {ops:Array Oper} {Q:Exit->Act->World->Prop} {T:Nat->Bool}
end
section
variable {N:Nat->Prop} {P:Program} {n:Nat} {al al':AL} {w:World} {Q:Exit->Act->World->Prop} {ops:Array Oper} {rest:List (Nat×Oper)} {drest:List (Nat×Oper)}
variable {d ty:Nat} {op:Op} {pos:String} {aft:Array Edge} {tt:TT}
theorem WN.sub{l:List (Nat×Oper)}(hs:Sub al' al)(h:WN N P n ops Q l al' w): WN N P n ops Q l al w:=λa o=>h a (o.sub hs)
theorem npart_{l:List (Nat×Oper)}{b:Bool}(s:Nat)(hs:lk al s=some (.bool b))(ht:b=true->WN N P n ops Q l ((s,.bool true)::al) w)(hf:b=false->WN N P n ops Q l ((s,.bool false)::al) w): WN N P n ops Q l al w:=by
 cases b
 .exact (hf rfl).sub (Sub.cons hs Sub.refl)
 .exact (ht rfl).sub (Sub.cons hs Sub.refl)
theorem nkf{l:List (Nat×Oper)}{b:Bool}(s:Nat)(hb:b=false)(k:WN N P n ops Q l ((s,.bool false)::al) w)(hs:lk al s=some (.bool b):=by rfl): WN N P n ops Q l al w:=by subst hb;exact k.sub (Sub.cons hs Sub.refl)
theorem nki{l:List (Nat×Oper)}{b:Bool}(s:Nat)(ht:b=true->WN N P n ops Q l ((s,.bool true)::al) w)(hf:b=false->WN N P n ops Q l ((s,.bool false)::al) w)(hs:lk al s=some (.bool b):=by rfl): WN N P n ops Q l al w:=npart_ s hs ht hf
end
end Go.Wk
namespace Go.Wk
end Go.Wk
