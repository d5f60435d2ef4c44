/- Part 0 of the proof: Nat4. -/
import Derived.Test.YtefpailelagbkaaGreatDoorB00
import Derived.Test.YtefpailelagbkaaGreatDoorB01
import Derived.Test.YtefpailelagbkaaGreatDoorB02
import Derived.Test.YtefpailelagbkaaGreatDoorB03
import Derived.Test.YtefpailelagbkaaGreatDoorB04
import Derived.Test.YtefpailelagbkaaGreatDoorB05
import Derived.Test.YtefpailelagbkaaGreatDoorB06
import Derived.Test.YtefpailelagbkaaGreatDoorB07
import Derived.Test.YtefpailelagbkaaGreatDoorB08
import Derived.Test.YtefpailelagbkaaGreatDoorB09
import Derived.Test.YtefpailelagbkaaGreatDoorB10
import Derived.Test.YtefpailelagbkaaGreatDoorB11
import Derived.Test.YtefpailelagbkaaGreatDoorB12
import Derived.Test.YtefpailelagbkaaGreatDoorB13
import Derived.Test.YtefpailelagbkaaGreatDoorB14
import Derived.Test.YtefpailelagbkaaGreatDoorB15
import Derived.Test.YtefpailelagbkaaGreatDoorB16
import Derived.Test.YtefpailelagbkaaGreatDoorB17
import Derived.Test.YtefpailelagbkaaGreatDoorB18
import Derived.Test.YtefpailelagbkaaGreatDoorB19
import Derived.Test.YtefpailelagbkaaGreatDoorB20
import Derived.Test.YtefpailelagbkaaGreatDoorB21
import Derived.Test.YtefpailelagbkaaGreatDoorB22
import Derived.Test.YtefpailelagbkaaGreatDoorB23
import Derived.Test.YtefpailelagbkaaGreatDoorB24
import Derived.Test.YtefpailelagbkaaGreatDoorB25
import Derived.Test.YtefpailelagbkaaGreatDoorB26
import Derived.Test.YtefpailelagbkaaGreatDoorB27
import Derived.Test.YtefpailelagbkaaGreatDoorB28
import Derived.Test.YtefpailelagbkaaGreatDoorB29
import Derived.Test.YtefpailelagbkaaGreatDoorB30
import Derived.Test.YtefpailelagbkaaGreatDoorB31
import Derived.Test.YtefpailelagbkaaGreatDoorB32
import Derived.Test.YtefpailelagbkaaGreatDoorB33
import Derived.Test.YtefpailelagbkaaGreatDoorB34
import Derived.Test.YtefpailelagbkaaGreatDoorB35
import Derived.Test.YtefpailelagbkaaGreatDoorB36
import Derived.Test.YtefpailelagbkaaGreatDoorB37
import Derived.Test.YtefpailelagbkaaGreatDoorB38
import Derived.Test.YtefpailelagbkaaGreatDoorB39
import Derived.Test.YtefpailelagbkaaGreatDoorB40
import Derived.Test.YtefpailelagbkaaGreatDoorB41
import Derived.Test.YtefpailelagbkaaGreatDoorB42
import Derived.Test.YtefpailelagbkaaGreatDoorB43
import Derived.Test.YtefpailelagbkaaGreatDoorB44
import Derived.Laws.Cover3
import Derived.Lib.Bytealg
set_option linter.unusedVariables false
set_option maxRecDepth 100000
set_option maxHeartbeats 40000000
namespace Go.Wk
open Go.RowKit
section
variable {P:Program} {n:Nat} {al:AL} {w:World} {Q:Exit->Act->World->Prop} {ops:Array Oper} {rest:List Oper}
variable {d ty:Nat} {op:Op} {pos:String} {aft:Array Edge} {tt:TT}
end
end Go.Wk
namespace Go.Proofs.YtefpailelagbkaaGreatDoor
open Go.RowKit Pl Go.Wk
attribute [local irreducible] WC WL QX WD WDB
open Go.RowKit Pl Go.Wk
open Go.RowKit Pl Go.Wk
theorem NatV.grown{w w':World}{v:Value}{n:Nat}{g:Option Nat}(h:NatV w v n)(hg:w.grownBy w' g)(hf:∀ ad m c,v=.slice (some ad) m c->some ad.block≠g): NatV w' v n:=by
 obtain ⟨A,c,rfl,o,j,i⟩:=h;exact ⟨A,c,rfl,o,j,Rd.grown i hg (λad e=>Ne.symm (hf ad _ _ (by rw [e])))⟩
open Go.RowKit Pl Go.Wk
end Go.Proofs.YtefpailelagbkaaGreatDoor
namespace Go.Proofs.YtefpailelagbkaaGreatDoor
namespace Pl
end Pl
open Go.RowKit Pl Go.Wk
attribute [local irreducible] WC WL QX WD WDB
end Go.Proofs.YtefpailelagbkaaGreatDoor
