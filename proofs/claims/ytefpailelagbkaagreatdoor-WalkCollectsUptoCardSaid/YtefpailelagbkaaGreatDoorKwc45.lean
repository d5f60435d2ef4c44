/- Part 0 of the proof: Of. -/
import Derived.Test.YtefpailelagbkaaGreatDoorC00
import Derived.Test.YtefpailelagbkaaGreatDoorC01
import Derived.Test.YtefpailelagbkaaGreatDoorC02
import Derived.Test.YtefpailelagbkaaGreatDoorC03
import Derived.Test.YtefpailelagbkaaGreatDoorC04
import Derived.Test.YtefpailelagbkaaGreatDoorC05
import Derived.Test.YtefpailelagbkaaGreatDoorC06
import Derived.Test.YtefpailelagbkaaGreatDoorC07
import Derived.Test.YtefpailelagbkaaGreatDoorC08
import Derived.Test.YtefpailelagbkaaGreatDoorC09
import Derived.Test.YtefpailelagbkaaGreatDoorC10
import Derived.Test.YtefpailelagbkaaGreatDoorC11
import Derived.Test.YtefpailelagbkaaGreatDoorC12
import Derived.Test.YtefpailelagbkaaGreatDoorC13
import Derived.Test.YtefpailelagbkaaGreatDoorC14
import Derived.Test.YtefpailelagbkaaGreatDoorC15
import Derived.Test.YtefpailelagbkaaGreatDoorC16
import Derived.Test.YtefpailelagbkaaGreatDoorC17
import Derived.Test.YtefpailelagbkaaGreatDoorC18
import Derived.Test.YtefpailelagbkaaGreatDoorC19
import Derived.Test.YtefpailelagbkaaGreatDoorC20
import Derived.Test.YtefpailelagbkaaGreatDoorC21
import Derived.Test.YtefpailelagbkaaGreatDoorC22
import Derived.Test.YtefpailelagbkaaGreatDoorC23
import Derived.Test.YtefpailelagbkaaGreatDoorC24
import Derived.Test.YtefpailelagbkaaGreatDoorC25
import Derived.Test.YtefpailelagbkaaGreatDoorC26
import Derived.Test.YtefpailelagbkaaGreatDoorC27
import Derived.Test.YtefpailelagbkaaGreatDoorC28
import Derived.Test.YtefpailelagbkaaGreatDoorC29
import Derived.Test.YtefpailelagbkaaGreatDoorC30
import Derived.Test.YtefpailelagbkaaGreatDoorC31
import Derived.Test.YtefpailelagbkaaGreatDoorC32
import Derived.Test.YtefpailelagbkaaGreatDoorC33
import Derived.Test.YtefpailelagbkaaGreatDoorC34
import Derived.Test.YtefpailelagbkaaGreatDoorC35
import Derived.Test.YtefpailelagbkaaGreatDoorC36
import Derived.Test.YtefpailelagbkaaGreatDoorC37
import Derived.Test.YtefpailelagbkaaGreatDoorC38
import Derived.Test.YtefpailelagbkaaGreatDoorC39
import Derived.Test.YtefpailelagbkaaGreatDoorC40
import Derived.Test.YtefpailelagbkaaGreatDoorC41
import Derived.Test.YtefpailelagbkaaGreatDoorC42
import Derived.Test.YtefpailelagbkaaGreatDoorC43
import Derived.Test.YtefpailelagbkaaGreatDoorC44
set_option linter.unusedVariables false
set_option maxRecDepth 100000
set_option maxHeartbeats 40000000
namespace Go.Proofs.YtefpailelagbkaaGreatDoor
open Go.RowKit Pl Go.Wk
attribute [local irreducible] WC WL QX WD WDB WP
theorem RowsV.nil(w:World)(A:Option Addr)(c:Nat): RowsV w (.slice A 0 c) []:=⟨[],A,c,rfl,rfl,by simp,by simp,Rd.nil,λp i=>by cases i⟩
end Go.Proofs.YtefpailelagbkaaGreatDoor
namespace Go.Proofs.YtefpailelagbkaaGreatDoor
open Pl
open Go.RowKit Pl Go.Wk
attribute [local irreducible] WC WL QX WD WDB WP
end Go.Proofs.YtefpailelagbkaaGreatDoor
