/- Part 1. -/
import Derived.Test.YtebcagekopgdhaaGreatDoorKa20
set_option linter.unusedVariables false
set_option maxRecDepth 100000
set_option maxHeartbeats 40000000
namespace Go.Proofs.YtebcagekopgdhaaGreatDoor
open Go.RowKit Pl Go.Wk
attribute [local irreducible] WC WL QX WD WDB WP WN WG WH WM
def tt4: TT:=(106,{ desc:=.array 3 37,size:=3,esz:=1 })::tt
theorem tt4_ok: TOk Tryz.prog tt4:=⟨⟨kr,kr,kr⟩,Jqk⟩
instance (priority:=20000):Tab Tryz.prog tt4:=⟨tt4_ok,mixed⟩
end Go.Proofs.YtebcagekopgdhaaGreatDoor
namespace Go.Proofs.YtebcagekopgdhaaGreatDoor
open Go.RowKit Pl Go.Wk
theorem rankOf_walk{B0:Nat}{w:World}{v u:Value}(hTB:TB B0 w)(h:CaseE w v)(hu:∃ r,RowE w u r): Ret Tryz.prog 7 [v,u] w λu w'=>u=.bool true/\Ext w w':=by
 obtain ⟨cs,c,rfl,G,C⟩:=h;obtain ⟨p,o,_⟩:=hu;obtain ⟨J,pc,rfl,_⟩:=id o;exact rankOf_any Xqb hTB G C o
end Go.Proofs.YtebcagekopgdhaaGreatDoor
