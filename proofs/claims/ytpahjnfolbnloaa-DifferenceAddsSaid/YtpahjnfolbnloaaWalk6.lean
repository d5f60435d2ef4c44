/- The walk of DifferenceAdds, from its arguments as they come in. -/
import Derived.Test.YtpahjnfolbnloaaOpenC
import Derived.Test.YtpahjnfolbnloaaLaw6
set_option linter.unusedVariables false
namespace Go.Proofs.Ytpahjnfolbnloaa
open Go.RowKit Pl Go.Wk
theorem differenceAdds_walk {w : World} {v vd vl : Value} {ds : List Bool} {l : List (UInt8 × UInt8)} (hS : SetsX w v) (hdG : BlsG w vd ds) (hl : PairsG w vl l) : Ret Try.prog 9 [v, vd, vl] w fun x w' => x = .bool true ∧ Ext w w' := by
  obtain ⟨a, b, hS⟩ := hS
  exact differenceAdds_any hS hdG hl
end Go.Proofs.Ytpahjnfolbnloaa
