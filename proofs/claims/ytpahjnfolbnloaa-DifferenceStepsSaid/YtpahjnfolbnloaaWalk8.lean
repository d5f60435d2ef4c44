/- The walk of DifferenceSteps, from its arguments as they come in. -/
import Derived.Test.YtpahjnfolbnloaaOpenC
import Derived.Test.YtpahjnfolbnloaaLaw8
set_option linter.unusedVariables false
namespace Go.Proofs.Ytpahjnfolbnloaa
open Go.RowKit Pl Go.Wk
theorem differenceSteps_walk {w : World} {v : Value} {t : Int} (hS : SetsX w v) (ht : 0 ≤ t ∧ t ≤ 255) : Ret Try.prog 10 [v, .int .u8 t] w fun x w' => x = .bool true ∧ Ext w w' := by
  obtain ⟨a, b, hS⟩ := hS
  exact differenceSteps_any hS ht
end Go.Proofs.Ytpahjnfolbnloaa
