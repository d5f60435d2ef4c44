/- The walk of DifferenceOrders, from its arguments as they come in. -/
import Derived.Test.YtpahjnfolbnloaaOpenC
import Derived.Test.YtpahjnfolbnloaaLaw7
set_option linter.unusedVariables false
namespace Go.Proofs.Ytpahjnfolbnloaa
open Go.RowKit Pl Go.Wk
theorem differenceOrders_walk {w : World} {v : Value} {t : Int} (hS : SetsX w v) (ht : 0 ≤ t ∧ t ≤ 255) : Ret Try.prog 8 [v, .int .u8 t] w fun x w' => x = .bool true ∧ Ext w w' := by
  obtain ⟨a, b, hS⟩ := hS
  exact differenceOrders_any hS ht
end Go.Proofs.Ytpahjnfolbnloaa
