/- PRINTED BY gen2.py (of this repo): the row of WindowHolds. -/
import Derived.Test.YtgllljocmpbooaaWn3
set_option linter.unusedVariables false
set_option linter.unusedSimpArgs false
set_option maxRecDepth 20000
namespace Go.Proofs.Ytgllljocmpbooaa
open Go Go.Sim Go.ChangeShapes Go.WideShapes Go.ChangeAt Go.RowKit
namespace DWindowHolds
theorem closed : joinedFacts Try.pinned.checked.prog 9 Try.f9 (Rows.OpenSpec.upto Rows.windowHoldsSpec).bare Rows.windowHoldsUptoRow = true := by kernel_rfl
end DWindowHolds
end Go.Proofs.Ytgllljocmpbooaa
