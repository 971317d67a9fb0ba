/- PRINTED BY gen2.py (of this repo): the row of WindowNames. -/
import Derived.Test.YtgllljocmpbooaaWn3
set_option linter.unusedVariables false
set_option linter.unusedSimpArgs false
set_option maxRecDepth 20000
namespace Go.Proofs.Ytgllljocmpbooaa
open Go Go.Sim Go.ChangeShapes Go.WideShapes Go.ChangeAt Go.RowKit
namespace DWindowNames
theorem closed : joinedFacts Try.pinned.checked.prog 4 Try.f4 (Rows.OpenSpec.upto Rows.windowNamesSpec).bare Rows.windowNamesUptoRow = true := by kernel_rfl
end DWindowNames
end Go.Proofs.Ytgllljocmpbooaa
