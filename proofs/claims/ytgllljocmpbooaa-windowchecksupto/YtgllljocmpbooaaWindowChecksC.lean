/- PRINTED BY gen2.py (of this repo): the row of WindowChecks. -/
import Derived.Test.YtgllljocmpbooaaWn3
set_option linter.unusedVariables false
set_option linter.unusedSimpArgs false
set_option maxRecDepth 20000
namespace Go.Proofs.Ytgllljocmpbooaa
open Go Go.Sim Go.ChangeShapes Go.WideShapes Go.ChangeAt Go.RowKit
namespace DWindowChecks
theorem closed : joinedFacts Try.pinned.checked.prog 5 Try.f5 (Rows.OpenSpec.upto Rows.windowChecksSpec).bare Rows.windowChecksUptoRow = true := by kernel_rfl
end DWindowChecks
end Go.Proofs.Ytgllljocmpbooaa
