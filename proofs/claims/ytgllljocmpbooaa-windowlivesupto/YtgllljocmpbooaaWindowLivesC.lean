/- PRINTED BY gen2.py (of this repo): the row of WindowLives. -/
import Derived.Test.YtgllljocmpbooaaWn3
set_option linter.unusedVariables false
set_option linter.unusedSimpArgs false
set_option maxRecDepth 20000
namespace Go.Proofs.Ytgllljocmpbooaa
open Go Go.Sim Go.ChangeShapes Go.WideShapes Go.ChangeAt Go.RowKit
namespace DWindowLives
theorem closed : joinedFacts Try.pinned.checked.prog 8 Try.f8 (Rows.OpenSpec.upto Rows.windowLivesSpec).bare Rows.windowLivesUptoRow = true := by kernel_rfl
end DWindowLives
end Go.Proofs.Ytgllljocmpbooaa
