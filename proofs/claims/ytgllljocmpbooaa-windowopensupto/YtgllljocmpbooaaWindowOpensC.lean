/- PRINTED BY gen2.py (of this repo): the row of WindowOpens. -/
import Derived.Test.YtgllljocmpbooaaWn3
set_option linter.unusedVariables false
set_option linter.unusedSimpArgs false
set_option maxRecDepth 20000
namespace Go.Proofs.Ytgllljocmpbooaa
open Go Go.Sim Go.ChangeShapes Go.WideShapes Go.ChangeAt Go.RowKit
namespace DWindowOpens
theorem closed : joinedFacts Try.pinned.checked.prog 6 Try.f6 (Rows.OpenSpec.upto Rows.windowOpensSpec).bare Rows.windowOpensUptoRow = true := by kernel_rfl
end DWindowOpens
end Go.Proofs.Ytgllljocmpbooaa
