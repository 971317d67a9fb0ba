/- PRINTED BY gen2.py (of this repo): the row of WindowAdds. -/
import Derived.Test.YtgllljocmpbooaaWn3
set_option linter.unusedVariables false
set_option linter.unusedSimpArgs false
set_option maxRecDepth 20000
namespace Go.Proofs.Ytgllljocmpbooaa
open Go Go.Sim Go.ChangeShapes Go.WideShapes Go.ChangeAt Go.RowKit
namespace DWindowAdds
theorem closed : joinedFacts Try.pinned.checked.prog 7 Try.f7 (Rows.OpenSpec.upto Rows.windowAddsSpec).bare Rows.windowAddsUptoRow = true := by kernel_rfl
end DWindowAdds
end Go.Proofs.Ytgllljocmpbooaa
