/- PRINTED BY gen2.py (of this repo): the row of WindowPieces. -/
import Derived.Test.YtgllljocmpbooaaWn3
set_option linter.unusedVariables false
set_option linter.unusedSimpArgs false
set_option maxRecDepth 20000
namespace Go.Proofs.Ytgllljocmpbooaa
open Go Go.Sim Go.ChangeShapes Go.WideShapes Go.ChangeAt Go.RowKit
namespace DWindowPieces
theorem closed : joinedFacts Try.pinned.checked.prog 10 Try.f10 (Rows.OpenSpec.upto Rows.windowPiecesSpec).bare Rows.windowPiecesUptoRow = true := by kernel_rfl
end DWindowPieces
end Go.Proofs.Ytgllljocmpbooaa
