/- PRINTED BY gen2.py (of this repo): the row of RoundSifts. -/
import Derived.Test.YtgllljocmpbooaaDoorRs4
set_option linter.unusedVariables false
set_option linter.unusedSimpArgs false
set_option maxRecDepth 20000
namespace Go.Proofs.YtgllljocmpbooaaDoor
open Go Go.Sim Go.ChangeShapes Go.WideShapes Go.ChangeAt Go.RowKit
namespace DRoundSifts
theorem closed : joinedFacts Tryd.pinned.checked.prog 3 Tryd.f3 (Rows.OpenSpec.upto Rows.roundSiftsSpec).bare Rows.roundSiftsUptoRow = true := by kernel_rfl
end DRoundSifts
end Go.Proofs.YtgllljocmpbooaaDoor
