/- PRINTED BY gen2.py (of this repo): the row of ServerNil. -/
import Derived.Test.YtghaoenkfacmcaaGreatGn0
set_option linter.unusedVariables false
set_option linter.unusedSimpArgs false
set_option maxRecDepth 20000
namespace Go.Proofs.YtghaoenkfacmcaaGreat
open Go Go.Sim Go.ChangeShapes Go.WideShapes Go.ChangeAt Go.RowKit
namespace DServerNil
theorem closed : joinedFacts Tryz.pinned.checked.prog 3 Tryz.f3 (Rows.OpenSpec.upto Rows.serverNilSpec).bare (unleave Rows.serverNilUptoRow) = true := by kernel_rfl
end DServerNil
end Go.Proofs.YtghaoenkfacmcaaGreat
