/- PRINTED BY gen2.py (of this repo): the row of BackChecks. -/
import Derived.Test.YtobbmodjdkcdcaaGreatDoorBc5
set_option linter.unusedVariables false
set_option linter.unusedSimpArgs false
set_option maxRecDepth 20000
namespace Go.Proofs.YtobbmodjdkcdcaaGreatDoor
open Go Go.Sim Go.ChangeShapes Go.WideShapes Go.ChangeAt Go.RowKit
namespace DBackChecks
theorem closed : joinedFacts Tryz.pinned.checked.prog 10 Tryz.f10 (Rows.OpenSpec.upto Rows.backChecksSpec).bare Rows.backChecksUptoRow = true := by kernel_rfl
end DBackChecks
end Go.Proofs.YtobbmodjdkcdcaaGreatDoor
