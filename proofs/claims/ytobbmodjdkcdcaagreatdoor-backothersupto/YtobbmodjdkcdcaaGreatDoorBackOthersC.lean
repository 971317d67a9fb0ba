/- PRINTED BY gen2.py (of this repo): the row of BackOthers. -/
import Derived.Test.YtobbmodjdkcdcaaGreatDoorBo5
set_option linter.unusedVariables false
set_option linter.unusedSimpArgs false
set_option maxRecDepth 20000
namespace Go.Proofs.YtobbmodjdkcdcaaGreatDoor
open Go Go.Sim Go.ChangeShapes Go.WideShapes Go.ChangeAt Go.RowKit
namespace DBackOthers
theorem closed : joinedFacts Tryz.pinned.checked.prog 14 Tryz.f14 (Rows.OpenSpec.upto Rows.backOthersSpec).bare Rows.backOthersUptoRow = true := by kernel_rfl
end DBackOthers
end Go.Proofs.YtobbmodjdkcdcaaGreatDoor
