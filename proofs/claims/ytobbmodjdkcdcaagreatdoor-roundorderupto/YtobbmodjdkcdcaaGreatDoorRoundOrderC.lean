import Derived.Test.YtobbmodjdkcdcaaGreatDoorRo5
set_option linter.unusedVariables false
set_option linter.unusedSimpArgs false
set_option maxRecDepth 20000
namespace Go.Proofs.YtobbmodjdkcdcaaGreatDoor
open Go Go.Sim Go.ChangeShapes Go.WideShapes Go.ChangeAt Go.RowKit
set_option linter.unusedSectionVars false
variable [Fu]
namespace DRoundOrder
theorem closed : joinedFacts Tryz.pinned.checked.prog 5 Tryz.f5 (Rows.OpenSpec.upto Rows.roundOrderSpec).bare Rows.roundOrderUptoRow = true := by kernel_rfl
end DRoundOrder
end Go.Proofs.YtobbmodjdkcdcaaGreatDoor
