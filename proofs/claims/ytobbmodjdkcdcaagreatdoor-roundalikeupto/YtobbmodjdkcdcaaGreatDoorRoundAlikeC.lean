import Derived.Test.YtobbmodjdkcdcaaGreatDoorRa5
set_option linter.unusedVariables false
set_option linter.unusedSimpArgs false
set_option maxRecDepth 20000
namespace Go.Proofs.YtobbmodjdkcdcaaGreatDoor
open Go Go.Sim Go.ChangeShapes Go.WideShapes Go.ChangeAt Go.RowKit
set_option linter.unusedSectionVars false
variable [Fu]
namespace DRoundAlike
theorem closed : joinedFacts Tryz.pinned.checked.prog 4 Tryz.f4 (Rows.OpenSpec.upto Rows.roundAlikeSpec).bare Rows.roundAlikeUptoRow = true := by kernel_rfl
end DRoundAlike
end Go.Proofs.YtobbmodjdkcdcaaGreatDoor
