import Derived.Test.YtobbmodjdkcdcaaGreatDoorBm6
set_option linter.unusedVariables false
set_option linter.unusedSimpArgs false
set_option maxRecDepth 20000
namespace Go.Proofs.YtobbmodjdkcdcaaGreatDoor
open Go Go.Sim Go.ChangeShapes Go.WideShapes Go.ChangeAt Go.RowKit
set_option linter.unusedSectionVars false
variable [Fu]
namespace DBackMemory
theorem closed:joinedFacts Tryz.pinned.checked.prog 12 Tryz.f12 (Rows.OpenSpec.upto Rows.backMemorySpec).bare Rows.backMemoryUptoRow=true:=by kernel_rfl
end DBackMemory
end Go.Proofs.YtobbmodjdkcdcaaGreatDoor
