import Derived.Test.YtobbmodjdkcdcaaGreatDoorBr7
set_option linter.unusedVariables false
set_option linter.unusedSimpArgs false
set_option maxRecDepth 20000
namespace Go.Proofs.YtobbmodjdkcdcaaGreatDoor
open Go Go.Sim Go.ChangeShapes Go.WideShapes Go.ChangeAt Go.RowKit
set_option linter.unusedSectionVars false
variable [Fu]
namespace DBackReturns
theorem closed:joinedFacts Tryz.pinned.checked.prog 11 Tryz.f11 (Rows.OpenSpec.upto Rows.backReturnsSpec).bare Rows.backReturnsUptoRow=true:=by kernel_rfl
end DBackReturns
end Go.Proofs.YtobbmodjdkcdcaaGreatDoor
