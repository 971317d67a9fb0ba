import Derived.Test.YtdkfkpbijdimkaaGreatDoorCs4
set_option linter.unusedVariables false
set_option linter.unusedSimpArgs false
set_option maxRecDepth 20000
namespace Go.Proofs.YtdkfkpbijdimkaaGreatDoor
open Go Go.Sim Go.ChangeShapes Go.WideShapes Go.ChangeAt Go.RowKit
set_option linter.unusedSectionVars false
variable [Fu]
namespace DCascadeSubmits
theorem closed:joinedFacts Tryz.pinned.checked.prog 3 Tryz.f3 (Rows.OpenSpec.upto Rows.cascadeSubmitsSpec).bare (unleave Rows.cascadeSubmitsUptoRow)=true:=by kernel_rfl
end DCascadeSubmits
end Go.Proofs.YtdkfkpbijdimkaaGreatDoor
