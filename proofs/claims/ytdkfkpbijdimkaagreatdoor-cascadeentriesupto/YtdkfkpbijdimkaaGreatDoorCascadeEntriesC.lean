import Derived.Test.YtdkfkpbijdimkaaGreatDoorCe3
set_option linter.unusedVariables false
set_option linter.unusedSimpArgs false
set_option maxRecDepth 20000
namespace Go.Proofs.YtdkfkpbijdimkaaGreatDoor
open Go Go.Sim Go.ChangeShapes Go.WideShapes Go.ChangeAt Go.RowKit
set_option linter.unusedSectionVars false
variable [Fu]
namespace DCascadeEntries
theorem closed:joinedFacts Tryz.pinned.checked.prog 4 Tryz.f4 (Rows.OpenSpec.upto Rows.cascadeEntriesSpec).bare (unleave Rows.cascadeEntriesUptoRow)=true:=by kernel_rfl
end DCascadeEntries
end Go.Proofs.YtdkfkpbijdimkaaGreatDoor
