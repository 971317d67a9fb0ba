import Derived.Test.YtdkfkpbijdimkaaGreatDoorTa4
set_option linter.unusedVariables false
set_option linter.unusedSimpArgs false
set_option maxRecDepth 20000
namespace Go.Proofs.YtdkfkpbijdimkaaGreatDoor
open Go Go.Sim Go.ChangeShapes Go.WideShapes Go.ChangeAt Go.RowKit
set_option linter.unusedSectionVars false
variable [Fu]
namespace DTalkAsks
theorem closed:joinedFacts Tryz.pinned.checked.prog 5 Tryz.f5 (Rows.OpenSpec.upto Rows.talkAsksSpec).bare (unleave Rows.talkAsksUptoRow)=true:=by kernel_rfl
end DTalkAsks
end Go.Proofs.YtdkfkpbijdimkaaGreatDoor
