import Derived.Test.YtdkfkpbijdimkaaGreatDoorTh4
set_option linter.unusedVariables false
set_option linter.unusedSimpArgs false
set_option maxRecDepth 20000
namespace Go.Proofs.YtdkfkpbijdimkaaGreatDoor
open Go Go.Sim Go.ChangeShapes Go.WideShapes Go.ChangeAt Go.RowKit
set_option linter.unusedSectionVars false
variable [Fu]
namespace DTalkHears
theorem closed:joinedFacts Tryz.pinned.checked.prog 6 Tryz.f6 (Rows.OpenSpec.upto Rows.talkHearsSpec).bare (unleave Rows.talkHearsUptoRow)=true:=by kernel_rfl
end DTalkHears
end Go.Proofs.YtdkfkpbijdimkaaGreatDoor
