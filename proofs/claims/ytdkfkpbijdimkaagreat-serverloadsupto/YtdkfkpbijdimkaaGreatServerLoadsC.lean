import Derived.Test.YtdkfkpbijdimkaaGreatSl1
set_option linter.unusedVariables false
set_option linter.unusedSimpArgs false
set_option maxRecDepth 20000
namespace Go.Proofs.YtdkfkpbijdimkaaGreat
open Go Go.Sim Go.ChangeShapes Go.WideShapes Go.ChangeAt Go.RowKit
set_option linter.unusedSectionVars false
variable [Fu]
namespace DServerLoads
theorem closed:joinedFacts Tryz.pinned.checked.prog 3 Tryz.f3 (Rows.OpenSpec.upto Rows.serverLoadsSpec).bare (unleave Rows.serverLoadsUptoRow)=true:=by kernel_rfl
end DServerLoads
end Go.Proofs.YtdkfkpbijdimkaaGreat
