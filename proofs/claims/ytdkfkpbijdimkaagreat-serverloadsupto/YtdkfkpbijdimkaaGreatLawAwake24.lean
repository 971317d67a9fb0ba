import Derived.Test.YtdkfkpbijdimkaaGreatSl1
set_option maxRecDepth 1000000
namespace Go.Proofs.YtdkfkpbijdimkaaGreat
open Go Go.Sim
set_option linter.unusedSectionVars false
variable [Fu]
theorem gg:aV=some true:=by kernel_rfl
end Go.Proofs.YtdkfkpbijdimkaaGreat
