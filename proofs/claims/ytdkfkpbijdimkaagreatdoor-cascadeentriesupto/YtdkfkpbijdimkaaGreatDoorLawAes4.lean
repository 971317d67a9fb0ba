import Derived.Test.YtdkfkpbijdimkaaGreatDoorLawAes3
set_option linter.unusedVariables false
set_option linter.unusedSimpArgs false
set_option maxRecDepth 20000
set_option maxHeartbeats 2000000
namespace Go.Proofs.YtdkfkpbijdimkaaGreatDoor
open Go Go.Sim
set_option linter.unusedSectionVars false
variable [Fu]
def w0 (a:List Int) (i:Nat):List Int:=(List.range 4).map fun j=>a.getD (4*i+j) 0
end Go.Proofs.YtdkfkpbijdimkaaGreatDoor
