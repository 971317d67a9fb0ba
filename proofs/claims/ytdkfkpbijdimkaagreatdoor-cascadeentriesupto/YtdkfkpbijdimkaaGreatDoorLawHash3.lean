import Derived.Test.YtdkfkpbijdimkaaGreatDoorLawHash2
set_option linter.unusedVariables false
set_option linter.unusedSimpArgs false
set_option maxRecDepth 20000
namespace Go.Proofs.YtdkfkpbijdimkaaGreatDoor
open Go Go.Sim
set_option linter.unusedSectionVars false
variable [Fu]
def zeros (n:Nat):Nat:=(119 - n%64)%64
def fill (n:Nat):List Int:=128::List.replicate (zeros n) 0
end Go.Proofs.YtdkfkpbijdimkaaGreatDoor
