import Derived.Test.YtdkfkpbijdimkaaGreatDoorLawBraid2
set_option linter.unusedVariables false
set_option linter.unusedSimpArgs false
set_option maxRecDepth 20000
namespace Go.Proofs.YtdkfkpbijdimkaaGreatDoor
open Go Go.Sim
set_option linter.unusedSectionVars false
variable [Fu]
theorem cn {x:List Int} (h:aI x) (n:Nat):aI (x.take n):=fun b hb=>h b (List.mem_of_mem_take hb)
theorem fi {x:List Int} (h:aI x) (n:Nat):aI (x.drop n):=fun b hb=>h b (List.mem_of_mem_drop hb)
end Go.Proofs.YtdkfkpbijdimkaaGreatDoor
