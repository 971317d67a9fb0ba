import Derived.Test.YtkjlhdndbdenaaaGreatDoorLawBraid2
set_option autoImplicit true
set_option relaxedAutoImplicit true
set_option linter.all false
set_option maxRecDepth 20000
namespace Go.Proofs.YtkjlhdndbdenaaaGreatDoor
open Go Go.Sim
variable [Fu]
theorem eh {x:List Int} (h:aT x) (n:Nat):aT (x.take n):=λb a=>h b (xq a)
theorem iT {x:List Int} (h:aT x) (n:Nat):aT (x.drop n):=λb a=>h b (List.mem_of_mem_drop a)
end Go.Proofs.YtkjlhdndbdenaaaGreatDoor
