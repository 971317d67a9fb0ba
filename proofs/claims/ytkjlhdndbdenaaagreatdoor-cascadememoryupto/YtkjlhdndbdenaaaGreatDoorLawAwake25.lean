import Derived.Test.YtkjlhdndbdenaaaGreatDoorCm5
set_option maxRecDepth 1000000
namespace Go.Proofs.YtkjlhdndbdenaaaGreatDoor
open Go Go.Sim
theorem qm [i:Fu]:cU=some true:=by rw[Fu.one i (Fu.of 4096)];kernel_rfl
end Go.Proofs.YtkjlhdndbdenaaaGreatDoor
