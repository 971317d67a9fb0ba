import Derived.Test.YtobbmodjdkcdcaaGreatDoorRm9
set_option maxRecDepth 1000000
namespace Go.Proofs.YtobbmodjdkcdcaaGreatDoor
open Go Go.Sim
theorem Cq [i:Fu]:gL=some true:=by rw[Fu.one i (Fu.of 4096)];kernel_rfl
end Go.Proofs.YtobbmodjdkcdcaaGreatDoor
