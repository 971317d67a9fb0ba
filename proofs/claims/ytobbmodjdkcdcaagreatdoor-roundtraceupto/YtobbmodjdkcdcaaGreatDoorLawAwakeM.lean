import Derived.Test.YtobbmodjdkcdcaaGreatDoorRt8
set_option maxRecDepth 1000000
namespace Go.Proofs.YtobbmodjdkcdcaaGreatDoor
open Go Go.Sim
theorem AG [i:Fu]:eu=some true:=by rw[Fu.one i (Fu.of 4096)];kernel_rfl
end Go.Proofs.YtobbmodjdkcdcaaGreatDoor
