import Derived.Test.YtdkfkpbijdimkaaGreatDoorTh4
set_option maxRecDepth 1000000
namespace Go.Proofs.YtdkfkpbijdimkaaGreatDoor
open Go Go.Sim
theorem kT [i:Fu]:cb=some true:=by
 rw[Fu.one i (Fu.of 4096)]
 kernel_rfl
end Go.Proofs.YtdkfkpbijdimkaaGreatDoor
