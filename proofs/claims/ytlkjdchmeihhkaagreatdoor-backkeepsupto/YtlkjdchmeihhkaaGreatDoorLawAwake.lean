import Derived.Test.YtlkjdchmeihhkaaGreatDoorBk8
set_option maxRecDepth 1000000
namespace Go.Proofs.YtlkjdchmeihhkaaGreatDoor
open Go Go.Sim
theorem D0 [i:Fu]:gp=some true:=by rw[Fu.one i (Fu.of 4096)];kernel_rfl
end Go.Proofs.YtlkjdchmeihhkaaGreatDoor
