import Derived.Test.YtlkjdchmeihhkaaGreatDoorBf10
set_option maxRecDepth 1000000
namespace Go.Proofs.YtlkjdchmeihhkaaGreatDoor
open Go Go.Sim
theorem FS [i:Fu]:iy=some true:=by rw[Fu.one i (Fu.of 4096)];kernel_rfl
end Go.Proofs.YtlkjdchmeihhkaaGreatDoor
