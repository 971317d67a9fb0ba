/- LawAwake: the look at the start, run by the kernel. -/
import Derived.Test.YtobbmodjdkcdcaaGreatDoorBc5
set_option maxRecDepth 1000000
namespace Go.Proofs.YtobbmodjdkcdcaaGreatDoor
open Go Go.Sim
theorem awake_eq : f_churnlaw29_awake = some true := by kernel_rfl
end Go.Proofs.YtobbmodjdkcdcaaGreatDoor
