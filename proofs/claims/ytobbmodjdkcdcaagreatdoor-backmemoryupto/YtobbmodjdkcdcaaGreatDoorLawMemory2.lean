/- BackMemory: what back.Forward keeps of a round tells where each cell went, and its outcome is round.Mix's; for every input of bulk up to 1048576 (tied card: churn/hash.roots is laid by the program's text). -/
import Derived.Test.YtobbmodjdkcdcaaGreatDoorLawMemory
import Derived.Test.YtobbmodjdkcdcaaGreatDoorLawAwake
import Derived.Test.YtobbmodjdkcdcaaGreatDoorBackMemoryS
namespace Go.Proofs.YtobbmodjdkcdcaaGreatDoor
open Go Go.Sim
theorem backMemoryUpto:Rows.BackMemoryUptoCardSaid:=haveI:Fu:=Fu.of 0;DBackMemory.card (yM Bo)
end Go.Proofs.YtobbmodjdkcdcaaGreatDoor
