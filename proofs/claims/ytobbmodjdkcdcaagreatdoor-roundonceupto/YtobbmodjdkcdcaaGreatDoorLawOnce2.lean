/- RoundOnce: behind a round that went through, the same cells, from the back, in a later round of the same epoch, are none of them fresh: the noise alone goes out; for every job, number and tape that the statement's bound lets in. -/
import Derived.Test.YtobbmodjdkcdcaaGreatDoorLawOnce
import Derived.Test.YtobbmodjdkcdcaaGreatDoorLawAwakeM
import Derived.Test.YtobbmodjdkcdcaaGreatDoorRoundOnceS
namespace Go.Proofs.YtobbmodjdkcdcaaGreatDoor
open Go Go.Sim
theorem roundOnceUpto:Rows.RoundOnceUptoCardSaid:=haveI:Fu:=Fu.of 0;DRoundOnce.card (DR A6)
end Go.Proofs.YtobbmodjdkcdcaaGreatDoor
